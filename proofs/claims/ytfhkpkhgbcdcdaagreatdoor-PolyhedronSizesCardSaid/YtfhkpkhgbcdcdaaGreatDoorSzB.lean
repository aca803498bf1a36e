/- Calls that have been run. -/
import Derived.Test.YtfhkpkhgbcdcdaaGreatDoorSzA

set_option maxRecDepth 100000
namespace Go.AX.Run
open Go.RowKit Go.Proofs Go.AX
noncomputable section
def T0 : Tab := (tab0 [30, 31, 32, 36, 37, 39, 50, 51, 54, 55, 56, 57, 58, 59, 60, 61, 63, 64, 65, 66, 83, 88, 89, 90, 91, 92, 93, 94, 95, 96, 98, 99, 100, 113, 121, 123, 124, 125, 126, 127, 128, 129, 130, 132, 133, 134, 135, 139, 142, 144, 146, 163, 171, 172, 173, 174, 175, 177, 179, 180, 181, 182, 183, 184, 186, 187, 188, 189, 190, 195, 199, 200, 216, 230, 231, 234, 235, 236, 239, 240, 241, 242, 243, 244, 245, 246, 247, 248, 252, 253, 259, 280, 281, 283, 340] [176, 178, 233, 278] [257] [274]).also 266 [([], opsV)]
theorem T0_ok : TabOK Tryz.prog T0 := TabOK.alsoP (tab0_ok ext1 ext2) fun p hp => by
  simp only [List.mem_cons, List.not_mem_nil, or_false] at hp; subst hp; exact ⟨rfl, by kernel_rfl, operations_ok⟩
/- surveyor/bigint.Check -/
def t1 : Tbl := [
  ([(sb [49])], (i6 (0))),
  ([(sb [48])], (i6 (0))),
  ([(sb [50])], (i6 (0))),
  ([(sb [45, 49])], (i6 (0))),
  ([(sb [51])], (i6 (0))),
  ([(sb [45, 50])], (i6 (0))),
  ([(sb [54])], (i6 (0))),
  ([(sb [55])], (i6 (0))),
  ([(sb [45, 51])], (i6 (0))),
  ([(sb [45, 54])], (i6 (0))),
  ([(sb [45, 55])], (i6 (0))),
  ([(sb [52])], (i6 (0))),
  ([(sb [45, 52])], (i6 (0)))]
def T1 : Tab := T0.also 102 t1
theorem T1_ok : TabOK Tryz.prog T1 := T0_ok.also hP (k := 60) (by kernel_rfl)
/- surveyor/bigint.Compare -/
def t2 : Tbl := [
  ([(sb [50]), (sb [48])], (.tup [(i6 (1)), (i6 (0))])),
  ([(sb [45, 49]), (sb [48])], (.tup [(i6 (-1)), (i6 (0))])),
  ([(sb [49]), (sb [48])], (.tup [(i6 (1)), (i6 (0))])),
  ([(sb [49]), (sb [45, 49])], (.tup [(i6 (1)), (i6 (0))])),
  ([(sb [45, 50]), (sb [48])], (.tup [(i6 (-1)), (i6 (0))])),
  ([(sb [48]), (sb [49])], (.tup [(i6 (-1)), (i6 (0))])),
  ([(sb [45, 49]), (sb [49])], (.tup [(i6 (-1)), (i6 (0))]))]
def T2 : Tab := T1.also 38 t2
theorem T2_ok : TabOK Tryz.prog T2 := T1_ok.also hP (k := 60) (by kernel_rfl)
/- surveyor/bigint.Sign -/
def t3 : Tbl := [
  ([(sb [50])], (.tup [(i6 (1)), (i6 (0))])),
  ([(sb [45, 49])], (.tup [(i6 (-1)), (i6 (0))])),
  ([(sb [49])], (.tup [(i6 (1)), (i6 (0))])),
  ([(sb [45, 50])], (.tup [(i6 (-1)), (i6 (0))]))]
def T3 : Tab := T2.also 41 t3
theorem T3_ok : TabOK Tryz.prog T3 := T2_ok.also hP (k := 60) (by kernel_rfl)
/- surveyor/bigint.Add -/
def t4 : Tbl := [
  ([(sb [54]), (sb [49])], (.tup [(sb [55]), (i6 (0))])),
  ([(sb [49]), (sb [45, 49])], (.tup [(sb [48]), (i6 (0))])),
  ([(sb [45, 50]), (sb [50])], (.tup [(sb [48]), (i6 (0))])),
  ([(sb [45, 49]), (sb [49])], (.tup [(sb [48]), (i6 (0))])),
  ([(sb [50]), (sb [45, 50])], (.tup [(sb [48]), (i6 (0))])),
  ([(sb [45, 54]), (sb [45, 49])], (.tup [(sb [45, 55]), (i6 (0))])),
  ([(sb [45, 52]), (sb [52])], (.tup [(sb [48]), (i6 (0))])),
  ([(sb [45, 49]), (sb [50])], (.tup [(sb [49]), (i6 (0))])),
  ([(sb [52]), (sb [45, 52])], (.tup [(sb [48]), (i6 (0))])),
  ([(sb [49]), (sb [45, 50])], (.tup [(sb [45, 49]), (i6 (0))]))]
def T4 : Tab := T3.also 299 t4
theorem T4_ok : TabOK Tryz.prog T4 := T3_ok.also hP (k := 60) (by kernel_rfl)
/- surveyor/bigint.Sub -/
def t5 : Tbl := [
  ([(sb [48]), (sb [49])], (.tup [(sb [45, 49]), (i6 (0))])),
  ([(sb [50]), (sb [50])], (.tup [(sb [48]), (i6 (0))])),
  ([(sb [50]), (sb [48])], (.tup [(sb [50]), (i6 (0))])),
  ([(sb [45, 49]), (sb [48])], (.tup [(sb [45, 49]), (i6 (0))])),
  ([(sb [48]), (sb [50])], (.tup [(sb [45, 50]), (i6 (0))]))]
def T5 : Tab := T4.also 300 t5
theorem T5_ok : TabOK Tryz.prog T5 := T4_ok.also hP (k := 60) (by kernel_rfl)
/- surveyor/bigint.Neg -/
def t6 : Tbl := [
  ([(sb [49])], (.tup [(sb [45, 49]), (i6 (0))])),
  ([(sb [50])], (.tup [(sb [45, 50]), (i6 (0))]))]
def T6 : Tab := T5.also 304 t6
theorem T6_ok : TabOK Tryz.prog T6 := T5_ok.also hP (k := 60) (by kernel_rfl)
/- surveyor/bigint.Mul -/
def t7 : Tbl := [
  ([(sb [49]), (sb [49])], (.tup [(sb [49]), (i6 (0))])),
  ([(sb [49]), (sb [50])], (.tup [(sb [50]), (i6 (0))])),
  ([(sb [45, 50]), (sb [49])], (.tup [(sb [45, 50]), (i6 (0))])),
  ([(sb [51]), (sb [50])], (.tup [(sb [54]), (i6 (0))])),
  ([(sb [49]), (sb [45, 49])], (.tup [(sb [45, 49]), (i6 (0))])),
  ([(sb [45, 49]), (sb [45, 49])], (.tup [(sb [49]), (i6 (0))])),
  ([(sb [45, 49]), (sb [49])], (.tup [(sb [45, 49]), (i6 (0))])),
  ([(sb [45, 50]), (sb [45, 49])], (.tup [(sb [50]), (i6 (0))])),
  ([(sb [50]), (sb [49])], (.tup [(sb [50]), (i6 (0))])),
  ([(sb [50]), (sb [45, 49])], (.tup [(sb [45, 50]), (i6 (0))])),
  ([(sb [45, 51]), (sb [50])], (.tup [(sb [45, 54]), (i6 (0))])),
  ([(sb [48]), (sb [49])], (.tup [(sb [48]), (i6 (0))])),
  ([(sb [50]), (sb [48])], (.tup [(sb [48]), (i6 (0))])),
  ([(sb [45, 52]), (sb [49])], (.tup [(sb [45, 52]), (i6 (0))])),
  ([(sb [52]), (sb [49])], (.tup [(sb [52]), (i6 (0))])),
  ([(sb [49]), (sb [45, 50])], (.tup [(sb [45, 50]), (i6 (0))])),
  ([(sb [45, 49]), (sb [50])], (.tup [(sb [45, 50]), (i6 (0))])),
  ([(sb [45, 49]), (sb [52])], (.tup [(sb [45, 52]), (i6 (0))])),
  ([(sb [45, 49]), (sb [45, 50])], (.tup [(sb [50]), (i6 (0))])),
  ([(sb [45, 50]), (sb [50])], (.tup [(sb [45, 52]), (i6 (0))]))]
def T7 : Tab := T6.also 318 t7
theorem T7_ok : TabOK Tryz.prog T7 := T6_ok.also hP (k := 60) (by kernel_rfl)
/- surveyor/bigint.Quo -/
def t8 : Tbl := [
  ([(sb [49]), (sb [49])], (.tup [(sb [49]), (i6 (0))])),
  ([(sb [50]), (sb [49])], (.tup [(sb [50]), (i6 (0))])),
  ([(sb [45, 50]), (sb [50])], (.tup [(sb [45, 49]), (i6 (0))])),
  ([(sb [50]), (sb [50])], (.tup [(sb [49]), (i6 (0))])),
  ([(sb [55]), (sb [49])], (.tup [(sb [55]), (i6 (0))])),
  ([(sb [49]), (sb [45, 49])], (.tup [(sb [45, 49]), (i6 (0))])),
  ([(sb [45, 49]), (sb [45, 49])], (.tup [(sb [49]), (i6 (0))])),
  ([(sb [48]), (sb [49])], (.tup [(sb [48]), (i6 (0))])),
  ([(sb [45, 50]), (sb [49])], (.tup [(sb [45, 50]), (i6 (0))])),
  ([(sb [45, 49]), (sb [49])], (.tup [(sb [45, 49]), (i6 (0))])),
  ([(sb [45, 55]), (sb [49])], (.tup [(sb [45, 55]), (i6 (0))])),
  ([(sb [45, 52]), (sb [45, 49])], (.tup [(sb [52]), (i6 (0))])),
  ([(sb [50]), (sb [45, 49])], (.tup [(sb [45, 50]), (i6 (0))])),
  ([(sb [52]), (sb [50])], (.tup [(sb [50]), (i6 (0))])),
  ([(sb [45, 52]), (sb [45, 50])], (.tup [(sb [50]), (i6 (0))])),
  ([(sb [45, 50]), (sb [45, 50])], (.tup [(sb [49]), (i6 (0))])),
  ([(sb [45, 50]), (sb [45, 49])], (.tup [(sb [50]), (i6 (0))])),
  ([(sb [50]), (sb [45, 50])], (.tup [(sb [45, 49]), (i6 (0))])),
  ([(sb [45, 52]), (sb [49])], (.tup [(sb [45, 52]), (i6 (0))])),
  ([(sb [52]), (sb [49])], (.tup [(sb [52]), (i6 (0))]))]
def T8 : Tab := T7.also 161 t8
theorem T8_ok : TabOK Tryz.prog T8 := T7_ok.also hP (k := 60) (by kernel_rfl)
/- surveyor/bigint.Gcd -/
def t9 : Tbl := [
  ([(sb [49]), (sb [50])], (.tup [(sb [49]), (i6 (0))])),
  ([(sb [45, 50]), (sb [50])], (.tup [(sb [50]), (i6 (0))])),
  ([(sb [55]), (sb [50])], (.tup [(sb [49]), (i6 (0))])),
  ([(sb [49]), (sb [45, 49])], (.tup [(sb [49]), (i6 (0))])),
  ([(sb [49]), (sb [49])], (.tup [(sb [49]), (i6 (0))])),
  ([(sb [48]), (sb [49])], (.tup [(sb [49]), (i6 (0))])),
  ([(sb [50]), (sb [49])], (.tup [(sb [49]), (i6 (0))])),
  ([(sb [50]), (sb [50])], (.tup [(sb [50]), (i6 (0))])),
  ([(sb [45, 50]), (sb [49])], (.tup [(sb [49]), (i6 (0))])),
  ([(sb [45, 49]), (sb [50])], (.tup [(sb [49]), (i6 (0))])),
  ([(sb [45, 55]), (sb [50])], (.tup [(sb [49]), (i6 (0))])),
  ([(sb [49]), (sb [48])], (.tup [(sb [49]), (i6 (0))])),
  ([(sb [45, 49]), (sb [49])], (.tup [(sb [49]), (i6 (0))])),
  ([(sb [48]), (sb [48])], (.tup [(sb [48]), (i6 (0))])),
  ([(sb [48]), (sb [50])], (.tup [(sb [50]), (i6 (0))])),
  ([(sb [50]), (sb [45, 49])], (.tup [(sb [49]), (i6 (0))])),
  ([(sb [45, 49]), (sb [45, 49])], (.tup [(sb [49]), (i6 (0))])),
  ([(sb [48]), (sb [45, 49])], (.tup [(sb [49]), (i6 (0))])),
  ([(sb [45, 52]), (sb [45, 49])], (.tup [(sb [49]), (i6 (0))])),
  ([(sb [52]), (sb [50])], (.tup [(sb [50]), (i6 (0))])),
  ([(sb [45, 52]), (sb [45, 50])], (.tup [(sb [50]), (i6 (0))])),
  ([(sb [49]), (sb [45, 50])], (.tup [(sb [49]), (i6 (0))])),
  ([(sb [50]), (sb [45, 50])], (.tup [(sb [50]), (i6 (0))])),
  ([(sb [45, 52]), (sb [49])], (.tup [(sb [49]), (i6 (0))])),
  ([(sb [52]), (sb [49])], (.tup [(sb [49]), (i6 (0))])),
  ([(sb [49]), (sb [52])], (.tup [(sb [49]), (i6 (0))]))]
def T9 : Tab := T8.also 71 t9
theorem T9_ok : TabOK Tryz.prog T9 := T8_ok.also hP (k := 60) (by kernel_rfl)
/- surveyor/bigint.Lcm -/
def t10 : Tbl := [
  ([(sb [49]), (sb [49])], (.tup [(sb [49]), (i6 (0))]))]
def T10 : Tab := T9.also 159 t10
theorem T10_ok : TabOK Tryz.prog T10 := T9_ok.also hP (k := 60) (by kernel_rfl)
/- surveyor/rational.Check -/
def t11 : Tbl := [
  ([(sb [48])], (i6 (0))),
  ([(sb [49])], (i6 (0))),
  ([(sb [50])], (i6 (0))),
  ([(sb [45, 50])], (i6 (0))),
  ([(sb [51])], (i6 (0))),
  ([(sb [49, 47, 50])], (i6 (0))),
  ([(sb [45, 49])], (i6 (0))),
  ([(sb [45, 51])], (i6 (0))),
  ([(sb [45, 49, 47, 50])], (i6 (0))),
  ([(sb [45, 52])], (i6 (0))),
  ([(sb [52])], (i6 (0)))]
def T11 : Tab := T10.also 85 t11
theorem T11_ok : TabOK Tryz.prog T11 := T10_ok.also hP (k := 60) (by kernel_rfl)
/- surveyor/rational.Num -/
def t12 : Tbl := [
  ([(sb [48])], (.tup [(sb [48]), (i6 (0))])),
  ([(sb [49])], (.tup [(sb [49]), (i6 (0))])),
  ([(sb [50])], (.tup [(sb [50]), (i6 (0))])),
  ([(sb [45, 49])], (.tup [(sb [45, 49]), (i6 (0))])),
  ([(sb [51])], (.tup [(sb [51]), (i6 (0))])),
  ([(sb [45, 50])], (.tup [(sb [45, 50]), (i6 (0))])),
  ([(sb [52])], (.tup [(sb [52]), (i6 (0))]))]
def T12 : Tab := T11.also 86 t12
theorem T12_ok : TabOK Tryz.prog T12 := T11_ok.also hP (k := 60) (by kernel_rfl)
/- surveyor/rational.Den -/
def t13 : Tbl := [
  ([(sb [48])], (.tup [(sb [49]), (i6 (0))])),
  ([(sb [49])], (.tup [(sb [49]), (i6 (0))])),
  ([(sb [50])], (.tup [(sb [49]), (i6 (0))])),
  ([(sb [45, 49])], (.tup [(sb [49]), (i6 (0))])),
  ([(sb [51])], (.tup [(sb [49]), (i6 (0))])),
  ([(sb [45, 50])], (.tup [(sb [49]), (i6 (0))])),
  ([(sb [52])], (.tup [(sb [49]), (i6 (0))]))]
def T13 : Tab := T12.also 87 t13
theorem T13_ok : TabOK Tryz.prog T13 := T12_ok.also hP (k := 60) (by kernel_rfl)
/- surveyor/rational.Neg -/
def t14 : Tbl := [
  ([(sb [45, 49])], (.tup [(sb [49]), (i6 (0))]))]
def T14 : Tab := T13.also 282 t14
theorem T14_ok : TabOK Tryz.prog T14 := T13_ok.also hP (k := 60) (by kernel_rfl)
/- surveyor/rational.Add -/
def t15 : Tbl := [
  ([(sb [51]), (sb [49, 47, 50])], (.tup [(sb [55, 47, 50]), (i6 (0))])),
  ([(sb [49]), (sb [45, 49])], (.tup [(sb [48]), (i6 (0))])),
  ([(sb [45, 50]), (sb [50])], (.tup [(sb [48]), (i6 (0))])),
  ([(sb [45, 49]), (sb [49])], (.tup [(sb [48]), (i6 (0))])),
  ([(sb [50]), (sb [45, 50])], (.tup [(sb [48]), (i6 (0))])),
  ([(sb [45, 51]), (sb [45, 49, 47, 50])], (.tup [(sb [45, 55, 47, 50]), (i6 (0))])),
  ([(sb [45, 52]), (sb [52])], (.tup [(sb [48]), (i6 (0))])),
  ([(sb [45, 49]), (sb [50])], (.tup [(sb [49]), (i6 (0))])),
  ([(sb [52]), (sb [45, 52])], (.tup [(sb [48]), (i6 (0))])),
  ([(sb [49]), (sb [45, 50])], (.tup [(sb [45, 49]), (i6 (0))]))]
def T15 : Tab := T14.also 279 t15
theorem T15_ok : TabOK Tryz.prog T15 := T14_ok.also hP (k := 60) (by kernel_rfl)
/- surveyor/rational.Sub -/
def t16 : Tbl := [
  ([(sb [50]), (sb [50])], (.tup [(sb [48]), (i6 (0))])),
  ([(sb [50]), (sb [48])], (.tup [(sb [50]), (i6 (0))])),
  ([(sb [45, 49]), (sb [48])], (.tup [(sb [45, 49]), (i6 (0))]))]
def T16 : Tab := T15.also 162 t16
theorem T16_ok : TabOK Tryz.prog T16 := T15_ok.also hP (k := 60) (by kernel_rfl)
/- surveyor/rational.Mul -/
def t17 : Tbl := [
  ([(sb [45, 49]), (sb [45, 49])], (.tup [(sb [49]), (i6 (0))])),
  ([(sb [45, 50]), (sb [49, 47, 50])], (.tup [(sb [45, 49]), (i6 (0))])),
  ([(sb [45, 50]), (sb [45, 49])], (.tup [(sb [50]), (i6 (0))])),
  ([(sb [50]), (sb [49, 47, 50])], (.tup [(sb [49]), (i6 (0))])),
  ([(sb [50]), (sb [45, 49])], (.tup [(sb [45, 50]), (i6 (0))])),
  ([(sb [45, 49]), (sb [49, 47, 50])], (.tup [(sb [45, 49, 47, 50]), (i6 (0))])),
  ([(sb [49]), (sb [49])], (.tup [(sb [49]), (i6 (0))])),
  ([(sb [48]), (sb [49])], (.tup [(sb [48]), (i6 (0))])),
  ([(sb [50]), (sb [49])], (.tup [(sb [50]), (i6 (0))])),
  ([(sb [50]), (sb [48])], (.tup [(sb [48]), (i6 (0))])),
  ([(sb [45, 49]), (sb [49])], (.tup [(sb [45, 49]), (i6 (0))])),
  ([(sb [45, 49]), (sb [50])], (.tup [(sb [45, 50]), (i6 (0))])),
  ([(sb [45, 49]), (sb [45, 49, 47, 50])], (.tup [(sb [49, 47, 50]), (i6 (0))])),
  ([(sb [45, 49]), (sb [52])], (.tup [(sb [45, 52]), (i6 (0))])),
  ([(sb [45, 49]), (sb [45, 50])], (.tup [(sb [50]), (i6 (0))])),
  ([(sb [45, 50]), (sb [49])], (.tup [(sb [45, 50]), (i6 (0))])),
  ([(sb [52]), (sb [49])], (.tup [(sb [52]), (i6 (0))])),
  ([(sb [45, 50]), (sb [50])], (.tup [(sb [45, 52]), (i6 (0))])),
  ([(sb [45, 50]), (sb [45, 49, 47, 50])], (.tup [(sb [49]), (i6 (0))]))]
def T17 : Tab := T16.also 160 t17
theorem T17_ok : TabOK Tryz.prog T17 := T16_ok.also hP (k := 60) (by kernel_rfl)
/- surveyor/rational.Div -/
def t18 : Tbl := [
  ([(sb [49]), (sb [50])], (.tup [(sb [49, 47, 50]), (i6 (0))])),
  ([(sb [45, 50]), (sb [50])], (.tup [(sb [45, 49]), (i6 (0))])),
  ([(sb [49]), (sb [45, 49])], (.tup [(sb [45, 49]), (i6 (0))])),
  ([(sb [49]), (sb [49])], (.tup [(sb [49]), (i6 (0))])),
  ([(sb [48]), (sb [49])], (.tup [(sb [48]), (i6 (0))])),
  ([(sb [45, 49]), (sb [45, 49])], (.tup [(sb [49]), (i6 (0))])),
  ([(sb [45, 52]), (sb [45, 49])], (.tup [(sb [52]), (i6 (0))])),
  ([(sb [50]), (sb [45, 49])], (.tup [(sb [45, 50]), (i6 (0))])),
  ([(sb [52]), (sb [50])], (.tup [(sb [50]), (i6 (0))])),
  ([(sb [45, 52]), (sb [45, 50])], (.tup [(sb [50]), (i6 (0))])),
  ([(sb [49]), (sb [45, 50])], (.tup [(sb [45, 49, 47, 50]), (i6 (0))])),
  ([(sb [50]), (sb [45, 50])], (.tup [(sb [45, 49]), (i6 (0))]))]
def T18 : Tab := T17.also 232 t18
theorem T18_ok : TabOK Tryz.prog T18 := T17_ok.also hP (k := 60) (by kernel_rfl)
/- surveyor/fact.Check -/
def t19 : Tbl := [
  ([(.agg [(i6 (0)), (.ro [[(sb [49])], [(sb [48])]]), (sb [48]), (sb [48])]), (i6 (2))], (i6 (0))),
  ([(.agg [(i6 (0)), (.ro [[(sb [50])], [(sb [50])]]), (sb [45, 49]), (sb [48])]), (i6 (2))], (i6 (0))),
  ([(.agg [(i6 (0)), (.ro [[(sb [45, 49])], [(sb [48])]]), (sb [48]), (sb [48])]), (i6 (2))], (i6 (0))),
  ([(.agg [(i6 (0)), (.ro [[(sb [48])], [(sb [49])]]), (sb [51]), (sb [48])]), (i6 (2))], (i6 (0))),
  ([(.agg [(i6 (0)), (.ro [[(sb [49])], [(sb [48])]]), (sb [45, 49]), (sb [48])]), (i6 (2))], (i6 (0))),
  ([(.agg [(i6 (0)), (.ro [[(sb [45, 49])], [(sb [49])]]), (sb [48]), (sb [48])]), (i6 (2))], (i6 (0))),
  ([(.agg [(i6 (0)), (.ro [[(sb [48])], [(sb [49])]]), (sb [48]), (sb [48])]), (i6 (2))], (i6 (0))),
  ([(.agg [(i6 (0)), (.ro [[(sb [45, 49])], [(sb [45, 50])]]), (sb [52]), (sb [48])]), (i6 (2))], (i6 (0)))]
def T19 : Tab := T18.also 35 t19
theorem T19_ok : TabOK Tryz.prog T19 := T18_ok.also hP (k := 60) (by kernel_rfl)
/- surveyor/polyhedron.Make -/
def t20 : Tbl := [
  ([(.ro [[(i6 (0)), (.ro [[(sb [49])], [(sb [48])]]), (sb [48]), (sb [48])], [(i6 (0)), (.ro [[(sb [50])], [(sb [50])]]), (sb [45, 49]), (sb [48])], [(i6 (0)), (.ro [[(sb [45, 49])], [(sb [48])]]), (sb [48]), (sb [48])], [(i6 (0)), (.ro [[(sb [48])], [(sb [49])]]), (sb [51]), (sb [48])]]), (i6 (2))], (.tup [(.agg [(i6 (2)), (bo false), (.ro [[(i6 (0)), (.ro [[(sb [48])], [(sb [50])]]), (sb [45, 49]), (sb [48])], [(i6 (1)), (.ro [[(sb [49])], [(sb [48])]]), (sb [48]), (sb [48])]])]), (i6 (0))]))]
def T20 : Tab := T19.also 16 t20
theorem T20_ok : TabOK Tryz.prog T20 := T19_ok.also hP (k := 60) (by kernel_rfl)
/- surveyor/polyhedron.Make -/
def t21 : Tbl := [
  ([(.ro [[(i6 (0)), (.ro [[(sb [49])], [(sb [48])]]), (sb [45, 49]), (sb [48])], [(i6 (0)), (.ro [[(sb [45, 49])], [(sb [48])]]), (sb [48]), (sb [48])]]), (i6 (2))], (.tup [(.agg [(i6 (2)), (bo true), nl]), (i6 (0))]))]
def T21 : Tab := T20.also 16 t21
theorem T21_ok : TabOK Tryz.prog T21 := T20_ok.also hP (k := 60) (by kernel_rfl)
/- surveyor/polyhedron.Make -/
def t22 : Tbl := [
  ([(.ro [[(i6 (0)), (.ro [[(sb [45, 49])], [(sb [49])]]), (sb [48]), (sb [48])], [(i6 (0)), (.ro [[(sb [48])], [(sb [49])]]), (sb [48]), (sb [48])], [(i6 (0)), (.ro [[(sb [49])], [(sb [48])]]), (sb [48]), (sb [48])]]), (i6 (2))], (.tup [(.agg [(i6 (2)), (bo false), (.ro [[(i6 (0)), (.ro [[(sb [45, 49])], [(sb [49])]]), (sb [48]), (sb [48])], [(i6 (0)), (.ro [[(sb [49])], [(sb [48])]]), (sb [48]), (sb [48])]])]), (i6 (0))]))]
def T22 : Tab := T21.also 16 t22
theorem T22_ok : TabOK Tryz.prog T22 := T21_ok.also hP (k := 60) (by kernel_rfl)
/- surveyor/polyhedron.Make -/
def t23 : Tbl := [
  ([(.ro [[(i6 (0)), (.ro [[(sb [49])], [(sb [48])]]), (sb [48]), (sb [48])], [(i6 (0)), (.ro [[(sb [48])], [(sb [49])]]), (sb [48]), (sb [48])], [(i6 (0)), (.ro [[(sb [45, 49])], [(sb [45, 50])]]), (sb [52]), (sb [48])]]), (i6 (2))], (.tup [(.agg [(i6 (2)), (bo false), (.ro [[(i6 (0)), (.ro [[(sb [45, 49])], [(sb [45, 50])]]), (sb [52]), (sb [48])], [(i6 (0)), (.ro [[(sb [48])], [(sb [49])]]), (sb [48]), (sb [48])], [(i6 (0)), (.ro [[(sb [49])], [(sb [48])]]), (sb [48]), (sb [48])]])]), (i6 (0))]))]
def T23 : Tab := T22.also 16 t23
theorem T23_ok : TabOK Tryz.prog T23 := T22_ok.also hP (k := 60) (by kernel_rfl)
/- surveyor/polyhedron.Bounds -/
def t24 : Tbl := [
  ([(.agg [(i6 (2)), (bo false), (.ro [[(i6 (0)), (.ro [[(sb [45, 49])], [(sb [45, 50])]]), (sb [52]), (sb [48])], [(i6 (0)), (.ro [[(sb [48])], [(sb [49])]]), (sb [48]), (sb [48])], [(i6 (0)), (.ro [[(sb [49])], [(sb [48])]]), (sb [48]), (sb [48])]])]), (.agg [(.ro [[(sb [49])], [(sb [49])]]), (sb [48])])], (.tup [(sb [48]), (sb [52]), (i6 (0))]))]
def T24 : Tab := T23.also 18 t24
theorem T24_ok : TabOK Tryz.prog T24 := T23_ok.also hP (k := 60) (by kernel_rfl)
/- surveyor/polyhedron.Dimension -/
def t25 : Tbl := [
  ([(.agg [(i6 (2)), (bo false), (.ro [[(i6 (0)), (.ro [[(sb [45, 49])], [(sb [45, 50])]]), (sb [52]), (sb [48])], [(i6 (0)), (.ro [[(sb [48])], [(sb [49])]]), (sb [48]), (sb [48])], [(i6 (0)), (.ro [[(sb [49])], [(sb [48])]]), (sb [48]), (sb [48])]])])], (.tup [(i6 (2)), (i6 (0))]))]
def T25 : Tab := T24.also 19 t25
theorem T25_ok : TabOK Tryz.prog T25 := T24_ok.also hP (k := 60) (by kernel_rfl)
theorem awake_ok : rowOK Tryz.prog T25 100 9 ([], bo true) = true := by kernel_rfl
end
end Go.AX.Run
