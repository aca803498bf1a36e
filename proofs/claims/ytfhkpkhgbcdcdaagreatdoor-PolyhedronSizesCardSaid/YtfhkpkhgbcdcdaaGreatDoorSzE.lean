/- The two checks of the lists of facts. -/
import Derived.Test.YtfhkpkhgbcdcdaaGreatDoorSzC
import Derived.Test.YtfhkpkhgbcdcdaaGreatDoorSzD

set_option maxRecDepth 100000
set_option linter.unusedVariables false
namespace Go.AX.Run
open Go.RowKit Go.Proofs Go.AX
noncomputable section
def okF (e : List AV) : Bool := match e with | [.v (.int .i64 (.ofNat 0)), c, k, m] => dataK 8 c && (dataK 8 k && dataK 8 m) | _ => false
def freeQ (args : List AV) : Option AV := match args with
  | [.ro es] => bif Nat.ble es.length 1000 && es.all okF then some (bo true) else none
  | [.v (.slice none 0 0)] => some (bo true)
  | _ => none
theorem free_nil : PureE Tryz.prog 28 [nl] (bo true) := pure_of hP T0_ok (k := 60) (by kernel_rfl)
theorem freeQ_ok : ∀ args r, freeQ args = some r → args.all (dataK 9) = true ∧ dataK 9 r = true ∧ PureE Tryz.prog 28 args r := by
  intro args r h
  unfold freeQ at h
  split at h
  · rename_i es
    cases hc : (Nat.ble es.length 1000 && es.all okF) with
    | false => rw [hc] at h; cases h
    | true =>
      rw [hc] at h
      cases h
      simp only [Bool.and_eq_true] at hc
      have hall : ∀ e ∈ es, ∃ c k m, e = [.v (.int .i64 0), c, k, m] ∧ dataK 8 c = true ∧ dataK 8 k = true ∧ dataK 8 m = true := fun e he => by
        have := List.all_eq_true.1 hc.2 e he
        unfold okF at this
        split at this
        · rename_i c k m
          simp only [Bool.and_eq_true] at this
          exact ⟨c, k, m, rfl, this.1, this.2.1, this.2.2⟩
        · cases this
      refine ⟨?_, rfl, free_ok es (fun i e he => ?_) (Nat.le_of_ble_eq_true hc.1)⟩
      · simp only [List.all_cons, List.all_nil, Bool.and_true]
        show (es.all fun e => e.all (dataK 8)) = true
        rw [List.all_eq_true]
        intro e he
        obtain ⟨c, k, m, rfl, h1, h2, h3⟩ := hall e he
        simp only [List.all_cons, List.all_nil, h1, h2, h3, Bool.and_true, Bool.true_and]; rfl
      · obtain ⟨c, k, m, rfl, _⟩ := hall e (List.mem_of_getElem? he)
        exact ⟨c, k, m, rfl⟩
  · cases h; exact ⟨rfl, rfl, free_nil⟩
  · cases h
def X0 : Tab := Wt.fun 28 freeQ
theorem X0_ok : TabOK Tryz.prog X0 := Wt_ok.fun freeQ_ok
/-- The polyhedron of k facts. -/
def pk (k : Nat) : AV := .agg [i6 1, bo false, bif Nat.beq k 0 then nl else .ro ((rng 0 k).map fct)]
def ck (k : Nat) : AV := bif Nat.ble k 64 then i6 0 else i6 5
def rowsC (f : Nat) (l : List Nat) : Bool := List.rec (motive := fun _ => Bool) true (fun k _ ih => Bool.rec (motive := fun _ => Bool) false ih (rowOK Tryz.prog X0 60 f ([pk k], ck k))) l
theorem c11_0 : rowsC 11 (rng 0 20) = true := by kernel_rfl
theorem c11_20 : rowsC 11 (rng 20 10) = true := by kernel_rfl
theorem c11_30 : rowsC 11 (rng 30 10) = true := by kernel_rfl
theorem c11_40 : rowsC 11 (rng 40 7) = true := by kernel_rfl
theorem c11_47 : rowsC 11 (rng 47 6) = true := by kernel_rfl
theorem c11_53 : rowsC 11 (rng 53 6) = true := by kernel_rfl
theorem c11_59 : rowsC 11 (rng 59 6) = true := by kernel_rfl
theorem c11_65 : rowsC 11 (rng 65 5) = true := by kernel_rfl
theorem c12_0 : rowsC 12 (rng 0 20) = true := by kernel_rfl
theorem c12_20 : rowsC 12 (rng 20 10) = true := by kernel_rfl
theorem c12_30 : rowsC 12 (rng 30 10) = true := by kernel_rfl
theorem c12_40 : rowsC 12 (rng 40 7) = true := by kernel_rfl
theorem c12_47 : rowsC 12 (rng 47 6) = true := by kernel_rfl
theorem c12_53 : rowsC 12 (rng 53 6) = true := by kernel_rfl
theorem c12_59 : rowsC 12 (rng 59 6) = true := by kernel_rfl
theorem c12_65 : rowsC 12 (rng 65 5) = true := by kernel_rfl
theorem rowsC_get {f : Nat} : ∀ {l : List Nat}, rowsC f l = true → ∀ k ∈ l, PureE Tryz.prog f [pk k] (ck k) := by
  intro l
  induction l with
  | nil => intro _ k hk; cases hk
  | cons x l ih =>
    intro h k hk
    have h : Bool.rec (motive := fun _ => Bool) false (rowsC f l) (rowOK Tryz.prog X0 60 f ([pk x], ck x)) = true := h
    cases hb : rowOK Tryz.prog X0 60 f ([pk x], ck x) with
    | false => rw [hb] at h; cases h
    | true =>
      rw [hb] at h
      rcases List.mem_cons.1 hk with rfl | hk
      · exact (row_pure hP X0_ok hb).2.2
      · exact ih h k hk
theorem check_ok (k : Nat) (hk : k < 70) : PureE Tryz.prog 11 [pk k] (ck k) := by
  by_cases h0 : k < 20
  · exact rowsC_get c11_0 k (by simp only [rng, List.mem_range'_1]; omega)
  by_cases h1 : k < 30
  · exact rowsC_get c11_20 k (by simp only [rng, List.mem_range'_1]; omega)
  by_cases h2 : k < 40
  · exact rowsC_get c11_30 k (by simp only [rng, List.mem_range'_1]; omega)
  by_cases h3 : k < 47
  · exact rowsC_get c11_40 k (by simp only [rng, List.mem_range'_1]; omega)
  by_cases h4 : k < 53
  · exact rowsC_get c11_47 k (by simp only [rng, List.mem_range'_1]; omega)
  by_cases h5 : k < 59
  · exact rowsC_get c11_53 k (by simp only [rng, List.mem_range'_1]; omega)
  by_cases h6 : k < 65
  · exact rowsC_get c11_59 k (by simp only [rng, List.mem_range'_1]; omega)
  by_cases h7 : k < 70
  · exact rowsC_get c11_65 k (by simp only [rng, List.mem_range'_1]; omega)
  omega
theorem rcheck_ok (k : Nat) (hk : k < 70) : PureE Tryz.prog 12 [pk k] (ck k) := by
  by_cases h0 : k < 20
  · exact rowsC_get c12_0 k (by simp only [rng, List.mem_range'_1]; omega)
  by_cases h1 : k < 30
  · exact rowsC_get c12_20 k (by simp only [rng, List.mem_range'_1]; omega)
  by_cases h2 : k < 40
  · exact rowsC_get c12_30 k (by simp only [rng, List.mem_range'_1]; omega)
  by_cases h3 : k < 47
  · exact rowsC_get c12_40 k (by simp only [rng, List.mem_range'_1]; omega)
  by_cases h4 : k < 53
  · exact rowsC_get c12_47 k (by simp only [rng, List.mem_range'_1]; omega)
  by_cases h5 : k < 59
  · exact rowsC_get c12_53 k (by simp only [rng, List.mem_range'_1]; omega)
  by_cases h6 : k < 65
  · exact rowsC_get c12_59 k (by simp only [rng, List.mem_range'_1]; omega)
  by_cases h7 : k < 70
  · exact rowsC_get c12_65 k (by simp only [rng, List.mem_range'_1]; omega)
  omega
theorem whole_pure (k : Nat) (hk : k < 70) : PureE Tryz.prog 8 [.v (.int .i64 (.ofNat k))] (wh k) := by
  have h : tblOK Tryz.prog T0 60 8 rWhole = true := by kernel_rfl
  exact (row_pure hP T0_ok (tblOK_mem h ([.v (.int .i64 (.ofNat k))], wh k) (List.mem_map.2 ⟨k, by simp only [rng, List.mem_range'_1]; omega, rfl⟩))).2.2
theorem awake_pure : PureE Tryz.prog 9 [] (bo true) := pure_of hP T25_ok awake_ok
end
end Go.AX.Run
