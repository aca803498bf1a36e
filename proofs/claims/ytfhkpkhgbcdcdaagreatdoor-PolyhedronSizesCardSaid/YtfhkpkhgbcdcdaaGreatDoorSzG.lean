/- The statement PolyhedronSizes: for every n and count the Go function surveyorlaw28.PolyhedronSizes returns true and leaves its arguments as they are; no condition beyond those of the given row. -/
import Derived.Test.YtfhkpkhgbcdcdaaGreatDoorTie
import Derived.Test.YtfhkpkhgbcdcdaaGreatDoorCards
import Derived.Test.YtfhkpkhgbcdcdaaGreatDoorSzF
import Derived.ProofKit
import Derived.OpenShut
import Derived.LaidMore
import Derived.Lay
import Derived.SevenTiedAt
import Derived.Below
import Derived.Stop.Joined

set_option linter.unusedVariables false
namespace Go.AX
open Go.RowKit
theorem CallOK.calls {P : Program} {f : FuncId} {vs : List Value} {x : Value} {w : World} (h : CallOK P f (vs.map AV.v) noHeap 0 fun r _ _ => r = .v x) : Calls P f vs.toArray w fun e w' => e = .returned x ∧ Below w.heap.size w w' := by
  let E : Env := ⟨fun _ => 0, fun _ => 0, fun c => c < w.heap.size, 0, fun c => c < w.heap.size, fun _ => False, fun _ => False⟩
  have hE : HRel E w.heap.size w noHeap w := ⟨fun id b hb => (nomatch hb), fun id b hb => (nomatch hb), fun i j p q h1 => (nomatch h1), fun id b hb => (nomatch hb), fun id b hb => (nomatch hb), fun c hc => hc, fun c hc => .inl hc, Nat.le_refl _, Below.refl _ _, fun id b hb => (nomatch hb), fun c hc => hc.elim, fun c hc => hc.elim, fun c hc => hc.elim, fun i j p q h1 => (nomatch h1)⟩
  refine (h E w.heap.size w w vs.toArray hE rfl (by simp) (fun j u hu => ?_)).mono ?_
  · simp only [List.getElem?_map, Option.map_eq_some_iff] at hu
    obtain ⟨v, hv, rfl⟩ := hu
    have : vs.toArray.getD j undef = v := by simp [Array.getD_eq_getD_getElem?, hv]
    rw [this]; exact .v v
  · rintro e w' ⟨v, E', r, H', N', rfl, g2, g3, g4, g5, g6, rfl⟩
    cases g6
    exact ⟨rfl, g4.bel⟩
end Go.AX
namespace Go.Proofs.YtfhkpkhgbcdcdaaGreatDoor
open Go.ChangeShapes Go.WideShapes Go.ChangeAt Go.RowKit
theorem own : ownKnob Tryz.prog.godebug = none := by kernel_rfl
theorem walk (a0 : Int) (a1 : Int) (w1 : (Lit.int .u8 a1).wf = true) (w : World) :
    Calls Tryz.prog 3 #[.int .i64 a0, .int .u8 a1] w fun e w' => e = .returned (.bool true) ∧ Below w.heap.size w w' := by
  have hc : 0 ≤ a1 ∧ a1 ≤ 255 := by
    have := w1
    simp [Lit.wf, IntKind.min, IntKind.max, IntKind.bits, IntKind.signed] at this
    omega
  exact Go.AX.CallOK.calls (vs := [.int .i64 a0, .int .u8 a1]) (Go.AX.Run.sizes_ok a0 a1 hc)
set_option maxRecDepth 100000 in
theorem lifted (os : Os) (started : os.Started) (H : Type) (enc : TypeId × Value → H) :
    ReturnsInHanded {} Tryz.checked os 3 .any (fun w args => (Rows.polyhedronSizesSpec.pre enc Tryz.prog Tryz.f3 Rows.polyhedronSizesRow.domain false w args ∧ laidMetH Tryz.prog Rows.polyhedronSizesRow.laid w) ∧ sizedMet enc Tryz.prog Tryz.f3 (OpenSpec.ofChange Rows.polyhedronSizesSpec) false w args)
      (Rows.polyhedronSizesSpec.post enc Tryz.prog Tryz.f3 false true false false) := by
  refine returnsInHanded_of_change_and (C := Tryz.checked) (X := fun w _ => laidMetH Tryz.prog Rows.polyhedronSizesRow.laid w) (fun _ _ _ hh h => h.of_heap hh) own started (by kernel_rfl) Tryz.func3
    (ChangeSpec.witness_shaped (enc := enc) (C := Tryz.checked) (os := os) (X := fun w _ => laidMetH Tryz.prog Rows.polyhedronSizesRow.laid w) false (World.laidAll Tryz.prog os Rows.polyhedronSizesRow.laid) #[.int .i64 0, .int .u8 0] 8 (World.laidAll_os _ _ _)
      (World.shaped_of_ZipB (by kernel_rfl) (by kernel_rfl)) (by kernel_rfl) (by kernel_rfl) (by kernel_rfl)
      (by rw [MakeChecks.laidMetH_plain _ _ _ (by kernel_rfl)]; exact laidMet_laidAll _ (by kernel_rfl) (by kernel_rfl))) ?_
  intro W base args ds gs before hval0 hW hc _ hL _
  have hval : ∀ (j : Nat) t v, Tryz.f3.params[j]? = some t → args[j]? = some v → Value.okWide Tryz.prog W .any base t v := hval0
  have hW' := hW
  obtain ⟨p, q, hA0, hV, rfl, hfz, hnd⟩ := hW
  have hA : DataW.TrodAll enc Tryz.prog W 0 (fun _ => true) true Tryz.f3.params.toList args.toList ds p := hA0
  rw [Tryz.params3] at hA hval
  obtain ⟨v0, vs0, d0, ds0, p0, q0, hargs, rfl, rfl, h0, r0⟩ := trodAll_cons hA
  obtain ⟨v1, vs1, d1, ds1, p1, q1, rfl, rfl, rfl, h1, r1⟩ := trodAll_cons r0
  obtain ⟨rfl, rfl, rfl⟩ := trodAll_nil r1
  obtain rfl : args = #[v0, v1] := by cases args; simp_all
  obtain ⟨rfl, rfl⟩ := trodVars_none hV
  obtain ⟨a0, rfl, rfl, rfl, w0⟩ := open_int Tryz.underlying3 (hval 0 3 v0 rfl rfl) h0
  obtain ⟨a1, rfl, rfl, rfl, w1⟩ := open_int Tryz.underlying5 (hval 1 5 v1 rfl rfl) h1
  clear hA0 hval0
  simp only [List.append_nil] at hW'
  refine (walk a0 a1 w1 W).mono fun e W' ⟨he, bel⟩ => ?_
  subst he
  exact ⟨_, rfl, _, _, _, [], _, [], hW', trodAll_mk1 (shut_bool Tryz.underlying4 _), (trodAll_cons_mk (shut_int Tryz.underlying3 w0) (trodAll_cons_mk (shut_int Tryz.underlying5 w1) trodAll_mk0)), rfl, bel.frame _, fun h => by cases h⟩
theorem liftedC (os : Os) (started : os.Started) (H : Type) (enc : TypeId × Value → H) : ReturnsInHanded Rows.polyhedronSizesRow.assume Tryz.pinned.checked os 3 .any (Rows.polyhedronSizesRow.pre enc Tryz.pinned.checked.prog Tryz.f3 (OpenSpec.ofChange Rows.polyhedronSizesSpec)) (Rows.polyhedronSizesSpec.post enc Tryz.pinned.checked.prog Tryz.f3 Rows.polyhedronSizesRow.apart Rows.polyhedronSizesRow.fresh Rows.polyhedronSizesRow.handsOn Rows.polyhedronSizesRow.again) := lifted os started H enc
theorem factsC : joinedFacts Tryz.pinned.checked.prog 3 Tryz.f3 Rows.polyhedronSizesSpec Rows.polyhedronSizesRow = true := by kernel_rfl
theorem wrapC : Tryz.f3.isWrapper Tryz.pinned.checked.prog Rows.polyhedronSizesRow.wrapper Rows.polyhedronSizesRow.mainSum := by unfold Func.isWrapper; first | (rw [if_pos (by decide +kernel)]; kernel_rfl) | (rw [if_neg (by decide +kernel)]; exact ⟨rfl, rfl⟩)
theorem polyhedronSizes_said : Rows.PolyhedronSizesSaid :=
  OpenClaim.holds_of_wide 3 Tryz.f3 rfl rfl rfl rfl rfl rfl rfl ⟨rfl, rfl, rfl, rfl, rfl⟩ rfl rfl rfl rfl rfl (by kernel_rfl) Tryz.func3 factsC
    (of_decide_eq_true (by kernel_rfl)) wrapC (fun os started H enc _ => liftedC os started H enc)
theorem polyhedronSizes_holds : Rows.PolyhedronSizesCardSaid :=
  Claim7.holds_tied_plain_at .later [] [.data, .data, .data, .data, .sentinel, .sentinel, .pinned] true (true, "0b5718eb7f5c152f8796dfa5b4db9dc38c88314f1ce39aa9319ec8fde2c7f9ef") true polyhedronSizes_said (fun _ h => by cases h) (by kernel_rfl) (fun _ h => by cases h) polyhedronSizes_row_tie rfl ⟨rfl, rfl⟩ (by kernel_rfl) rfl
    (fun f fn hf hfn => by
      obtain rfl : f = 3 := Option.some.inj ((show Tryz.prog.funcNamed "surveyor/surveyorlaw28.PolyhedronSizes" = some 3 by kernel_rfl).symm.trans hf) |>.symm
      obtain rfl : fn = Tryz.f3 := (Option.some.inj (Tryz.func3.symm.trans hfn)).symm
      exact ⟨by kernel_rfl, fun j t ht => by
        rw [Tryz.params3] at ht
        have hm : t ∈ [3, 5] := by simpa using Array.mem_of_getElem? ht
        have hall : ([3, 5].all fun u => !Tryz.prog.wantsStandIn u) = true := by kernel_rfl
        exact (show Tryz.prog.wantsStandIn t = false by simpa using List.all_eq_true.1 hall t hm)⟩)
    (by kernel_rfl)
#print axioms polyhedronSizes_holds
end Go.Proofs.YtfhkpkhgbcdcdaaGreatDoor
