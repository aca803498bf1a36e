/- The first table of the evaluator; rational.operations. -/
import Derived.Test.YtfhkpkhgbcdcdaaGreatDoorAxC
import Derived.Test.YtfhkpkhgbcdcdaaGreatDoorProg

set_option maxRecDepth 100000
set_option linter.unusedVariables false
namespace Go.AX.Run
open Go.RowKit Go.Proofs Go.AX
noncomputable section
theorem hP : RunP Tryz.prog := ⟨by kernel_rfl, noGo (by kernel_rfl)⟩
theorem ext1 : ∀ f ∈ [257], IsExt Tryz.prog f Extern.AbiNoEscape.same := fun f hf => by
    simp only [List.mem_cons, List.not_mem_nil, or_false] at hf; subst hf; exact ⟨_, Tryz.func257, by kernel_rfl, by kernel_rfl, by kernel_rfl, by kernel_rfl⟩
theorem ext2 : ∀ f ∈ [274], IsExt Tryz.prog f Extern.BytealgIndexByte.indexByte := fun f hf => by
    simp only [List.mem_cons, List.not_mem_nil, or_false] at hf; subst hf; exact ⟨_, Tryz.func274, by kernel_rfl, by kernel_rfl, by kernel_rfl, by kernel_rfl⟩
theorem added1 : PureE Tryz.prog 298 [.fn (.func 299) [] []] (.fn (.func 317) [] [.rop [.fn (.func 299) [] []]]) := pure_of hP (tab0_ok ext1 ext2 : TabOK Tryz.prog (tab0 [] [] [257] [274])) (k := 60) (by kernel_rfl)
theorem added2 : PureE Tryz.prog 298 [.fn (.func 300) [] []] (.fn (.func 317) [] [.rop [.fn (.func 300) [] []]]) := pure_of hP (tab0_ok ext1 ext2 : TabOK Tryz.prog (tab0 [] [] [257] [274])) (k := 60) (by kernel_rfl)
def opsV : AV := .mp [.int .u8 43, .int .u8 45, .int .u8 42, .int .u8 47] [.fn (.func 317) [] [.rop [.fn (.func 299) [] []]], .fn (.func 317) [] [.rop [.fn (.func 300) [] []]], .fn (.func 301) [] [], .fn (.func 303) [] []]
theorem operations_ok : PureE Tryz.prog 266 [] opsV := by
  refine ⟨⟨_, _, Tryz.func266, by kernel_rfl, rfl⟩, CallOK.of_body Tryz.func266 rfl (by simp [Tryz.ntmps266]) (CodeOK.seq (vcCode_ok _ _ _ ?_))⟩
  simp [Tryz.ntmps266]
  refine CodeOK.seq (CodeOK.region_list (OpsOK.mkMap rfl rfl rfl (by decide) ?_))
  refine OpsM.pure (k := 9) rfl rfl rfl rfl (by decide) (by decide) rfl (by simp) added1 rfl rfl ?_
  refine OpsM.insert rfl rfl rfl (by kernel_rfl) (by simp) (by simp) ?_
  refine OpsM.pure (k := 9) rfl rfl rfl rfl (by decide) (by decide) rfl (by simp) added2 rfl rfl ?_
  refine OpsM.insert rfl rfl rfl (by kernel_rfl) (by simp [ev, St.up, upd]) (by simp) ?_
  refine OpsM.insert rfl rfl rfl (by kernel_rfl) (by simp) (by simp) ?_
  refine OpsM.insert rfl rfl rfl (by kernel_rfl) (by simp) (by simp) ?_
  refine OpsM.done (vcOps_ok _ _ _ ?_)
  simp [St.up, ev]
  refine CodeOK.ret ?_
  simp [upd, opsV]
end
end Go.AX.Run
