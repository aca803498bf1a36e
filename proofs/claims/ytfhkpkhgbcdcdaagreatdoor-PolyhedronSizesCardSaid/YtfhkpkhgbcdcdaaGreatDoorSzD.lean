/- Top, None, Same. -/
import Derived.Test.YtfhkpkhgbcdcdaaGreatDoorSzA
import Derived.Test.YtfhkpkhgbcdcdaaGreatDoorAxC

set_option maxRecDepth 100000
set_option linter.unusedVariables false
set_option linter.unusedSimpArgs false
namespace Go.AX.Run
open Go.RowKit Go.Proofs Go.AX
theorem zP : azero Tryz.prog 24 = some [.v (.int .i64 0), .v (.bool false), .v (.slice none 0 0)] := by kernel_rfl
theorem cP : Tryz.prog.cellsOf 24 = 3 := by kernel_rfl
theorem tP : hasT Tryz.prog 24 = true := by kernel_rfl
theorem ht3 : hasT Tryz.prog 3 = true := by kernel_rfl
theorem c3 : Tryz.prog.cellsOf 3 = 1 := by kernel_rfl
theorem a3 : isAggT Tryz.prog 3 = false := by kernel_rfl
theorem aP : isAggT Tryz.prog 24 = true := by kernel_rfl
theorem buildP (ps : List (Nat × AV)) : abuild Tryz.prog 24 ps = abuild Tryz.prog 24 ps := rfl
theorem b0 : abuild Tryz.prog 24 [] = some (.agg [.v (.int .i64 0), .v (.bool false), .v (.slice none 0 0)]) := by kernel_rfl
theorem b1 (n : Int) : abuild Tryz.prog 24 [(0, .v (.int .i64 n))] = some (.agg [.v (.int .i64 n), .v (.bool false), .v (.slice none 0 0)]) := by kernel_rfl
theorem b2 (n : Int) (e : Bool) : abuild Tryz.prog 24 [(0, .v (.int .i64 n)), (1, .v (.bool e))] = some (.agg [.v (.int .i64 n), .v (.bool e), .v (.slice none 0 0)]) := by kernel_rfl
theorem fa0 (id i : Nat) : afieldAddr Tryz.prog 24 (.ptr id 3 i 0) 0 = some (.ptr id 3 i 0) := by kernel_rfl
theorem fa1 (id i : Nat) : afieldAddr Tryz.prog 24 (.ptr id 3 i 0) 1 = some (.ptr id 3 i 1) := by kernel_rfl
theorem fa2 (id i : Nat) : afieldAddr Tryz.prog 24 (.ptr id 3 i 0) 2 = some (.ptr id 3 i 2) := by kernel_rfl
theorem ht4 : hasT Tryz.prog 4 = true := by kernel_rfl
theorem c4 : Tryz.prog.cellsOf 4 = 1 := by kernel_rfl
theorem a4 : isAggT Tryz.prog 4 = false := by kernel_rfl
theorem ht22 : hasT Tryz.prog 22 = true := by kernel_rfl
theorem c22 : Tryz.prog.cellsOf 22 = 1 := by kernel_rfl
theorem a22 : isAggT Tryz.prog 22 = false := by kernel_rfl
theorem be (e : Bool) : abinop Tryz.prog .eql 4 (.v (.bool e)) (.v (.bool e)) = some (.v (.bool true)) := by cases e <;> kernel_rfl
def pol (n : Int) (e : Bool) : AV := .agg [.v (.int .i64 n), .v (.bool e), .v (.slice none 0 0)]
def topR (n : Int) (e : Bool) : AV := if n < 0 ∨ 32 < n then .tup [pol 0 false, .v (.int .i64 2)] else .tup [pol n e, .v (.int .i64 0)]
attribute [local simp] zP cP tP ht3 c3 a3 aP b0 b1 b2 fa0 fa1 fa2 ht4 c4 a4 ht22 c22 a22 be aptr newBlk
theorem topR_data (n : Int) (e : Bool) : dataK 9 (topR n e) = true := by unfold topR; split <;> rfl
theorem whole_ok (n : Int) (e : Bool) : PureE Tryz.prog 13 [.v (.int .i64 n), .v (.bool e)] (topR n e) := by
  refine ⟨⟨_, _, Tryz.func13, by kernel_rfl, rfl⟩, (CallOK.data (Q := fun r => r = (topR n e)) (CallOK.of_body Tryz.func13 rfl (by simp [Tryz.ntmps13]) (vcCode_ok _ _ _ ?_))).mono fun r H N h => h.2.2⟩
  by_cases h1 : n < 0 <;> by_cases h2 : 32 < n <;> simp [Tryz.ntmps13, astore, Heap.set, acells, setEl, AV.one, Value.oneCell', aresults, aresult, aload, at_, packed, topR, pol, h1, h2]
  all_goals exact .dat _ 9 rfl
theorem top_ok (n : Int) : PureE Tryz.prog 4 [.v (.int .i64 n)] (topR n false) := by
  refine ⟨⟨_, _, Tryz.func4, by kernel_rfl, rfl⟩, (CallOK.data (Q := fun r => r = (topR n false)) (CallOK.of_body Tryz.func4 rfl (by simp [Tryz.ntmps4]) (vcCode_ok _ _ _ ?_))).mono fun r H N h => h.2.2⟩
  simp [Tryz.ntmps4]
  refine CallE.pure (k := 9) (whole_ok n false) rfl (topR_data _ _) ?_
  by_cases h1 : n < 0 ∨ 32 < n <;> simp [tupOf, astore, Heap.set, acells, setEl, AV.one, Value.oneCell', aresults, aresult, aload, at_, packed, topR, pol, h1]
  all_goals exact .dat _ 9 rfl
theorem none_ok (n : Int) : PureE Tryz.prog 6 [.v (.int .i64 n)] (topR n true) := by
  refine ⟨⟨_, _, Tryz.func6, by kernel_rfl, rfl⟩, (CallOK.data (Q := fun r => r = (topR n true)) (CallOK.of_body Tryz.func6 rfl (by simp [Tryz.ntmps6]) (vcCode_ok _ _ _ ?_))).mono fun r H N h => h.2.2⟩
  simp [Tryz.ntmps6]
  refine CallE.pure (k := 9) (whole_ok n true) rfl (topR_data _ _) ?_
  by_cases h1 : n < 0 ∨ 32 < n <;> simp [tupOf, astore, Heap.set, acells, setEl, AV.one, Value.oneCell', aresults, aresult, aload, at_, packed, topR, pol, h1]
  all_goals exact .dat _ 9 rfl
theorem all_ok (n : Int) : PureE Tryz.prog 14 [.v (.int .i64 n)] (pol n false) := by
  refine ⟨⟨_, _, Tryz.func14, by kernel_rfl, rfl⟩, (CallOK.data (Q := fun r => r = (pol n false)) (CallOK.of_body Tryz.func14 rfl (by simp [Tryz.ntmps14]) (vcCode_ok _ _ _ ?_))).mono fun r H N h => h.2.2⟩
  simp [Tryz.ntmps14, astore, Heap.set, acells, setEl, AV.one, Value.oneCell', aresults, aresult, aload, at_, packed, topR, pol]
  all_goals exact .dat _ 9 rfl
theorem nothing_ok (n : Int) : PureE Tryz.prog 15 [.v (.int .i64 n)] (pol n true) := by
  refine ⟨⟨_, _, Tryz.func15, by kernel_rfl, rfl⟩, (CallOK.data (Q := fun r => r = (pol n true)) (CallOK.of_body Tryz.func15 rfl (by simp [Tryz.ntmps15]) (vcCode_ok _ _ _ ?_))).mono fun r H N h => h.2.2⟩
  simp [Tryz.ntmps15, astore, Heap.set, acells, setEl, AV.one, Value.oneCell', aresults, aresult, aload, at_, packed, topR, pol]
  all_goals exact .dat _ 9 rfl
theorem rtop_ok (n : Int) : PureE Tryz.prog 5 [.v (.int .i64 n)] (topR n false) := by
  refine ⟨⟨_, _, Tryz.func5, by kernel_rfl, rfl⟩, (CallOK.data (Q := fun r => r = (topR n false)) (CallOK.of_body Tryz.func5 rfl (by simp [Tryz.ntmps5]) (vcCode_ok _ _ _ ?_))).mono fun r H N h => h.2.2⟩
  by_cases h1 : n < 0 <;> by_cases h2 : 32 < n <;> simp [Tryz.ntmps5, astore, Heap.set, acells, setEl, AV.one, Value.oneCell', aresults, aresult, aload, at_, packed, topR, pol, h1, h2]
  all_goals first | exact .dat _ 9 rfl | skip
  refine CallE.pure (k := 9) (all_ok n) rfl rfl ?_
  simp [Tryz.ntmps5, astore, Heap.set, acells, setEl, AV.one, Value.oneCell', aresults, aresult, aload, at_, packed, topR, pol]
  exact .dat _ 9 rfl
theorem rnone_ok (n : Int) : PureE Tryz.prog 7 [.v (.int .i64 n)] (topR n true) := by
  refine ⟨⟨_, _, Tryz.func7, by kernel_rfl, rfl⟩, (CallOK.data (Q := fun r => r = (topR n true)) (CallOK.of_body Tryz.func7 rfl (by simp [Tryz.ntmps7]) (vcCode_ok _ _ _ ?_))).mono fun r H N h => h.2.2⟩
  by_cases h1 : n < 0 <;> by_cases h2 : 32 < n <;> simp [Tryz.ntmps7, astore, Heap.set, acells, setEl, AV.one, Value.oneCell', aresults, aresult, aload, at_, packed, topR, pol, h1, h2]
  all_goals first | exact .dat _ 9 rfl | skip
  refine CallE.pure (k := 9) (nothing_ok n) rfl rfl ?_
  simp [Tryz.ntmps5, astore, Heap.set, acells, setEl, AV.one, Value.oneCell', aresults, aresult, aload, at_, packed, topR, pol]
  exact .dat _ 9 rfl
theorem sameAll_ok : PureE Tryz.prog 20 [.v (.slice none 0 0), .v (.slice none 0 0)] (.v (.bool true)) := pure_of hP (tab0_ok ext1 ext2 : TabOK Tryz.prog (tab0 [] [] [257] [274])) (k := 60) (by kernel_rfl)
theorem same_ok (n : Int) (e : Bool) : PureE Tryz.prog 10 [pol n e, pol n e] (.v (.bool true)) := by
  refine ⟨⟨_, _, Tryz.func10, by kernel_rfl, rfl⟩, (CallOK.data (Q := fun r => r = (.v (.bool true))) (CallOK.of_body Tryz.func10 rfl (by simp [Tryz.ntmps10]) (vcCode_ok _ _ _ ?_))).mono fun r H N h => h.2.2⟩
  simp [Tryz.ntmps10, astore, Heap.set, acells, setEl, AV.one, Value.oneCell', aresults, aresult, aload, at_, packed, topR, pol]
  refine CallE.pure (k := 9) sameAll_ok rfl rfl ?_
  simp [aresults, aresult, packed]
  exact .dat _ 9 rfl
end Go.AX.Run

/- surveyorref28.free over inequalities. -/
set_option maxRecDepth 100000
set_option maxHeartbeats 2000000
set_option linter.unusedVariables false
set_option linter.unusedSimpArgs false
namespace Go.AX.Run
open Go.RowKit Go.Proofs Go.AX
theorem ht34 : hasT Tryz.prog 34 = true := by kernel_rfl
theorem c34 : Tryz.prog.cellsOf 34 = 4 := by kernel_rfl
theorem u22 : Tryz.prog.underlying 22 = some (.slice 34) := by kernel_rfl
theorem fb0 (a b c d : AV) : afieldAddr Tryz.prog 34 (.rop [a, b, c, d]) 0 = some (.rop [a, b, c, d]) := by kernel_rfl
attribute [local simp] ht34 c34 u22 ht3 c3 a3 alen aindexAddr aload at_
theorem SerC.ofM {ops : Array Oper} {cs : List Cls} (h : serialC ops cs.reverse (bsM ops) = true) : SerC ops cs := ⟨_, h⟩
theorem wrap1 {j n : Nat} (h : j < n) (hn : n ≤ 1000) : IntKind.i64.wrap ((j : Int) + 1) = ((j + 1 : Nat) : Int) := by rw [wrap_in (by omega) (by omega)]; omega
theorem mixed : Tryz.prog.follows .mixedOrders = true := by kernel_rfl
theorem free_ok (es : List (List AV)) (hes : ∀ (i : Nat) (e : List AV), es[i]? = some e → ∃ c k m, e = [.v (.int .i64 0), c, k, m]) (hl : es.length ≤ 1000) : PureE Tryz.prog 28 [.ro es] (.v (.bool true)) := by
  refine ⟨⟨_, _, Tryz.func28, by kernel_rfl, rfl⟩, CallOK.of_body Tryz.func28 rfl (by simp [Tryz.ntmps28]) (vcCode_ok _ _ _ ?_)⟩
  simp [Tryz.ntmps28]
  refine LoopOK.of (fun (i : Nat) st => i ≤ es.length ∧ ∃ env, st = ⟨43, env, noHeap, 0⟩ ∧ env 0 = .ro es ∧ env 3 = .v (.int .i64 i)) (fun i => es.length - i) 0 ⟨by omega, _, rfl, rfl, rfl⟩ ?_
  rintro i _ ⟨hi, env, rfl, h0, h3⟩
  simp [h0, h3]
  intro hlt
  refine LoopOK.of (fun (j : Nat) st => j ≤ es.length ∧ ∃ env, st = ⟨43, env, noHeap, 0⟩ ∧ env 0 = .ro es ∧ env 3 = .v (.int .i64 i) ∧ env 4 = .v (.int .i64 j)) (fun j => es.length - j) 0 ⟨by omega, _, rfl, by simpa using h0, by simpa using h3, rfl⟩ ?_
  rintro j _ ⟨hj, env, rfl, h0, h3, h4⟩
  simp [h0, h3, h4]
  refine ⟨fun hlt2 => ?_, fun hge2 => ?_⟩
  · refine DrawOK.walk (fun _ => false) mixed ?_
    obtain ⟨c, k, m, he⟩ := hes i es[i] (List.getElem?_eq_getElem (by omega))
    by_cases hij : (i : Int) = j <;> simp [-Int.natCast_add, h0, h3, h4, hij, hlt, he, fb0, rdOf, wrap1 hlt2 hl]
    · exact ⟨SerC.ofM (by kernel_rfl), j + 1, ⟨by omega, rfl⟩, by omega⟩
    · exact ⟨SerC.ofM (by kernel_rfl), j + 1, ⟨by omega, rfl⟩, by omega⟩
  · rw [wrap1 hlt hl]
    exact ⟨i + 1, ⟨by omega, rfl⟩, by omega⟩
end Go.AX.Run
