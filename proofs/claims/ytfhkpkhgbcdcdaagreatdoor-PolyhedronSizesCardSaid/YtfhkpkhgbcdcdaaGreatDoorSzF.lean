/- PolyhedronSizes: the walk. -/
import Derived.Test.YtfhkpkhgbcdcdaaGreatDoorSzE

set_option maxRecDepth 100000
set_option maxHeartbeats 2000000
set_option linter.unusedVariables false
set_option linter.unusedSimpArgs false
namespace Go.AX.Run
open Go.RowKit Go.Proofs Go.AX
theorem wh_eq (i : Nat) : ∃ s, wh i = .v (.string s) := by unfold wh; cases Nat.blt i 10 <;> exact ⟨_, rfl⟩
theorem topR_eq (n : Int) (e : Bool) : ∃ a b x, topR n e = .tup [pol a b, .v (.int .i64 x)] := by unfold topR; split <;> exact ⟨_, _, _, rfl⟩
theorem pushRo {P : Program} {e t : TypeId} {H : Heap} {lo N sz : Nat} {x : AV} {es : List (List AV)} {c : List AV} (h : OwnL P e H lo N x es) (hlo : lo ≤ N) (hu : P.underlying t = some (.slice e)) (ht : hasT P e = true) (hz : zlen P e = true) (hsz : P.cellsOf e = sz) (hpos : 0 < sz)
    (hc : c.length = sz) (h1 : c.all AV.one = true) (hb : (es.length + 1) * P.bytesOf e ≤ 140737488355328) (hm : es.length + 1 ≤ maxLen) :
    ∃ r H2, (∀ n env, aappend P ⟨n, env, H, N⟩ t x (.ro [c]) = some (r, ⟨n, env, H2, N + 1⟩)) ∧ OwnL P e H2 lo (N + 1) r (es ++ [c]) ∧ (∀ id, id < lo → H2 id = H id) := by
  have hel : elemsOf H (.ro [c]) = some [c] := rfl
  have hok : hasT P e = true ∧ zlen P e = true ∧ 0 < P.cellsOf e ∧ okEls (P.cellsOf e) [c] = true ∧ allOne [c] = true := ⟨ht, hz, by omega, by simp [okEls, hc, hsz], by simpa [allOne] using h1⟩
  rcases h with ⟨rfl, rfl⟩ | ⟨id, cap, q1, q2, rfl, q3⟩
  · refine ⟨.ref N sz 0 1 none, Heap.set H N ⟨e, sz, [c], false, none⟩, fun n env => ?_, .inr ⟨N, none, hlo, by omega, by simp [hsz], by simp [Heap.set, hsz]⟩, fun id hid => by simp [Heap.set, show id ≠ N by omega]⟩
    unfold aappend
    simp only [hu, hel]
    rw [if_pos hok]
    simp only [List.length_singleton]
    rw [if_pos (by simpa using And.intro hb hm)]
    simp [newBlk, hsz]
  · refine ⟨.ref N sz 0 (es.length + 1) none, Heap.set (Heap.kill H id) N ⟨e, sz, es ++ [c], false, none⟩, fun n env => ?_, .inr ⟨N, none, hlo, by omega, by simp [hsz], by simp [Heap.set, hsz]⟩, fun i hi => by simp [Heap.set, Heap.kill, show i ≠ N by omega, show i ≠ id by omega]⟩
    unfold aappend
    simp only [hu, hel]
    rw [if_pos hok]
    simp only [q3, List.length_singleton]
    rw [if_pos ⟨trivial, trivial, trivial, Nat.le_refl _, by simpa using hb, hm⟩]
    simp [newBlk, hsz]
theorem OwnL.other {P : Program} {e : TypeId} {H H' : Heap} {lo hi : Nat} {x : AV} {es : List (List AV)} (h : OwnL P e H lo hi x es) (hH : ∀ id, lo ≤ id → H' id = H id) : OwnL P e H' lo hi x es := by
  rcases h with h | ⟨id, cap, q1, q2, q3, q4⟩
  · exact .inl h
  · exact .inr ⟨id, cap, q1, q2, q3, (hH id q1).trans q4⟩
theorem fct_freeze (H : Heap) (k : Nat) (i : Nat) : (fct i).mapM (freezeK (k + 2) H) = some (fct i) := by
  obtain ⟨s, hs⟩ := wh_eq i
  simp [fct, hs, i6, sb, freezeK]
theorem map_freeze (H : Heap) (k : Nat) (l : List Nat) : ((l.map fct).mapM fun e => e.mapM (freezeK (k + 2) H)) = some (l.map fct) := by
  induction l with
  | nil => rfl
  | cons i l ih => simp only [List.map_cons, List.mapM_cons, fct_freeze, Option.pure_def, Option.bind_eq_bind, Option.bind_some, ih]
theorem freeze_ref (k : Nat) (H : Heap) (id sz off len : Nat) (mx : Option Nat) : freezeK (k + 1) H (.ref id sz off len mx) = (match H id with
      | some b => if b.sz = sz ∧ off + len ≤ b.es.length then (match ((b.es.drop off).take len).mapM fun e => e.mapM (freezeK k H) with | some es => some (.ro es) | none => none) else none
      | none => none) := rfl
theorem freeze_agg (k : Nat) (H : Heap) (cs : List AV) : freezeK (k + 1) H (.agg cs) = (match cs.mapM (freezeK k H) with | some cs => some (.agg cs) | none => none) := rfl
theorem freeze_v (k : Nat) (H : Heap) (x : Value) : freezeK (k + 1) H (.v x) = some (.v x) := rfl
theorem pk_freeze {H : Heap} {N k : Nat} {F : AV} (h : OwnL Tryz.prog 34 H 5 N F ((rng 0 k).map fct)) (hk0 : k = 0 → F = .v (.slice none 0 0)) : freezeK 9 H (.agg [.v (.int .i64 1), .v (.bool false), F]) = some (pk k) := by
  have key : freezeK 8 H F = some (bif Nat.beq k 0 then nl else .ro ((rng 0 k).map fct)) := by
    rcases h with ⟨rfl, he⟩ | ⟨id, cap, q1, q2, rfl, q3⟩
    · have : k = 0 := by
        have := congrArg List.length he
        simpa [rng] using this
      subst this
      rfl
    · have hb : Nat.beq k 0 = false := by
        cases k with
        | zero => have := hk0 rfl; cases this
        | succ k => rfl
      rw [freeze_ref, q3, hb]
      simp only [cond_false]
      rw [if_pos ⟨trivial, by simp⟩, List.drop_zero, List.take_length, map_freeze H 5]
  rw [freeze_agg]
  simp only [List.mapM_cons, key, freeze_v, List.mapM_nil, Option.pure_def, Option.bind_eq_bind, Option.bind_some, pk, i6, bo]

theorem lit31 : litV Tryz.prog 31 1 [(0, .v (.string ⟨#[49]⟩))] = some (.ro [[sb [49]]]) := by kernel_rfl
theorem bld34 (s : ByteArray) : abuild Tryz.prog 34 [(1, .ro [[sb [49]]]), (2, .v (.string s)), (3, .v (.string ⟨#[48]⟩))] = some (.agg [i6 0, .ro [[sb [49]]], .v (.string s), sb [48]]) := by kernel_rfl
theorem lit22 (s : ByteArray) : litV Tryz.prog 22 1 [(0, .agg [i6 0, .ro [[sb [49]]], .v (.string s), sb [48]])] = some (.ro [[i6 0, .ro [[sb [49]]], .v (.string s), sb [48]]]) := by kernel_rfl
theorem z34 : zlen Tryz.prog 34 = true := by kernel_rfl
theorem by34 : Tryz.prog.bytesOf 34 = 64 := by kernel_rfl
theorem cv5 (c : Int) : aconv Tryz.prog 5 3 (.v (.int .u8 c)) = some (.v (.int .i64 (IntKind.i64.wrap c))) := by kernel_rfl
attribute [local simp] zP cP tP ht3 c3 a3 aP b0 b1 b2 fa0 fa1 fa2 ht4 c4 a4 ht22 c22 a22 be aptr newBlk
theorem CallD.flat {P : Program} {f : FuncId} {args args' : List AV} {st : St} {K : Cls → AV → Heap → Nat → Prop} {u : AV} {k : Nat} (h : PureE P f args' u) (ha : args.mapM (freezeK k st.H) = some args') (hr : flatK k u = true) (hk : K (.hvy (some [])) u st.H st.N) : CallD P f args st K :=
  ⟨.hvy (some []), u, st.H, st.N, hk, h.flat ha hr, Nat.le_refl _, fun id _ _ => rfl⟩
theorem ck_eq (k : Nat) : ∃ z, ck k = .v (.int .i64 z) := by unfold ck; cases Nat.ble k 64 <;> exact ⟨_, rfl⟩
theorem rng_succ (k : Nat) : (rng 0 (k + 1)).map fct = (rng 0 k).map fct ++ [fct k] := by simp [rng, List.range'_1_concat]
def pb (a : Int) (d : Bool) : Blk := ⟨24, 3, [[.v (.int .i64 a), .v (.bool d), .v (.slice none 0 0)]], false, some 1⟩
theorem sizes_ok (n c : Int) (hc : 0 ≤ c ∧ c ≤ 255) : CallOK Tryz.prog 3 [.v (.int .i64 n), .v (.int .u8 c)] noHeap 0 fun r _ _ => r = .v (.bool true) := by
  obtain ⟨a1, d1, x1, e1⟩ := topR_eq n false
  obtain ⟨a2, d2, x2, e2⟩ := topR_eq n true
  refine CallOK.of_body Tryz.func3 rfl (by simp [Tryz.ntmps3]) (vcCode_ok _ _ _ ?_)
  simp [Tryz.ntmps3]
  refine CallE.pure (k := 9) (top_ok n) rfl (topR_data _ _) ?_
  rw [e1]
  simp [tupOf, astore, Heap.set, acells, setEl, AV.one, Value.oneCell', pol]
  refine CallE.pure (k := 9) (rtop_ok n) rfl (topR_data _ _) ?_
  rw [e1]
  simp [tupOf, astore, Heap.set, acells, setEl, AV.one, Value.oneCell', pol]
  refine CallE.pure (k := 9) (none_ok n) rfl (topR_data _ _) ?_
  rw [e2]
  simp [tupOf, astore, Heap.set, acells, setEl, AV.one, Value.oneCell', pol]
  refine CallE.pure (k := 9) (rnone_ok n) rfl (topR_data _ _) ?_
  rw [e2]
  have hw : IntKind.i64.wrap c = c := wrap_in (by omega) (by omega)
  obtain ⟨m, hm, hm70⟩ : ∃ m : Nat, c.tmod 70 = (m : Int) ∧ m < 70 := by
    refine ⟨c.toNat % 70, ?_, Nat.mod_lt _ (by omega)⟩
    rw [Int.tmod_eq_emod_of_nonneg hc.1]; omega
  have hrem : abinop Tryz.prog .rem 3 (.v (.int .i64 c)) (.v (.int .i64 70)) = some (.v (.int .i64 (m : Int))) := by rw [bin_rem _ _ _ _ _ (by decide), hm]
  simp [tupOf, astore, Heap.set, acells, setEl, AV.one, Value.oneCell', pol, cv5, hw, hrem]
  refine LoopOK.of (fun (k : Nat) st => k ≤ m ∧ ∃ env H N F, st = ⟨80, env, H, N⟩ ∧ 5 ≤ N ∧ env 39 = .v (.int .i64 k) ∧ env 38 = .v (.int .i64 m) ∧ (env 5 = .ptr 0 3 0 0 ∧ env 7 = .ptr 1 3 0 0 ∧ env 9 = .ptr 2 3 0 0 ∧ env 11 = .ptr 3 3 0 0 ∧ env 13 = .ptr 4 3 0 0) ∧
    (env 6 = .v (.int .i64 x1) ∧ env 8 = .v (.int .i64 x1) ∧ env 10 = .v (.int .i64 x2) ∧ env 12 = .v (.int .i64 x2)) ∧ (H 0 = some (pb a1 d1) ∧ H 1 = some (pb a1 d1) ∧ H 2 = some (pb a2 d2) ∧ H 3 = some (pb a2 d2)) ∧
    H 4 = some ⟨24, 3, [[.v (.int .i64 1), .v (.bool false), F]], false, some 1⟩ ∧ OwnL Tryz.prog 34 H 5 N F ((rng 0 k).map fct) ∧ (k = 0 → F = .v (.slice none 0 0))) (fun k => m - k) 0 ?_ ?_
  · refine ⟨Nat.zero_le _, _, _, _, .v (.slice none 0 0), rfl, Nat.le_refl _, rfl, by simp, ?_, ?_, ?_, ?_, .inl ⟨rfl, rfl⟩, fun _ => rfl⟩
    · simp
    · simp
    · simp [pb]
    · simp
  rintro k _ ⟨hk, env, H, N, F, rfl, hN, h39, h38, ⟨h5, h7, h9, h11, h13⟩, ⟨h6, h8, h10, h12⟩, ⟨g0, g1, g2, g3⟩, g4, hF, hF0⟩
  simp [h39, h38]
  refine ⟨fun hlt => ?_, fun hge => ?_⟩
  · refine DrawOK.walk (fun _ => true) mixed ?_
    obtain ⟨s, hs⟩ := wh_eq k
    obtain ⟨r, H2, hr, ho2, hH2⟩ := pushRo (t := 22) (c := fct k) hF hN u22 ht34 z34 c34 (by omega) (by simp [fct]) (by simp [fct, hs, i6, sb, AV.one, Value.oneCell']) (by rw [by34]; simp [rng]; omega) (by simp [rng, maxLen]; omega)
    have h4N : 4 < N := by omega
    have hr' := hr
    simp only [fct, hs] at hr'
    simp [h39, h38, h13, g4, aload, at_, rdOf, h4N, lit31]
    refine CallD.pure (k := 9) (whole_pure k (by omega)) rfl (by rw [hs]; rfl) ?_
    rw [hs]
    have g4' : H2.b 4 = _ := (hH2 4 (by omega)).trans g4
    have hac : acells r = [r] ∧ r.one = true := by
      rcases ho2 with ⟨rfl, _⟩ | ⟨id, cap, _, _, rfl, _⟩ <;> simp [acells, AV.one, Value.oneCell']
    simp [-Int.natCast_add, h39, h38, h13, bld34, lit22, hr', astore, Heap.set, g4', hac.1, hac.2, setEl, rdOf, wrap1 (show k < 1000 by omega) (Nat.le_refl _)]
    refine ⟨SerC.ofM (by kernel_rfl), k + 1, ⟨by omega, _, _, _, ⟨rfl, rfl, rfl⟩, by omega, by simp, by simp [h38], by simp [h5, h7, h9, h11, h13], by simp [h6, h8, h10, h12], ⟨?_, ?_, ?_, ?_⟩, r, by simp, ?_, fun h => by omega⟩, by omega⟩
    · simpa using (hH2 0 (by omega)).trans g0
    · simpa using (hH2 1 (by omega)).trans g1
    · simpa using (hH2 2 (by omega)).trans g2
    · simpa using (hH2 3 (by omega)).trans g3
    · rw [rng_succ]
      exact OwnL.other ho2 fun id hid => by simp [show id ≠ 4 by omega]
  · have hkm : k = m := by omega
    subst hkm
    obtain ⟨z, hz⟩ := ck_eq k
    have hN0 : 0 < N := by omega
    have hN1 : 1 < N := by omega
    have hN2 : 2 < N := by omega
    have hN3 : 3 < N := by omega
    have hN4 : 4 < N := by omega
    refine DrawOK.walk (fun _ => true) mixed ?_
    simp
    refine CallD.pure (k := 9) (u := .v (.bool true)) awake_pure rfl rfl ?_
    simp [h5, h7, g0, g1, pb, aload, at_, rdOf, hN0, hN1]
    refine CallD.pure (k := 9) (same_ok a1 d1) rfl rfl ?_
    simp [h6, h8, h9, h11, g2, g3, pb, aload, at_, rdOf, hN2, hN3]
    refine CallD.pure (k := 9) (same_ok a2 d2) rfl rfl ?_
    simp [h10, h12, h13, g4, aload, at_, rdOf, hN4]
    refine CallD.flat (k := 9) (check_ok k hm70) (by simp only [List.mapM_cons, List.mapM_nil, pk_freeze hF hF0]; rfl) (by rw [hz]; rfl) ?_
    rw [hz]
    simp [h13, g4, aload, at_, rdOf, hN4]
    refine CallD.flat (k := 9) (rcheck_ok k hm70) (by simp only [List.mapM_cons, List.mapM_nil, pk_freeze hF hF0]; rfl) (by rw [hz]; rfl) ?_
    rw [hz]
    simp
    exact SerC.ofM (by kernel_rfl)
end Go.AX.Run
