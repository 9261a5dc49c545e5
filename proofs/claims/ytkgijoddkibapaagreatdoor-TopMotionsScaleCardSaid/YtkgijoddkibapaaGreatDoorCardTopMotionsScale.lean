import Derived.Test.YtkgijoddkibapaaGreatDoorReads
import Derived.Test.YtkgijoddkibapaaGreatDoorLawM
import Derived.Test.YtkgijoddkibapaaGreatDoorWalk15
import Derived.Test.YtkgijoddkibapaaGreatDoorStart
import Derived.Test.YtkgijoddkibapaaGreatDoorCards
import Derived.Test.YtkgijoddkibapaaGreatDoorTie
set_option linter.unusedVariables false
set_option maxRecDepth 100000
namespace Go.Proofs.YtkgijoddkibapaaGreatDoor.topMotionsScale
open Go.ChangeShapes Go.WideShapes Go.ChangeAt Go.RowKit Go.Proofs.YtkgijoddkibapaaGreatDoor.W
theorem own : ownKnob Tryz.prog.godebug = none := by kernel_rfl
theorem laidOut : laidOutB Tryz.prog = true := by kernel_rfl
theorem params_ok : ∀ t ∈ Tryz.f3.params.toList, Tryz.prog.readableRec t = true ∧ t < Tryz.prog.types.size := by
  have h : (Tryz.f3.params.toList.all fun t => Tryz.prog.readableRec t && decide (t < Tryz.prog.types.size)) = true := by kernel_rfl
  intro t ht
  have := List.all_eq_true.1 h t ht
  simpa using this
theorem tab1 {W : World} (h : laidMetH Tryz.prog Rows.topMotionsScaleRow.laid W) : Lib.TabIs Tryz.prog W "pneumatic/diagram.rest" .u8 diag_rest := by
  rw [MakeChecks.laidMetH_plain _ _ _ (by kernel_rfl)] at h
  exact Lib.tabIs_of_head (g := 1) (by kernel_rfl) (by kernel_rfl) Tryz.underlying124 Tryz.underlying5 (by kernel_rfl) (by kernel_rfl) (laidMet.tail (laidMet.tail (laidMet.tail (laidMet.tail (laidMet.tail (laidMet.tail h))))))
theorem tab0 {W : World} (h : laidMetH Tryz.prog Rows.topMotionsScaleRow.laid W) : Lib.TabIs Tryz.prog W "pneumatic/diagram.going" .u8 diag_going := by
  rw [MakeChecks.laidMetH_plain _ _ _ (by kernel_rfl)] at h
  exact Lib.tabIs_of_head (g := 0) (by kernel_rfl) (by kernel_rfl) Tryz.underlying124 Tryz.underlying5 (by kernel_rfl) (by kernel_rfl) (laidMet.tail (laidMet.tail (laidMet.tail (laidMet.tail (laidMet.tail (laidMet.tail (laidMet.tail h)))))))
theorem tab4 {W : World} (h : laidMetH Tryz.prog Rows.topMotionsScaleRow.laid W) : Lib.TabIs Tryz.prog W "internal/strconv.uint64pow10" .u64 Lib.pow10Tab := by
  rw [MakeChecks.laidMetH_plain _ _ _ (by kernel_rfl)] at h
  exact Lib.tabIs_of_head (g := 4) (by kernel_rfl) (by kernel_rfl) Tryz.underlying226 Tryz.underlying194 (by kernel_rfl) (by kernel_rfl) (laidMet.tail (laidMet.tail h))
theorem tab2 {W : World} (h : laidMetH Tryz.prog Rows.topMotionsScaleRow.laid W) : Tab2 W 2 3 .u8 [[65, 90, 1], [97, 122, 1], [48, 57, 2], [95, 95, 3], [32, 32, 5], [10, 10, 5]] := by
  rw [MakeChecks.laidMetH_plain _ _ _ (by kernel_rfl)] at h
  exact tab2_of_head (g := 2) (rows := [[65, 90, 1], [97, 122, 1], [48, 57, 2], [95, 95, 3], [32, 32, 5], [10, 10, 5]]) (by kernel_rfl) (by kernel_rfl) Tryz.underlying198 Tryz.underlying197 Tryz.underlying5 (by kernel_rfl) (by kernel_rfl) (laidMet.tail (laidMet.tail (laidMet.tail (laidMet.tail (laidMet.tail h)))))
theorem contract (H : Type) (enc : TypeId × Value → H) (W : World) (base : Nat) (args : Array Value) (ds gs : List (DataW H)) (before : List MemPlace)
    (hval : ∀ (j : Nat) t v, Tryz.f3.params[j]? = some t → args[j]? = some v → Value.okWide Tryz.prog W .any base t v)
    (hW : DataW.Whole enc Tryz.prog Tryz.f3.params.toList Rows.topMotionsScaleSpec.vars false W args.toList ds gs before) (hz : (DataW.weightsEach Tryz.prog (Tryz.f3.params.toList ++ (OpenSpec.ofChange Rows.topMotionsScaleSpec).bare.plain.varTypes Tryz.prog) (ds ++ gs)).all (· ≤ reachBytes) = true) (hL : laidMetH Tryz.prog Rows.topMotionsScaleRow.laid W) (hsh : W.ShapedOpen Tryz.prog) :
    Calls Tryz.prog 3 args W fun e W' => ∃ v, e = .returned v ∧ Rows.topMotionsScaleSpec.post enc Tryz.prog Tryz.f3 false true false false W args v W' := by
  have hW' := hW
  obtain ⟨p, q, hA, hV, rfl, hfz, hnd⟩ := hW
  rw [Tryz.params3] at hA hval
  obtain ⟨v0, vs0, d0, ds0, p0, q0, hargs, rfl, rfl, ⟨n0, h0⟩, r0⟩ := trodAll_cons hA
  obtain ⟨v1, vs1, d1, ds1, p1, q1, rfl, rfl, rfl, ⟨n1, h1⟩, r1⟩ := trodAll_cons r0
  obtain ⟨v2, vs2, d2, ds2, p2, q2, rfl, rfl, rfl, ⟨n2, h2⟩, r2⟩ := trodAll_cons r1
  obtain ⟨rfl, rfl, rfl⟩ := trodAll_nil r2
  obtain rfl : args = #[v0, v1, v2] := by cases args; simp_all
  have hg := glob_start hsh (tab1 hL) (tab0 hL) (tab4 hL) (tab2 hL)
  obtain ⟨a0, e0, g0⟩ := (reads_Sequence24) _ _ _ h0
  obtain ⟨x0_ao1, x0_cap1, e0, x0_h1, x0_hc1⟩ := e0
  have z0_1 := size_field (i := 1) (b := 32) Tryz.underlying24 rfl Tryz.underlying22 (by kernel_rfl) (by kernel_rfl) (e0 ▸ h0) (weights_at (i := 0) (by rw [Tryz.params3]; rfl) rfl hz) rfl
  replace e0 := cell_agg (ia_struct Tryz.underlying24 (hval 0 24 v0 rfl rfl)) e0
  subst e0
  obtain ⟨a1, e1, g1⟩ := (reads_Plant27) _ _ _ h1
  obtain ⟨x1_ao1, x1_cap1, e1, x1_h1, x1_hc1⟩ := e1
  have z1_0 := size_field (i := 0) (b := 32) Tryz.underlying27 rfl Tryz.underlying25 (by kernel_rfl) (by kernel_rfl) (e1 ▸ h1) (weights_at (i := 1) (by rw [Tryz.params3]; rfl) rfl hz) rfl
  replace e1 := cell_agg (ia_struct Tryz.underlying27 (hval 1 27 v1 rfl rfl)) e1
  subst e1
  obtain ⟨ao2, a2, cap2, e2, s2, k2, w2, g2⟩ := reads_slice Tryz.underlying28 (by kernel_rfl) (reads_sl Tryz.underlying33 (by kernel_rfl) (reads_int Tryz.underlying3)) _ _ _ h2
  have z2 := size_slice (b := 24) Tryz.underlying28 (by kernel_rfl) (e2 ▸ h2) (weights_at (i := 2) (by rw [Tryz.params3]; rfl) rfl hz)
  replace e2 := cell_one (na_slice Tryz.underlying28 (hval 2 28 v2 rfl rfl)) e2
  subst e2
  refine Calls.mono (top_TopMotionsScale_con a0 a1 a2 x0_ao1 x0_cap1 x1_ao1 x1_cap1 ao2 cap2 W (hp W) (Le.refl _) x0_h1 x0_hc1 x1_h1 x1_hc1 s2 k2 hg true (law_MotionsScale a0 a1 a2)) fun e W' he => ?_
  obtain ⟨r, he, hb, hr⟩ := he
  subst hr
  exact ⟨_, he, post_true laidOut params_ok Tryz.underlying4 (by kernel_rfl) rfl ⟨rfl, rfl, rfl⟩ hW' hb⟩
set_option maxRecDepth 100000 in
theorem lifted (os : Os) (started : os.Started) (H : Type) (enc : TypeId × Value → H) (F : Stop.Interp) :
    ReturnsInHanded {} Tryz.checked os 3 .any ((OpenSpec.ofChange Rows.topMotionsScaleSpec).preRow enc Tryz.prog Tryz.f3 Rows.topMotionsScaleRow.domain false Rows.topMotionsScaleRow.laid) (((OpenSpec.ofChange Rows.topMotionsScaleSpec).at F).post enc Tryz.prog Tryz.f3 false true false false) := by
  refine returnsInHanded_of_row (C := Tryz.checked) (s := OpenSpec.ofChange Rows.topMotionsScaleSpec) own started (by kernel_rfl) Tryz.func3
    (witness_laid (enc := enc) (C := Tryz.checked) (World.laidAll Tryz.prog os Rows.topMotionsScaleRow.laid) #[.agg #[.int .i64 0, .slice none 0 0], .agg #[.slice none 0 0], .slice none 0 0] (World.laidAll_os _ _ _) (World.shaped_of_ZipB (by kernel_rfl) (by kernel_rfl)) (by kernel_rfl)
      ⟨⟨OpenSpec.pre_of_parts (DataW.Whole_of_whole (fuel := 8) (x := ([.agg [.lit (.int .i64 0), .nil], .agg [.nil], .nil], [], [])) (by kernel_rfl)) (by kernel_rfl) (fun k hk => by cases hk), by rw [MakeChecks.laidMetH_plain _ _ _ (by kernel_rfl)]; exact laidMet_laidAll _ (by kernel_rfl) (by kernel_rfl)⟩, sizedMet_of_bare (sizedMet_of_sizedB (fuel := 8) (by kernel_rfl))⟩) ?_
  intro W base args ds gs before hval hW _ _ hz hL hsh _
  exact contract H enc W base args ds gs before hval hW hz hL hsh
theorem said : Rows.TopMotionsScaleSaid :=
  OpenClaim.holds_of_cond 3 Tryz.f3 rfl rfl rfl rfl rfl rfl rfl ⟨rfl, rfl, rfl, rfl, rfl⟩ rfl rfl rfl rfl rfl (by kernel_rfl) Tryz.func3 (by kernel_rfl)
    (of_decide_eq_true (by kernel_rfl)) (by unfold Func.isWrapper; first | (rw [if_pos (by decide +kernel)]; kernel_rfl) | (rw [if_neg (by decide +kernel)]; exact ⟨rfl, rfl⟩))
    (fun os started H enc _ F => by rw [OpenClaim.pre_eq_preRow]; exact lifted os started H enc F)
theorem plain (f : FuncId) (fn : Func) (hf : Tryz.pinned.checked.prog.funcNamed Rows.topMotionsScaleRow.func = some f) (hfn : Tryz.pinned.checked.prog.funcs[f]? = some fn) :
    true = Tryz.pinned.checked.prog.looks [] ∧ ∀ (j : Nat) t, fn.params[j]? = some t → Tryz.pinned.checked.prog.wantsStandIn t = false := by
  obtain rfl : f = 3 := Option.some.inj ((show Tryz.prog.funcNamed Rows.topMotionsScaleRow.func = some 3 by kernel_rfl).symm.trans hf) |>.symm
  obtain rfl : fn = Tryz.f3 := (Option.some.inj (Tryz.func3.symm.trans hfn)).symm
  refine ⟨by kernel_rfl, fun j t ht => ?_⟩
  rw [Tryz.params3] at ht
  have hm : t ∈ [24, 27, 28] := by simpa using Array.mem_of_getElem? ht
  have hall : ([24, 27, 28].all fun u => !Tryz.prog.wantsStandIn u) = true := by kernel_rfl
  exact (show Tryz.prog.wantsStandIn t = false by simpa using List.all_eq_true.1 hall t hm)
theorem card : Rows.TopMotionsScaleCardSaid :=
  Claim7.holds_tied_plain_at .later [] _ _ _ _ said (fun _ h => by cases h) (by kernel_rfl) (fun _ h => by cases h) topMotionsScale_row_tie rfl ⟨rfl, rfl⟩ (by kernel_rfl) rfl plain (by kernel_rfl)
end Go.Proofs.YtkgijoddkibapaaGreatDoor.topMotionsScale
