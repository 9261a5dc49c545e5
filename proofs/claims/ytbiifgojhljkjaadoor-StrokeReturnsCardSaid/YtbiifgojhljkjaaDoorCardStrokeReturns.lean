/- The card of StrokeReturns. Written by our own program card.py; Lean checks it. -/
import Derived.Test.YtbiifgojhljkjaaDoorReads
import Derived.Test.YtbiifgojhljkjaaDoorLawG
import Derived.Test.YtbiifgojhljkjaaDoorWalk8
import Derived.Test.YtbiifgojhljkjaaDoorStart
import Derived.Test.YtbiifgojhljkjaaDoorCards
import Derived.Test.YtbiifgojhljkjaaDoorTie
set_option linter.unusedVariables false
set_option maxRecDepth 100000
namespace Go.Proofs.YtbiifgojhljkjaaDoor.strokeReturns
open Go.ChangeShapes Go.WideShapes Go.ChangeAt Go.RowKit Go.Proofs.YtbiifgojhljkjaaDoor.W
theorem own : ownKnob Tryd.prog.godebug = none := by kernel_rfl
theorem laidOut : laidOutB Tryd.prog = true := by kernel_rfl
theorem params_ok : ∀ t ∈ Tryd.f7.params.toList, Tryd.prog.readableRec t = true ∧ t < Tryd.prog.types.size := by
  have h : (Tryd.f7.params.toList.all fun t => Tryd.prog.readableRec t && decide (t < Tryd.prog.types.size)) = true := by kernel_rfl
  intro t ht
  have := List.all_eq_true.1 h t ht
  simpa using this
theorem tab0 {W : World} (h : laidMetH Tryd.prog Rows.strokeReturnsRow.laid W) : Lib.TabIs Tryd.prog W "internal/strconv.uint64pow10" .u64 Lib.pow10Tab := by
  rw [MakeChecks.laidMetH_plain _ _ _ (by kernel_rfl)] at h
  exact Lib.tabIs_of_head (g := 0) (by kernel_rfl) (by kernel_rfl) Tryd.underlying126 Tryd.underlying106 (by kernel_rfl) (by kernel_rfl) (laidMet.tail (laidMet.tail h))
theorem contract (H : Type) (enc : TypeId × Value → H) (W : World) (base : Nat) (args : Array Value) (ds gs : List (DataW H)) (before : List MemPlace)
    (hval : ∀ (j : Nat) t v, Tryd.f7.params[j]? = some t → args[j]? = some v → Value.okWide Tryd.prog W .any base t v)
    (hW : DataW.Whole enc Tryd.prog Tryd.f7.params.toList Rows.strokeReturnsSpec.vars false W args.toList ds gs before) (hz : (DataW.weightsEach Tryd.prog (Tryd.f7.params.toList ++ (OpenSpec.ofChange Rows.strokeReturnsSpec).bare.plain.varTypes Tryd.prog) (ds ++ gs)).all (· ≤ reachBytes) = true) (hL : laidMetH Tryd.prog Rows.strokeReturnsRow.laid W) (hsh : W.ShapedOpen Tryd.prog) :
    Calls Tryd.prog 7 args W fun e W' => ∃ v, e = .returned v ∧ Rows.strokeReturnsSpec.post enc Tryd.prog Tryd.f7 false true false false W args v W' := by
  have hW' := hW
  obtain ⟨p, q, hA, hV, rfl, hfz, hnd⟩ := hW
  rw [Tryd.params7] at hA hval
  obtain ⟨v0, vs0, d0, ds0, p0, q0, hargs, rfl, rfl, ⟨n0, h0⟩, r0⟩ := trodAll_cons hA
  obtain ⟨v1, vs1, d1, ds1, p1, q1, rfl, rfl, rfl, ⟨n1, h1⟩, r1⟩ := trodAll_cons r0
  obtain ⟨rfl, rfl, rfl⟩ := trodAll_nil r1
  obtain rfl : args = #[v0, v1] := by cases args; simp_all
  have hg := glob_start hsh (tab0 hL)
  obtain ⟨a0, e0, g0⟩ := (reads_Step26) _ _ _ h0
  obtain ⟨x0_ao1, x0_cap1, e0, x0_h1, x0_hc1⟩ := e0
  have z0_0 := size_field (i := 0) (b := 16) Tryd.underlying26 rfl Tryd.underlying24 (by kernel_rfl) (by kernel_rfl) (e0 ▸ h0) (weights_at (i := 0) (by rw [Tryd.params7]; rfl) rfl hz) rfl
  replace e0 := cell_agg (ia_struct Tryd.underlying26 (hval 0 26 v0 rfl rfl)) e0
  subst e0
  obtain ⟨ao1, a1, cap1, e1, s1, k1, w1, g1⟩ := reads_slice Tryd.underlying37 (by kernel_rfl) (reads_bool Tryd.underlying4) _ _ _ h1
  have z1 := size_slice (b := 1) Tryd.underlying37 (by kernel_rfl) (e1 ▸ h1) (weights_at (i := 1) (by rw [Tryd.params7]; rfl) rfl hz)
  replace e1 := cell_one (na_slice Tryd.underlying37 (hval 1 37 v1 rfl rfl)) e1
  subst e1
  refine Calls.mono (law13_StrokeReturns_con a0 a1 x0_ao1 x0_cap1 ao1 cap1 W (hp W) (Le.refl _) x0_h1 x0_hc1 s1 k1 hg true (law_Returns a0 a1)) fun e W' he => ?_
  obtain ⟨r, he, hb, hr⟩ := he
  subst hr
  exact ⟨_, he, post_true laidOut params_ok Tryd.underlying4 (by kernel_rfl) rfl ⟨rfl, rfl, rfl⟩ hW' hb⟩
set_option maxRecDepth 100000 in
theorem lifted (os : Os) (started : os.Started) (H : Type) (enc : TypeId × Value → H) (F : Stop.Interp) :
    ReturnsInHanded {} Tryd.checked os 7 .any ((OpenSpec.ofChange Rows.strokeReturnsSpec).preRow enc Tryd.prog Tryd.f7 Rows.strokeReturnsRow.domain false Rows.strokeReturnsRow.laid) (((OpenSpec.ofChange Rows.strokeReturnsSpec).at F).post enc Tryd.prog Tryd.f7 false true false false) := by
  refine returnsInHanded_of_row (C := Tryd.checked) (s := OpenSpec.ofChange Rows.strokeReturnsSpec) own started (by kernel_rfl) Tryd.func7
    (witness_laid (enc := enc) (C := Tryd.checked) (World.laidAll Tryd.prog os Rows.strokeReturnsRow.laid) #[.agg #[.slice none 0 0, .int .i64 0], .slice none 0 0] (World.laidAll_os _ _ _) (World.shaped_of_ZipB (by kernel_rfl) (by kernel_rfl)) (by kernel_rfl)
      ⟨⟨OpenSpec.pre_of_parts (DataW.Whole_of_whole (fuel := 8) (x := ([.agg [.nil, .lit (.int .i64 0)], .nil], [], [])) (by kernel_rfl)) (by kernel_rfl) (fun k hk => by cases hk), by rw [MakeChecks.laidMetH_plain _ _ _ (by kernel_rfl)]; exact laidMet_laidAll _ (by kernel_rfl) (by kernel_rfl)⟩, sizedMet_of_bare (sizedMet_of_sizedB (fuel := 8) (by kernel_rfl))⟩) ?_
  intro W base args ds gs before hval hW _ _ hz hL hsh _
  exact contract H enc W base args ds gs before hval hW hz hL hsh
theorem said : Rows.StrokeReturnsSaid :=
  OpenClaim.holds_of_cond 7 Tryd.f7 rfl rfl rfl rfl rfl rfl rfl ⟨rfl, rfl, rfl, rfl, rfl⟩ rfl rfl rfl rfl rfl (by kernel_rfl) Tryd.func7 (by kernel_rfl)
    (of_decide_eq_true (by kernel_rfl)) (by unfold Func.isWrapper; first | (rw [if_pos (by decide +kernel)]; kernel_rfl) | (rw [if_neg (by decide +kernel)]; exact ⟨rfl, rfl⟩))
    (fun os started H enc _ F => by rw [OpenClaim.pre_eq_preRow]; exact lifted os started H enc F)
theorem plain (f : FuncId) (fn : Func) (hf : Tryd.pinned.checked.prog.funcNamed Rows.strokeReturnsRow.func = some f) (hfn : Tryd.pinned.checked.prog.funcs[f]? = some fn) :
    true = Tryd.pinned.checked.prog.looks [] ∧ ∀ (j : Nat) t, fn.params[j]? = some t → Tryd.pinned.checked.prog.wantsStandIn t = false := by
  obtain rfl : f = 7 := Option.some.inj ((show Tryd.prog.funcNamed Rows.strokeReturnsRow.func = some 7 by kernel_rfl).symm.trans hf) |>.symm
  obtain rfl : fn = Tryd.f7 := (Option.some.inj (Tryd.func7.symm.trans hfn)).symm
  refine ⟨by kernel_rfl, fun j t ht => ?_⟩
  rw [Tryd.params7] at ht
  have hm : t ∈ [26, 37] := by simpa using Array.mem_of_getElem? ht
  have hall : ([26, 37].all fun u => !Tryd.prog.wantsStandIn u) = true := by kernel_rfl
  exact (show Tryd.prog.wantsStandIn t = false by simpa using List.all_eq_true.1 hall t hm)
theorem card : Rows.StrokeReturnsCardSaid :=
  Claim7.holds_tied_plain_at .later [] _ _ _ _ said (fun _ h => by cases h) (by kernel_rfl) (fun _ h => by cases h) strokeReturns_row_tie rfl ⟨rfl, rfl⟩ (by kernel_rfl) rfl plain (by kernel_rfl)
end Go.Proofs.YtbiifgojhljkjaaDoor.strokeReturns
