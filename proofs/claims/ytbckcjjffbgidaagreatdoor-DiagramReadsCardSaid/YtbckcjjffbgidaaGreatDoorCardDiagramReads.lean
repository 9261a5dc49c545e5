/- The card of DiagramReads. Written by our own program card.py; Lean checks it. -/
import Derived.Test.YtbckcjjffbgidaaGreatDoorReads
import Derived.Test.YtbckcjjffbgidaaGreatDoorLawX
import Derived.Test.YtbckcjjffbgidaaGreatDoorWalk5
import Derived.Test.YtbckcjjffbgidaaGreatDoorStart
import Derived.Test.YtbckcjjffbgidaaGreatDoorCards
import Derived.Test.YtbckcjjffbgidaaGreatDoorTie
set_option linter.unusedVariables false
set_option maxRecDepth 100000
namespace Go.Proofs.YtbckcjjffbgidaaGreatDoor.diagramReads
open Go.ChangeShapes Go.WideShapes Go.ChangeAt Go.RowKit Go.Proofs.YtbckcjjffbgidaaGreatDoor.W
theorem own : ownKnob Tryz.prog.godebug = none := by kernel_rfl
theorem laidOut : laidOutB Tryz.prog = true := by kernel_rfl
theorem params_ok : ∀ t ∈ Tryz.f9.params.toList, Tryz.prog.readableRec t = true ∧ t < Tryz.prog.types.size := by
  have h : (Tryz.f9.params.toList.all fun t => Tryz.prog.readableRec t && decide (t < Tryz.prog.types.size)) = true := by kernel_rfl
  intro t ht
  have := List.all_eq_true.1 h t ht
  simpa using this
theorem tab0 {W : World} (h : laidMetH Tryz.prog Rows.diagramReadsRow.laid W) : Lib.TabIs Tryz.prog W "pneumatic/diagram.rest" .u8 diag_rest := by
  rw [MakeChecks.laidMetH_plain _ _ _ (by kernel_rfl)] at h
  exact Lib.tabIs_of_head (g := 0) (by kernel_rfl) (by kernel_rfl) Tryz.underlying84 Tryz.underlying5 (by kernel_rfl) (by kernel_rfl) (laidMet.tail (laidMet.tail (laidMet.tail (laidMet.tail (laidMet.tail (laidMet.tail h))))))
theorem tab1 {W : World} (h : laidMetH Tryz.prog Rows.diagramReadsRow.laid W) : Lib.TabIs Tryz.prog W "pneumatic/diagram.going" .u8 diag_going := by
  rw [MakeChecks.laidMetH_plain _ _ _ (by kernel_rfl)] at h
  exact Lib.tabIs_of_head (g := 1) (by kernel_rfl) (by kernel_rfl) Tryz.underlying84 Tryz.underlying5 (by kernel_rfl) (by kernel_rfl) (laidMet.tail (laidMet.tail (laidMet.tail (laidMet.tail (laidMet.tail (laidMet.tail (laidMet.tail h)))))))
theorem tab7 {W : World} (h : laidMetH Tryz.prog Rows.diagramReadsRow.laid W) : Lib.TabIs Tryz.prog W "internal/strconv.uint64pow10" .u64 Lib.pow10Tab := by
  rw [MakeChecks.laidMetH_plain _ _ _ (by kernel_rfl)] at h
  exact Lib.tabIs_of_head (g := 7) (by kernel_rfl) (by kernel_rfl) Tryz.underlying196 Tryz.underlying174 (by kernel_rfl) (by kernel_rfl) (laidMet.tail (laidMet.tail h))
theorem star5 : "*" ++ "errors.errorString" = "*errors.errorString" := by decide
theorem row5 (u : TypeId) (h : Tryz.prog.typeName? 3 u = some "*errors.errorString") : u = 200 :=
  typeName_ptr_named (nm := "errors.errorString") (by rw [star5]; kernel_rfl) (by kernel_rfl) (by decide) u (by rw [star5]; exact h)
theorem sent5 {W : World} (h : laidMetH Tryz.prog Rows.diagramReadsRow.laid W) : ∃ tp p, W.var? Tryz.prog "strconv.ErrSyntax" = some #[.iface tp p] := by
  rw [MakeChecks.laidMetH_plain _ _ _ (by kernel_rfl)] at h
  obtain ⟨a, s, hv, _⟩ := laid_sentinel (g := 5) (ti := 90) (tp := 200) (te := 202) (ts := 9) (laidMet.tail (laidMet.tail (laidMet.tail (laidMet.tail (laidMet.tail h))))) (by kernel_rfl) (by kernel_rfl) Tryz.underlying90 row5 Tryz.underlying200 Tryz.underlying202 rfl rfl Tryz.underlying9 (by kernel_rfl) (by kernel_rfl)
  exact ⟨_, _, hv⟩
theorem contract (H : Type) (enc : TypeId × Value → H) (W : World) (base : Nat) (args : Array Value) (ds gs : List (DataW H)) (before : List MemPlace)
    (hval : ∀ (j : Nat) t v, Tryz.f9.params[j]? = some t → args[j]? = some v → Value.okWide Tryz.prog W .any base t v)
    (hW : DataW.Whole enc Tryz.prog Tryz.f9.params.toList Rows.diagramReadsSpec.vars false W args.toList ds gs before) (hz : (DataW.weightsEach Tryz.prog (Tryz.f9.params.toList ++ (OpenSpec.ofChange Rows.diagramReadsSpec).bare.plain.varTypes Tryz.prog) (ds ++ gs)).all (· ≤ reachBytes) = true) (hL : laidMetH Tryz.prog Rows.diagramReadsRow.laid W) (hsh : W.ShapedOpen Tryz.prog) :
    Calls Tryz.prog 9 args W fun e W' => ∃ v, e = .returned v ∧ Rows.diagramReadsSpec.post enc Tryz.prog Tryz.f9 false true false false W args v W' := by
  have hW' := hW
  obtain ⟨p, q, hA, hV, rfl, hfz, hnd⟩ := hW
  rw [Tryz.params9] at hA hval
  obtain ⟨v0, vs0, d0, ds0, p0, q0, hargs, rfl, rfl, ⟨n0, h0⟩, r0⟩ := trodAll_cons hA
  obtain ⟨rfl, rfl, rfl⟩ := trodAll_nil r0
  obtain rfl : args = #[v0] := by cases args; simp_all
  have hg := glob_start hsh (tab0 hL) (tab1 hL) (tab7 hL) (sent5 hL)
  obtain ⟨ao0, a0, cap0, e0, s0, k0, w0, g0⟩ := reads_slice Tryz.underlying27 (by kernel_rfl) (reads_str Tryz.underlying9) _ _ _ h0
  have z0 := size_slice (b := 16) Tryz.underlying27 (by kernel_rfl) (e0 ▸ h0) (weights_at (i := 0) (by rw [Tryz.params9]; rfl) rfl hz)
  replace e0 := cell_one (na_slice Tryz.underlying27 (hval 0 27 v0 rfl rfl)) e0
  subst e0
  refine Calls.mono (law16_DiagramReads_con a0 ao0 cap0 W (hp W) (Le.refl _) s0 k0 hg true (law_DiagramReads a0)) fun e W' he => ?_
  obtain ⟨r, he, hb, hr⟩ := he
  subst hr
  exact ⟨_, he, post_true laidOut params_ok Tryz.underlying4 (by kernel_rfl) rfl ⟨rfl, rfl, rfl⟩ hW' hb⟩
set_option maxRecDepth 100000 in
theorem lifted (os : Os) (started : os.Started) (H : Type) (enc : TypeId × Value → H) (F : Stop.Interp) :
    ReturnsInHanded {} Tryz.checked os 9 .any ((OpenSpec.ofChange Rows.diagramReadsSpec).preRow enc Tryz.prog Tryz.f9 Rows.diagramReadsRow.domain false Rows.diagramReadsRow.laid) (((OpenSpec.ofChange Rows.diagramReadsSpec).at F).post enc Tryz.prog Tryz.f9 false true false false) := by
  refine returnsInHanded_of_row (C := Tryz.checked) (s := OpenSpec.ofChange Rows.diagramReadsSpec) own started (by kernel_rfl) Tryz.func9
    (witness_laid (enc := enc) (C := Tryz.checked) (World.laidAll Tryz.prog os Rows.diagramReadsRow.laid) #[.slice none 0 0] (World.laidAll_os _ _ _) (World.shaped_of_ZipB (by kernel_rfl) (by kernel_rfl)) (by kernel_rfl)
      ⟨⟨OpenSpec.pre_of_parts (DataW.Whole_of_whole (fuel := 8) (x := ([.nil], [], [])) (by kernel_rfl)) (by kernel_rfl) (fun k hk => by cases hk), by rw [MakeChecks.laidMetH_plain _ _ _ (by kernel_rfl)]; exact laidMet_laidAll _ (by kernel_rfl) (by kernel_rfl)⟩, sizedMet_of_bare (sizedMet_of_sizedB (fuel := 8) (by kernel_rfl))⟩) ?_
  intro W base args ds gs before hval hW _ _ hz hL hsh _
  exact contract H enc W base args ds gs before hval hW hz hL hsh
theorem said : Rows.DiagramReadsSaid :=
  OpenClaim.holds_of_cond 9 Tryz.f9 rfl rfl rfl rfl rfl rfl rfl ⟨rfl, rfl, rfl, rfl, rfl⟩ rfl rfl rfl rfl rfl (by kernel_rfl) Tryz.func9 (by kernel_rfl)
    (of_decide_eq_true (by kernel_rfl)) (by unfold Func.isWrapper; first | (rw [if_pos (by decide +kernel)]; kernel_rfl) | (rw [if_neg (by decide +kernel)]; exact ⟨rfl, rfl⟩))
    (fun os started H enc _ F => by rw [OpenClaim.pre_eq_preRow]; exact lifted os started H enc F)
theorem plain (f : FuncId) (fn : Func) (hf : Tryz.pinned.checked.prog.funcNamed Rows.diagramReadsRow.func = some f) (hfn : Tryz.pinned.checked.prog.funcs[f]? = some fn) :
    true = Tryz.pinned.checked.prog.looks [] ∧ ∀ (j : Nat) t, fn.params[j]? = some t → Tryz.pinned.checked.prog.wantsStandIn t = false := by
  obtain rfl : f = 9 := Option.some.inj ((show Tryz.prog.funcNamed Rows.diagramReadsRow.func = some 9 by kernel_rfl).symm.trans hf) |>.symm
  obtain rfl : fn = Tryz.f9 := (Option.some.inj (Tryz.func9.symm.trans hfn)).symm
  refine ⟨by kernel_rfl, fun j t ht => ?_⟩
  rw [Tryz.params9] at ht
  have hm : t ∈ [27] := by simpa using Array.mem_of_getElem? ht
  have hall : ([27].all fun u => !Tryz.prog.wantsStandIn u) = true := by kernel_rfl
  exact (show Tryz.prog.wantsStandIn t = false by simpa using List.all_eq_true.1 hall t hm)
theorem card : Rows.DiagramReadsCardSaid :=
  Claim7.holds_tied_plain_at .later [] _ _ _ _ said (fun _ h => by cases h) (by kernel_rfl) (fun _ h => by cases h) diagramReads_row_tie rfl ⟨rfl, rfl⟩ (by kernel_rfl) rfl plain (by kernel_rfl)
end Go.Proofs.YtbckcjjffbgidaaGreatDoor.diagramReads
