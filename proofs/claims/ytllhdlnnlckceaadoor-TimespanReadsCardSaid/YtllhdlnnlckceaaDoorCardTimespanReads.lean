/- The card of TimespanReads. Written by our own program card.py; Lean checks it. -/
import Derived.Test.YtllhdlnnlckceaaDoorReads
import Derived.Test.YtllhdlnnlckceaaDoorLawT
import Derived.Test.YtllhdlnnlckceaaDoorWalk4
import Derived.Test.YtllhdlnnlckceaaDoorCards
import Derived.Test.YtllhdlnnlckceaaDoorTie
set_option linter.unusedVariables false
set_option maxRecDepth 100000
namespace Go.Proofs.YtllhdlnnlckceaaDoor.timespanReads
open Go.ChangeShapes Go.WideShapes Go.ChangeAt Go.RowKit Go.Proofs.YtllhdlnnlckceaaDoor.W
theorem own : ownKnob Tryd.prog.godebug = none := by kernel_rfl
theorem laidOut : laidOutB Tryd.prog = true := by kernel_rfl
theorem params_ok : ∀ t ∈ Tryd.f5.params.toList, Tryd.prog.readableRec t = true ∧ t < Tryd.prog.types.size := by
  have h : (Tryd.f5.params.toList.all fun t => Tryd.prog.readableRec t && decide (t < Tryd.prog.types.size)) = true := by kernel_rfl
  intro t ht
  have := List.all_eq_true.1 h t ht
  simpa using this
theorem tab1 {W : World} (h : laidMetH Tryd.prog Rows.timespanReadsRow.laid W) : Lib.TabIs Tryd.prog W "internal/strconv.uint64pow10" .u64 Lib.pow10Tab := by
  rw [MakeChecks.laidMetH_plain _ _ _ (by kernel_rfl)] at h
  exact Lib.tabIs_of_head (g := 1) (by kernel_rfl) (by kernel_rfl) Tryd.underlying115 Tryd.underlying95 (by kernel_rfl) (by kernel_rfl) (laidMet.tail (laidMet.tail h))
theorem contract (H : Type) (enc : TypeId × Value → H) (W : World) (base : Nat) (args : Array Value) (ds gs : List (DataW H)) (before : List MemPlace)
    (hval : ∀ (j : Nat) t v, Tryd.f5.params[j]? = some t → args[j]? = some v → Value.okWide Tryd.prog W .any base t v)
    (hW : DataW.Whole enc Tryd.prog Tryd.f5.params.toList Rows.timespanReadsSpec.vars false W args.toList ds gs before) (hL : laidMetH Tryd.prog Rows.timespanReadsRow.laid W) (hsh : W.ShapedOpen Tryd.prog) :
    Calls Tryd.prog 5 args W fun e W' => ∃ v, e = .returned v ∧ Rows.timespanReadsSpec.post enc Tryd.prog Tryd.f5 false true false false W args v W' := by
  have hW' := hW
  obtain ⟨p, q, hA, hV, rfl, hfz, hnd⟩ := hW
  rw [Tryd.params5] at hA hval
  obtain ⟨v0, vs0, d0, ds0, p0, q0, hargs, rfl, rfl, ⟨n0, h0⟩, r0⟩ := trodAll_cons hA
  obtain ⟨v1, vs1, d1, ds1, p1, q1, rfl, rfl, rfl, ⟨n1, h1⟩, r1⟩ := trodAll_cons r0
  obtain ⟨rfl, rfl, rfl⟩ := trodAll_nil r1
  obtain rfl : args = #[v0, v1] := by cases args; simp_all
  have hg := glob_start hsh (tab1 hL)
  obtain ⟨a0, e0, g0⟩ := (reads_Span23) _ _ _ h0
  replace e0 := cell_agg (ia_struct Tryd.underlying23 (hval 0 23 v0 rfl rfl)) e0
  subst e0
  obtain ⟨a1, e1, g1⟩ := (reads_str Tryd.underlying9) _ _ _ h1
  replace e1 := cell_one (na_str Tryd.underlying9 (hval 1 9 v1 rfl rfl)) e1
  subst e1
  refine Calls.mono (law03_TimespanReads_con a0 a1  W (hp W) (Le.refl _)  hg true (law_Reads a0 a1)) fun e W' he => ?_
  obtain ⟨r, he, hb, hr⟩ := he
  subst hr
  exact ⟨_, he, post_true laidOut params_ok Tryd.underlying4 (by kernel_rfl) rfl ⟨rfl, rfl, rfl⟩ hW' hb⟩
set_option maxRecDepth 100000 in
theorem lifted (os : Os) (started : os.Started) (H : Type) (enc : TypeId × Value → H) (F : Stop.Interp) :
    ReturnsInHanded {} Tryd.checked os 5 .any ((OpenSpec.ofChange Rows.timespanReadsSpec).preRow enc Tryd.prog Tryd.f5 Rows.timespanReadsRow.domain false Rows.timespanReadsRow.laid) (((OpenSpec.ofChange Rows.timespanReadsSpec).at F).post enc Tryd.prog Tryd.f5 false true false false) := by
  refine returnsInHanded_of_row (C := Tryd.checked) (s := OpenSpec.ofChange Rows.timespanReadsSpec) own started (by kernel_rfl) Tryd.func5
    (witness_laid (enc := enc) (C := Tryd.checked) (World.laidAll Tryd.prog os Rows.timespanReadsRow.laid) #[.agg #[.int .i64 0, .int .i64 0], .string ⟨#[]⟩] (World.laidAll_os _ _ _) (World.shaped_of_ZipB (by kernel_rfl) (by kernel_rfl)) (by kernel_rfl)
      ⟨⟨OpenSpec.pre_of_parts (DataW.Whole_of_whole (fuel := 8) (x := ([.agg [.lit (.int .i64 0), .lit (.int .i64 0)], .lit (.string [])], [], [])) (by kernel_rfl)) (by kernel_rfl) (fun k hk => by cases hk), by rw [MakeChecks.laidMetH_plain _ _ _ (by kernel_rfl)]; exact laidMet_laidAll _ (by kernel_rfl) (by kernel_rfl)⟩, sizedMet_of_bare (sizedMet_of_sizedB (fuel := 8) (by kernel_rfl))⟩) ?_
  intro W base args ds gs before hval hW _ _ _ hL hsh _
  exact contract H enc W base args ds gs before hval hW hL hsh
theorem said : Rows.TimespanReadsSaid :=
  OpenClaim.holds_of_cond 5 Tryd.f5 rfl rfl rfl rfl rfl rfl rfl ⟨rfl, rfl, rfl, rfl, rfl⟩ rfl rfl rfl rfl rfl (by kernel_rfl) Tryd.func5 (by kernel_rfl)
    (of_decide_eq_true (by kernel_rfl)) (by unfold Func.isWrapper; first | (rw [if_pos (by decide +kernel)]; kernel_rfl) | (rw [if_neg (by decide +kernel)]; exact ⟨rfl, rfl⟩))
    (fun os started H enc _ F => by rw [OpenClaim.pre_eq_preRow]; exact lifted os started H enc F)
theorem plain (f : FuncId) (fn : Func) (hf : Tryd.pinned.checked.prog.funcNamed Rows.timespanReadsRow.func = some f) (hfn : Tryd.pinned.checked.prog.funcs[f]? = some fn) :
    true = Tryd.pinned.checked.prog.looks [] ∧ ∀ (j : Nat) t, fn.params[j]? = some t → Tryd.pinned.checked.prog.wantsStandIn t = false := by
  obtain rfl : f = 5 := Option.some.inj ((show Tryd.prog.funcNamed Rows.timespanReadsRow.func = some 5 by kernel_rfl).symm.trans hf) |>.symm
  obtain rfl : fn = Tryd.f5 := (Option.some.inj (Tryd.func5.symm.trans hfn)).symm
  refine ⟨by kernel_rfl, fun j t ht => ?_⟩
  rw [Tryd.params5] at ht
  have hm : t ∈ [23, 9] := by simpa using Array.mem_of_getElem? ht
  have hall : ([23, 9].all fun u => !Tryd.prog.wantsStandIn u) = true := by kernel_rfl
  exact (show Tryd.prog.wantsStandIn t = false by simpa using List.all_eq_true.1 hall t hm)
theorem card : Rows.TimespanReadsCardSaid :=
  Claim7.holds_tied_plain_at .later [] _ _ _ _ said (fun _ h => by cases h) (by kernel_rfl) (fun _ h => by cases h) timespanReads_row_tie rfl ⟨rfl, rfl⟩ (by kernel_rfl) rfl plain (by kernel_rfl)
end Go.Proofs.YtllhdlnnlckceaaDoor.timespanReads
