/- strings.Trim at a set of more than one ASCII byte. -/
import Derived.Test.YtllhdlnnlckceaaDoorStdWalk0
set_option linter.unusedVariables false
set_option maxRecDepth 100000
namespace Go.Proofs.YtllhdlnnlckceaaDoor.W
open Go Go.RowKit
def trimS (p_s p_cutset : List UInt8) : Option (List UInt8) :=
  if ((p_s == []) || (p_cutset == [])) = true then some p_s
  else (guardO ((!((p_cutset.length : Int) == 1)) && decide (p_cutset.length < 4294967281) && p_cutset.all (fun b => decide (b.toNat < 128)))).bind fun _ =>
    (strings_trimRightASCII p_s (setOf p_cutset)).bind fun r1 => strings_trimLeftASCII r1 (setOf p_cutset)
theorem setOf_cells {c : List UInt8} {H : Heap} {b : Nat} (h : ∀ j u, ((setOf c).map Value.bool)[j]? = some u → cellH H ⟨b, j, none⟩ = some u) : SL H encBool (some ⟨b, 0, none⟩) (setOf c) := fun i x hx => by
  refine ⟨_, rfl, fun j u hu => ?_⟩
  cases j with
  | succ j => simp at hu
  | zero =>
    simp at hu
    subst hu
    refine ⟨_, rfl, ?_⟩
    rw [addr_add]
    simp only [encBool, Enc.flat, Nat.mul_one, Nat.add_zero, Nat.zero_add]
    exact h i _ (by rw [List.getElem?_map, hx]; rfl)
theorem trimS_con (p_s : (List UInt8)) (p_cutset : (List UInt8)) (w : World) (H : Heap) (hH : Le H (hp w)) (hG : Glob H) (r : (List UInt8)) (hm : trimS p_s p_cutset = some r) :
    Con Tryd.prog 60 [(mkS p_s), (mkS p_cutset)] w H (fun v _ => v = (mkS r)) := by
  unfold trimS at hm
  refine con_of hH Tryd.func60 rfl 43 Tryd.ntmps60 rfl ?_
  refine WP.seq ?_
  refine WP.region ?_
  refine WL.quiet (Runs.free rfl) rfl rfl (OV.quiet (ov_assign rfl rfl)) ?_
  refine WL.nil ?_
  refine then_normal ?_
  refine WP.seq ?_
  refine WP.seq ?_
  refine WP.region ?_
  refine WL.quiet (Runs.free rfl) rfl rfl (OV.quiet (ov_move rfl rfl)) ?_
  refine WL.quiet (Runs.free rfl) rfl rfl (OV.quiet (ov_seql rfl rfl rfl)) ?_
  refine WL.quiet (Runs.free rfl) rfl rfl (OV.quiet (ov_move rfl rfl)) ?_
  refine WL.cut_bool 3 12 (x := ((p_s == []) || (p_cutset == []))) ?_ ?_
  · rcases Bool.eq_false_or_eq_true (p_s == []) with hc1 | hc1
    · skip
      refine WL.idle (Idle.no rfl rfl rfl hc1) rfl rfl ?_
      refine WL.idle (Idle.no rfl rfl rfl hc1) rfl rfl ?_
      refine WL.quiet (Runs.free rfl) rfl rfl (OV.quiet (ov_pick_true rfl (guard_eq rfl hc1) rfl)) ?_
      exact WL.nil ⟨Sub.cons' rfl (congrArg Value.bool (by rw [hc1]; rfl)) (Sub.skip rfl (Sub.skip rfl (Sub.skip rfl (Sub.refl _)))), fun _ s => s⟩
    · skip
      refine WL.quiet (Runs.yes rfl rfl rfl hc1) rfl rfl (OV.quiet (ov_move rfl rfl)) ?_
      refine WL.quiet (Runs.yes rfl rfl rfl hc1) rfl rfl (OV.quiet (ov_seql rfl rfl rfl)) ?_
      refine WL.quiet (Runs.free rfl) rfl rfl (OV.quiet (ov_pick_false rfl (guard_eq rfl hc1) rfl)) ?_
      exact WL.nil ⟨Sub.cons' rfl (congrArg Value.bool (by rw [hc1]; rfl)) (Sub.skip rfl (Sub.skip rfl (Sub.skip rfl (Sub.refl _)))), fun _ s => s⟩
  refine WL.nil ?_
  refine then_normal ?_
  refine WP.cond rfl (fun hc2 => ?_) (fun hc2 => ?_)
  · replace hm := ite_t hc2 hm
    refine WP.seq ?_
    refine WP.region ?_
    refine WL.quiet (Runs.free rfl) rfl rfl (OV.quiet (ov_move rfl rfl)) ?_
    refine WL.quiet (Runs.free rfl) rfl rfl (OV.quiet (ov_assign rfl rfl)) ?_
    refine WL.nil ?_
    refine then_normal ?_
    refine WP.ret ?_
    refine then_ret ?_
    obtain rfl := Option.some.inj hm
    refine retQ_ret Tryd.results60 (Res.tmp rfl Res.nil) rfl (fun w' s => ⟨s.below, ?_⟩)
    exact rfl
  · replace hm := ite_f hc2 hm
    refine WP.skip ?_
    refine then_normal ?_
    refine WP.seq ?_
    refine WP.seq ?_
    refine WP.region ?_
    refine WL.quiet (Runs.free rfl) rfl rfl (OV.quiet (ov_move rfl rfl)) ?_
    refine WL.quiet (Runs.free rfl) rfl rfl (OV.quiet (ov_len_string Tryd.underlying9 rfl rfl)) ?_
    refine WL.quiet (Runs.free rfl) rfl rfl (OV.quiet (ov_eql rfl rfl rfl)) ?_
    refine WL.quiet (Runs.free rfl) rfl rfl (OV.quiet (ov_move rfl rfl)) ?_
    obtain ⟨_, hg, hm⟩ := bind_some hm
    replace hg := guardO_some hg
    rw [Bool.and_eq_true, Bool.and_eq_true] at hg
    obtain ⟨⟨hg1, hg2⟩, hg3⟩ := hg
    replace hg1 : ((p_cutset.length : Int) == 1) = false := by simpa using hg1
    replace hg2 : p_cutset.length < 4294967281 := by simpa using hg2
    replace hg3 : ∀ b ∈ p_cutset, b.toNat < 128 := by simpa using hg3
    refine WL.idle (Idle.no rfl rfl rfl hg1) rfl rfl ?_
    refine WL.idle (Idle.no rfl rfl rfl hg1) rfl rfl ?_
    refine WL.idle (Idle.no rfl rfl rfl hg1) rfl rfl ?_
    refine WL.quiet (Runs.free rfl) rfl rfl (OV.quiet (ov_pick_false rfl (guard_eq rfl hg1) rfl)) ?_
    refine WL.nil ?_
    refine then_normal ?_
    refine WP.cond_false rfl ?_
    refine WP.skip ?_
    refine then_normal ?_
    refine WP.seq ?_
    refine WP.seq ?_
    refine WP.region ?_
    refine WL.quiet (Runs.free rfl) rfl rfl (OV.quiet (ov_move rfl rfl)) ?_
    refine WL.quiet (Runs.free rfl) rfl rfl (oq_con (r := .tuple #[.agg ((setOf p_cutset).map Value.bool).toArray, .bool true]) Tryd.call66 rfl rfl (fun w' s => ⟨H, mkset_con p_cutset w' H hg2 hg3⟩)) ?_
    refine WL.quiet (Runs.free rfl) rfl rfl (OV.quiet (ov_move rfl rfl)) ?_
    refine WL.quiet (Runs.free rfl) rfl rfl (OV.quiet (ov_extract rfl rfl rfl)) ?_
    refine WL.quiet (Runs.free rfl) rfl rfl (OV.quiet (ov_extract rfl rfl rfl)) ?_
    refine WL.step (Runs.free rfl) rfl rfl (os_alloc (cs := List.replicate 256 (.bool false)) zero88 (by rw [List.toArray_replicate]; rfl) rfl (fun b1 => ?_))
    refine WL.step0 (Runs.free rfl) rfl (os_store (i := 0) (vs := (setOf p_cutset).map Value.bool) (cs' := (setOf p_cutset).map Value.bool) Tryd.sizeOf88 rfl rfl rfl rfl rfl (by simp [setOf_length]) (by simp [setOf_length]) (by simp [Value.oneCell']) (by simp [spl, setOf_length]) ?_)
    refine WL.quiet (Runs.free rfl) rfl rfl (OV.quiet (ov_assign rfl rfl)) ?_
    refine WL.box_held (fun H1 hle1 hcell => ?_)
    have hset := setOf_cells hcell
    replace hG := hG.mono hle1
    refine WL.nil ?_
    refine then_normal ?_
    refine WP.seq ?_
    refine WP.region ?_
    refine WL.quiet (Runs.free rfl) rfl rfl (OV.quiet (ov_move rfl rfl)) ?_
    refine WL.nil ?_
    refine then_normal ?_
    refine WP.cond_true rfl ?_
    obtain ⟨r1, e1, hm⟩ := bind_some hm
    refine WP.seq ?_
    refine WP.region ?_
    refine WL.quiet (Runs.free rfl) rfl rfl (OV.quiet (ov_move rfl rfl)) ?_
    refine WL.quiet (Runs.free rfl) rfl rfl (oq_con (r := mkS r1) Tryd.call68 rfl rfl (fun w' s => ⟨_, strings_trimRightASCII_con p_s (setOf p_cutset) b1 w' H1 s.hold hset (setOf_length _) hG r1 e1⟩)) ?_
    refine WL.quiet (Runs.free rfl) rfl rfl (oq_con (r := mkS r) Tryd.call67 rfl rfl (fun w' s => ⟨_, strings_trimLeftASCII_con r1 (setOf p_cutset) b1 w' H1 s.hold hset (setOf_length _) hG r hm⟩)) ?_
    refine WL.quiet (Runs.free rfl) rfl rfl (OV.quiet (ov_assign rfl rfl)) ?_
    refine WL.nil ?_
    refine then_normal ?_
    refine WP.ret ?_
    repeat refine then_ret ?_
    refine retQ_ret Tryd.results60 (Res.tmp rfl Res.nil) rfl (fun w' s => ⟨s.below, ?_⟩)
    exact rfl
end Go.Proofs.YtllhdlnnlckceaaDoor.W
