/- slices.Clone at Bool: a new row of the call's own. -/
import Derived.Test.YtbckcjjffbgidaaGreatDoorExt
import Derived.Test.YtbckcjjffbgidaaGreatDoorLibP
set_option linter.unusedVariables false
set_option maxRecDepth 100000
namespace Go.Proofs.YtbckcjjffbgidaaGreatDoor.W
open Go Go.RowKit
section
variable {n : Nat} {o : Oper} {g : Frm} {w0 : World} {ms : List Ent} {H0 H : Heap}
theorem os_cloneB {x : Operand} {l l2 : List Bool} {ao : Option Addr} {cap : Nat} {ats : Array TypeId} {K : Value → Pred → Prop} (h : o.op = .call { callee := .value (.func 60), args := [x].toArray, argTypes := ats }) (hx : ev g x = some (.slice ao l.length cap)) (hS : SL H encBool ao l) (hc : l.length ≤ cap) (hm : appO 1 ([] : List Bool) l = some l2)
    (k : ∀ ao' cap' xs, RL H encBool l xs → K (.slice ao' l.length cap') (St w0 H0 (.row 4 encBool.size l.length (.slice ao' l.length cap') xs :: ms) H)) : OS Tryz.prog n o g (St w0 H0 ms H) K := by
  refine os_inline (cap := []) (vs := [.slice ao l.length cap]) Tryz.call60 h rfl (by simp only [evs, hx]) Tryz.func60 rfl 8 Tryz.ntmps60 rfl (fun w' s => ?_)
  refine WP.seq ?_
  refine WP.region ?_
  refine WL.quiet (Runs.free rfl) rfl rfl (OV.quiet (ov_assign rfl rfl)) ?_
  refine WL.nil ?_
  refine then_normal ?_
  refine WP.seq ?_
  refine WP.seq ?_
  refine WP.region ?_
  refine WL.quiet (Runs.free rfl) rfl rfl (OV.quiet (ov_move rfl rfl)) ?_
  refine WL.quiet (Runs.free rfl) rfl rfl (OV.quiet (ov_eql_nilS Tryz.underlying49 rfl rfl rfl)) ?_
  refine WL.nil ?_
  refine then_normal ?_
  cases ao with
  | none =>
    have hl : l = [] := by
      cases l with
      | nil => rfl
      | cons y r =>
        obtain ⟨cs, h3, h4⟩ := hS 0 y rfl
        obtain ⟨a', e⟩ := h4.addr (by intro e; have := encBool.len h3; rw [e] at this; cases this)
        cases e
    subst hl
    refine WP.cond_true rfl ?_
    refine WP.weaken (fun _ s => s.nilrow 4 encBool.size) ?_
    refine WP.seq ?_
    refine WP.region ?_
    refine WL.quiet (Runs.free rfl) rfl rfl (OV.quiet (ov_assign rfl rfl)) ?_
    refine WL.nil ?_
    refine then_normal ?_
    refine WP.ret ?_
    refine then_ret ?_
    refine retQ_ret (v := .slice none 0 0) Tryz.results60 (Res.tmp rfl Res.nil) rfl (fun w' s => ⟨_, ?_, s⟩)
    exact k none 0 [] (RL.nil _ _)
  | some a =>
    refine WP.cond_false rfl ?_
    refine WP.skip ?_
    refine then_normal ?_
    refine WP.seq ?_
    refine WP.region ?_
    refine WL.step (Runs.free rfl) rfl rfl (os_buildSlice (cs := []) (E := 4) (sz := 1) rfl rfl (fun _ => by kernel_rfl) rfl (by decide) (fun b => ?_))
    refine WL.quiet (Runs.free rfl) rfl rfl (OV.quiet (ov_move rfl rfl)) ?_
    refine WL.step (Runs.free rfl) rfl rfl (os_app_sl (i := 0) (En := encBool) (l := []) (xs := []) Tryz.underlying49 (by kernel_rfl : (Tryz.prog.info? 4).map (fun i => (i.zero, i.size, i.bytes)) = some (some (.bool false), encBool.size, 1)) rfl (by decide) one_encBool rfl rfl rfl rfl hS hc (RL.nil _ _) hm (fun ao' cap' ys hR => ?_))
    refine WL.quiet (Runs.free rfl) rfl rfl (OV.quiet (ov_assign rfl rfl)) ?_
    refine WL.nil ?_
    refine then_normal ?_
    refine WP.ret ?_
    refine retQ_ret (v := .slice ao' l.length cap') Tryz.results60 (Res.tmp rfl Res.nil) rfl (fun w' s => ⟨_, ?_, s⟩)
    exact k ao' cap' ys hR
end
end Go.Proofs.YtbckcjjffbgidaaGreatDoor.W
