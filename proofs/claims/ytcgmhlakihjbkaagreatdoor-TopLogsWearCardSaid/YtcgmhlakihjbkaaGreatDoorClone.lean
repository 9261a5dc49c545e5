/- slices.Clone at Item: a new row of the call's own. -/
import Derived.Test.YtcgmhlakihjbkaaGreatDoorExt
import Derived.Test.YtcgmhlakihjbkaaGreatDoorLibI
set_option linter.unusedVariables false
set_option maxRecDepth 100000
namespace Go.Proofs.YtcgmhlakihjbkaaGreatDoor.W
open Go Go.RowKit
section
variable {n : Nat} {o : Oper} {g : Frm} {w0 : World} {ms : List Ent} {H0 H : Heap}
theorem os_clone {x : Operand} {l l2 : List Item} {ao : Option Addr} {cap : Nat} {ats : Array TypeId} {K : Value → Pred → Prop} (h : o.op = .call { callee := .value (.func 42), args := [x].toArray, argTypes := ats }) (hx : ev g x = some (.slice ao l.length cap)) (hS : SL H encItem ao l) (hc : l.length ≤ cap) (hm : appO 64 ([] : List Item) l = some l2)
    (k : ∀ ao' cap' xs, RL H encItem l xs → K (.slice ao' l.length cap') (St w0 H0 (.row 68 encItem.size l.length (.slice ao' l.length cap') xs :: ms) H)) : OS Tryz.prog n o g (St w0 H0 ms H) K := by
  refine os_inline (cap := []) (vs := [.slice ao l.length cap]) Tryz.call42 h rfl (by simp only [evs, hx]) Tryz.func42 rfl 8 Tryz.ntmps42 rfl (fun w' s => ?_)
  refine WP.seq ?_
  refine WP.region ?_
  refine WL.quiet (Runs.free rfl) rfl rfl (OV.quiet (ov_assign rfl rfl)) ?_
  refine WL.nil ?_
  refine then_normal ?_
  refine WP.seq ?_
  refine WP.seq ?_
  refine WP.region ?_
  refine WL.quiet (Runs.free rfl) rfl rfl (OV.quiet (ov_move rfl rfl)) ?_
  refine WL.quiet (Runs.free rfl) rfl rfl (OV.quiet (ov_eql_nilS Tryz.underlying33 rfl rfl rfl)) ?_
  refine WL.nil ?_
  refine then_normal ?_
  cases ao with
  | none =>
    have hl : l = [] := by
      cases l with
      | nil => rfl
      | cons y r =>
        obtain ⟨cs, h3, h4⟩ := hS 0 y rfl
        obtain ⟨a', e⟩ := h4.addr (by intro e; have := encItem.len h3; rw [e] at this; cases this)
        cases e
    subst hl
    refine WP.cond_true rfl ?_
    refine WP.weaken (fun _ s => s.nilrow 68 encItem.size) ?_
    refine WP.seq ?_
    refine WP.region ?_
    refine WL.quiet (Runs.free rfl) rfl rfl (OV.quiet (ov_assign rfl rfl)) ?_
    refine WL.nil ?_
    refine then_normal ?_
    refine WP.ret ?_
    refine then_ret ?_
    refine retQ_ret (v := .slice none 0 0) Tryz.results42 (Res.tmp rfl Res.nil) rfl (fun w' s => ⟨_, ?_, s⟩)
    exact k none 0 [] (RL.nil _ _)
  | some a =>
    refine WP.cond_false rfl ?_
    refine WP.skip ?_
    refine then_normal ?_
    refine WP.seq ?_
    refine WP.region ?_
    refine WL.step (Runs.free rfl) rfl rfl (os_buildSlice (cs := []) (E := 68) (sz := 7) rfl rfl (fun _ => by kernel_rfl) rfl (by decide) (fun b => ?_))
    refine WL.quiet (Runs.free rfl) rfl rfl (OV.quiet (ov_move rfl rfl)) ?_
    refine WL.step (Runs.free rfl) rfl rfl (os_app_sl (i := 0) (En := encItem) (l := []) (xs := []) Tryz.underlying33 (by kernel_rfl : (Tryz.prog.info? 68).map (fun i => (i.zero, i.size, i.bytes)) = some (some (.agg #[(mkS []), (.int .i64 0), (.int .i64 0), (.int .i64 0), (.bool false), (.int .i64 0), (.int .i64 0)]), encItem.size, 64)) rfl (by decide) one_encItem rfl rfl rfl rfl hS hc (RL.nil _ _) hm (fun ao' cap' ys hR => ?_))
    refine WL.quiet (Runs.free rfl) rfl rfl (OV.quiet (ov_assign rfl rfl)) ?_
    refine WL.nil ?_
    refine then_normal ?_
    refine WP.ret ?_
    refine retQ_ret (v := .slice ao' l.length cap') Tryz.results42 (Res.tmp rfl Res.nil) rfl (fun w' s => ⟨_, ?_, s⟩)
    exact k ao' cap' ys hR
end
end Go.Proofs.YtcgmhlakihjbkaaGreatDoor.W
