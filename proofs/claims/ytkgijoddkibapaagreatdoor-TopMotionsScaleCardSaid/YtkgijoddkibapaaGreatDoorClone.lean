import Derived.Test.YtkgijoddkibapaaGreatDoorExt
import Derived.Test.YtkgijoddkibapaaGreatDoorLibR
set_option linter.unusedVariables false
set_option maxRecDepth 100000
namespace Go.Proofs.YtkgijoddkibapaaGreatDoor.W
open Go Go.RowKit
section
variable {n : Nat} {o : Oper} {g : Frm} {w0 : World} {ms : List Ent} {H0 H : Heap}
theorem os_cloneS {x : Operand} {l l2 : List Stroke} {ao : Option Addr} {cap : Nat} {ats : Array TypeId} {K : Value → Pred → Prop} (h : o.op = .call { callee := .value (.func 104), args := [x].toArray, argTypes := ats }) (hx : ev g x = some (.slice ao l.length cap)) (hS : SL H encStroke ao l) (hc : l.length ≤ cap) (hm : appO 16 ([] : List Stroke) l = some l2)
    (k : ∀ ao' cap' xs, RL H encStroke l xs → K (.slice ao' l.length cap') (St w0 H0 (.row 59 encStroke.size l.length (.slice ao' l.length cap') xs :: ms) H)) : OS Tryz.prog n o g (St w0 H0 ms H) K := by
  refine os_inline (cap := []) (vs := [.slice ao l.length cap]) Tryz.call104 h rfl (by simp only [evs, hx]) Tryz.func104 rfl 8 Tryz.ntmps104 rfl (fun w' s => ?_)
  refine WP.seq ?_
  refine WP.region ?_
  refine WL.quiet (Runs.free rfl) rfl rfl (OV.quiet (ov_assign rfl rfl)) ?_
  refine WL.nil ?_
  refine then_normal ?_
  refine WP.seq ?_
  refine WP.seq ?_
  refine WP.region ?_
  refine WL.quiet (Runs.free rfl) rfl rfl (OV.quiet (ov_move rfl rfl)) ?_
  refine WL.quiet (Runs.free rfl) rfl rfl (OV.quiet (ov_eql_nilS Tryz.underlying53 rfl rfl rfl)) ?_
  refine WL.nil ?_
  refine then_normal ?_
  cases ao with
  | none =>
    have hl : l = [] := by
      cases l with
      | nil => rfl
      | cons y r =>
        obtain ⟨cs, h3, h4⟩ := hS 0 y rfl
        obtain ⟨a', e⟩ := h4.addr (by intro e; have := encStroke.len h3; rw [e] at this; cases this)
        cases e
    subst hl
    refine WP.cond_true rfl ?_
    refine WP.weaken (fun _ s => s.nilrow 59 encStroke.size) ?_
    refine WP.seq ?_
    refine WP.region ?_
    refine WL.quiet (Runs.free rfl) rfl rfl (OV.quiet (ov_assign rfl rfl)) ?_
    refine WL.nil ?_
    refine then_normal ?_
    refine WP.ret ?_
    refine then_ret ?_
    refine retQ_ret (v := .slice none 0 0) Tryz.results104 (Res.tmp rfl Res.nil) rfl (fun w' s => ⟨_, ?_, s⟩)
    exact k none 0 [] (RL.nil _ _)
  | some a =>
    refine WP.cond_false rfl ?_
    refine WP.skip ?_
    refine then_normal ?_
    refine WP.seq ?_
    refine WP.region ?_
    refine WL.step (Runs.free rfl) rfl rfl (os_buildSlice (cs := []) (E := 59) (sz := 2) rfl rfl (fun _ => by kernel_rfl) rfl (by decide) (fun b => ?_))
    refine WL.quiet (Runs.free rfl) rfl rfl (OV.quiet (ov_move rfl rfl)) ?_
    refine WL.step (Runs.free rfl) rfl rfl (os_app_sl (i := 0) (En := encStroke) (l := []) (xs := []) Tryz.underlying53 (by kernel_rfl : (Tryz.prog.info? 59).map (fun i => (i.zero, i.size, i.bytes)) = some (some (.agg #[(.int .i64 0), (.bool false)]), encStroke.size, 16)) rfl (by decide) one_encStroke rfl rfl rfl rfl hS hc (RL.nil _ _) hm (fun ao' cap' ys hR => ?_))
    refine WL.quiet (Runs.free rfl) rfl rfl (OV.quiet (ov_assign rfl rfl)) ?_
    refine WL.nil ?_
    refine then_normal ?_
    refine WP.ret ?_
    refine retQ_ret (v := .slice ao' l.length cap') Tryz.results104 (Res.tmp rfl Res.nil) rfl (fun w' s => ⟨_, ?_, s⟩)
    exact k ao' cap' ys hR
end
end Go.Proofs.YtkgijoddkibapaaGreatDoor.W
