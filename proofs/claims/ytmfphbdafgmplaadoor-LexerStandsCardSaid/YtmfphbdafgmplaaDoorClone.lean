/- slices.Clone at Token: a new row of the call's own. -/
import Derived.Test.YtmfphbdafgmplaaDoorExt
import Derived.Test.YtmfphbdafgmplaaDoorLibI
set_option linter.unusedVariables false
set_option maxRecDepth 100000
namespace Go.Proofs.YtmfphbdafgmplaaDoor.W
open Go Go.RowKit
section
variable {n : Nat} {o : Oper} {g : Frm} {w0 : World} {ms : List Ent} {H0 H : Heap}
theorem os_clone {x : Operand} {l l2 : List Token} {ao : Option Addr} {cap : Nat} {ats : Array TypeId} {K : Value → Pred → Prop} (h : o.op = .call { callee := .value (.func 80), args := [x].toArray, argTypes := ats }) (hx : ev g x = some (.slice ao l.length cap)) (hS : SL H encToken ao l) (hc : l.length ≤ cap) (hm : appO 32 ([] : List Token) l = some l2)
    (k : ∀ ao' cap' xs, RL H encToken l xs → K (.slice ao' l.length cap') (St w0 H0 (.row 37 encToken.size l.length (.slice ao' l.length cap') xs :: ms) H)) : OS Tryd.prog n o g (St w0 H0 ms H) K := by
  refine os_inline (cap := []) (vs := [.slice ao l.length cap]) Tryd.call80 h rfl (by simp only [evs, hx]) Tryd.func80 rfl 8 Tryd.ntmps80 rfl (fun w' s => ?_)
  refine WP.seq ?_
  refine WP.region ?_
  refine WL.quiet (Runs.free rfl) rfl rfl (OV.quiet (ov_assign rfl rfl)) ?_
  refine WL.nil ?_
  refine then_normal ?_
  refine WP.seq ?_
  refine WP.seq ?_
  refine WP.region ?_
  refine WL.quiet (Runs.free rfl) rfl rfl (OV.quiet (ov_move rfl rfl)) ?_
  refine WL.quiet (Runs.free rfl) rfl rfl (OV.quiet (ov_eql_nilS Tryd.underlying30 rfl rfl rfl)) ?_
  refine WL.nil ?_
  refine then_normal ?_
  cases ao with
  | none =>
    have hl : l = [] := by
      cases l with
      | nil => rfl
      | cons y r =>
        obtain ⟨cs, h3, h4⟩ := hS 0 y rfl
        obtain ⟨a', e⟩ := h4.addr (by intro e; have := encToken.len h3; rw [e] at this; cases this)
        cases e
    subst hl
    refine WP.cond_true rfl ?_
    refine WP.weaken (fun _ s => s.nilrow 37 encToken.size) ?_
    refine WP.seq ?_
    refine WP.region ?_
    refine WL.quiet (Runs.free rfl) rfl rfl (OV.quiet (ov_assign rfl rfl)) ?_
    refine WL.nil ?_
    refine then_normal ?_
    refine WP.ret ?_
    refine then_ret ?_
    refine retQ_ret (v := .slice none 0 0) Tryd.results80 (Res.tmp rfl Res.nil) rfl (fun w' s => ⟨_, ?_, s⟩)
    exact k none 0 [] (RL.nil _ _)
  | some a =>
    refine WP.cond_false rfl ?_
    refine WP.skip ?_
    refine then_normal ?_
    refine WP.seq ?_
    refine WP.region ?_
    refine WL.step (Runs.free rfl) rfl rfl (os_buildSlice (cs := []) (E := 37) (sz := 3) rfl rfl (fun _ => by kernel_rfl) rfl (by decide) (fun b => ?_))
    refine WL.quiet (Runs.free rfl) rfl rfl (OV.quiet (ov_move rfl rfl)) ?_
    refine WL.step (Runs.free rfl) rfl rfl (os_app_sl (i := 0) (En := encToken) (l := []) (xs := []) Tryd.underlying30 (by kernel_rfl : (Tryd.prog.info? 37).map (fun i => (i.zero, i.size, i.bytes)) = some (some (.agg #[(.int .i64 0), (mkS []), (.int .i64 0)]), encToken.size, 32)) rfl (by decide) one_encToken rfl rfl rfl rfl hS hc (RL.nil _ _) hm (fun ao' cap' ys hR => ?_))
    refine WL.quiet (Runs.free rfl) rfl rfl (OV.quiet (ov_assign rfl rfl)) ?_
    refine WL.nil ?_
    refine then_normal ?_
    refine WP.ret ?_
    refine retQ_ret (v := .slice ao' l.length cap') Tryd.results80 (Res.tmp rfl Res.nil) rfl (fun w' s => ⟨_, ?_, s⟩)
    exact k ao' cap' ys hR
end
end Go.Proofs.YtmfphbdafgmplaaDoor.W
