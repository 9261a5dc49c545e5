/- The program's variables as they stand at first. -/
import Derived.Test.YtbckcjjffbgidaaGreatDoorExt
import Derived.Test.YtbckcjjffbgidaaGreatDoorLibN
set_option linter.unusedVariables false
namespace Go.Proofs.YtbckcjjffbgidaaGreatDoor.W
open Go Go.RowKit
theorem sl_of_tab {W : World} {name : String} {g : Nat} {zs : List Int} (hg : Tryz.prog.globalNamed name = some g) (t : Lib.TabIs Tryz.prog W name .u8 zs) : SL (hp W) (encInt .u8) (some ⟨g, 0, none⟩) zs := fun i x hx => by
  refine ⟨[.int .u8 x], rfl, fun j v hv => ⟨_, rfl, ?_⟩⟩
  cases j with
  | succ j => simp at hv
  | zero =>
    simp at hv
    subst hv
    unfold Lib.TabIs World.var? at t
    rw [hg] at t
    simp only [Option.bind_some] at t
    show W.cell? _ = some _
    rw [Addr.add_lit]
    unfold World.cell?
    cases hb : W.heap[g]? with
    | none => rw [hb] at t; cases t
    | some o =>
      rw [hb] at t
      cases o <;> simp at t
      subst t
      simp [encInt, Enc.flat, hx]
theorem glob_start {W : World} (h : W.ShapedOpen Tryz.prog) (t1 : Lib.TabIs Tryz.prog W "pneumatic/diagram.rest" .u8 diag_rest) (t2 : Lib.TabIs Tryz.prog W "pneumatic/diagram.going" .u8 diag_going) (t : Lib.TabIs Tryz.prog W "internal/strconv.uint64pow10" .u64 Lib.pow10Tab) (sv : ∃ tp p, W.var? Tryz.prog "strconv.ErrSyntax" = some #[.iface tp p]) : Glob (hp W) := by
  obtain ⟨tp, p, hv⟩ := sv
  exact ⟨⟨⟨sl_of_tab (by kernel_rfl) t1, sl_of_tab (by kernel_rfl) t2⟩, .iface tp p, (show W.cell? ⟨5, 0, none⟩ = some (.iface tp p) by simpa using World.var?_cell (g := 5) (by kernel_rfl) hv 0), .inr ⟨tp, p, rfl⟩⟩, W, Le.refl _, t, Tryz.laysM143.s1_3 W h⟩
end Go.Proofs.YtbckcjjffbgidaaGreatDoor.W
