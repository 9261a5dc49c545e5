import Derived.Test.YtkgijoddkibapaaGreatDoorExt
import Derived.Test.YtkgijoddkibapaaGreatDoorLibN
set_option linter.unusedVariables false
namespace Go.Proofs.YtkgijoddkibapaaGreatDoor.W
open Go Go.RowKit
theorem sl_of_tab {W : World} {name : String} {g : Nat} {zs : List Int} (hg : Tryz.prog.globalNamed name = some g) (t : Lib.TabIs Tryz.prog W name .u8 zs) : SL (hp W) (encInt .u8) (some ⟨g, 0, none⟩) zs := fun i x hx => by
  refine ⟨[.int .u8 x], rfl, fun j v hv => ⟨_, rfl, ?_⟩⟩
  cases j with
  | succ j => simp at hv
  | zero =>
    simp at hv
    subst hv
    unfold Lib.TabIs World.var? at t
    rw [hg] at t
    simp only [Option.bind_some] at t
    show W.cell? _ = some _
    rw [Addr.add_lit]
    unfold World.cell?
    cases hb : W.heap[g]? with
    | none => rw [hb] at t; cases t
    | some o =>
      rw [hb] at t
      cases o <;> simp at t
      subst t
      simp [encInt, Enc.flat, hx]
theorem glob_start {W : World} (h : W.ShapedOpen Tryz.prog) (t1 : Lib.TabIs Tryz.prog W "pneumatic/diagram.rest" .u8 diag_rest) (t2 : Lib.TabIs Tryz.prog W "pneumatic/diagram.going" .u8 diag_going) (t : Lib.TabIs Tryz.prog W "internal/strconv.uint64pow10" .u64 Lib.pow10Tab) (u : Tab2 W 2 3 .u8 [[65, 90, 1], [97, 122, 1], [48, 57, 2], [95, 95, 3], [32, 32, 5], [10, 10, 5]]) : Glob (hp W) := by
  refine ⟨⟨⟨sl_of_tab (by kernel_rfl) t1, sl_of_tab (by kernel_rfl) t2⟩, fun i x hx => ?_⟩, W, Le.refl _, t, Tryz.laysM143.s1_3 W h⟩
  refine ⟨[.int .u8 x.a0, .int .u8 x.a1, .int .u8 x.a2], rfl, fun j v hv => ⟨_, rfl, ?_⟩⟩
  have hr : ([[65, 90, 1], [97, 122, 1], [48, 57, 2], [95, 95, 3], [32, 32, 5], [10, 10, 5]] : List (List Int))[i]? = some [x.a0, x.a1, x.a2] := by
    have e : ([[65, 90, 1], [97, 122, 1], [48, 57, 2], [95, 95, 3], [32, 32, 5], [10, 10, 5]] : List (List Int)) = lexer_ranges.map fun x => [x.a0, x.a1, x.a2] := rfl
    rw [e, List.getElem?_map, hx]
    rfl
  have hu := u i _ hr
  show W.cell? _ = some v
  rw [Addr.add_lit, Nat.zero_add]
  match j, hv with
  | 0, hv => exact (hu 0 _ rfl).trans hv
  | 1, hv => exact (hu 1 _ rfl).trans hv
  | 2, hv => exact (hu 2 _ rfl).trans hv
  | j + 3, hv => simp at hv
end Go.Proofs.YtkgijoddkibapaaGreatDoor.W
