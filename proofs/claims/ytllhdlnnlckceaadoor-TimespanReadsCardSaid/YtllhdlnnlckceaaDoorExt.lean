/- What the walks take of the library's contracts and of the program's variables. -/
import Derived.Test.YtllhdlnnlckceaaDoorLibF
import Derived.Test.YtllhdlnnlckceaaDoorShelf
set_option linter.unusedVariables false
namespace Go.Proofs.YtllhdlnnlckceaaDoor.W
open Go Go.RowKit
/-- the program's variables that the walks read -/
def Glob (H : Heap) : Prop := ∃ W : World, Le (hp W) H ∧ Lib.TabIs Tryd.prog W "internal/strconv.uint64pow10" .u64 Lib.pow10Tab ∧ ∃ m, W.cell? ⟨0, 0, none⟩ = some (.int .i64 m)
theorem Glob.mono {H H' : Heap} (h : Glob H) (k : Le H H') : Glob H' := by
  obtain ⟨W, h1, h2⟩ := h
  exact ⟨W, h1.trans k, h2⟩
theorem glob_start {W : World} (h : W.ShapedOpen Tryd.prog) (t : Lib.TabIs Tryd.prog W "internal/strconv.uint64pow10" .u64 Lib.pow10Tab) : Glob (hp W) :=
  ⟨W, Le.refl _, t, Tryd.laysM145.s1_3 W h⟩
theorem tab_le {W w : World} {name : String} {k : IntKind} {zs : List Int} (h : Le (hp W) (hp w)) (t : Lib.TabIs Tryd.prog W name k zs) : Lib.TabIs Tryd.prog w name k zs := by
  unfold Lib.TabIs World.var? at *
  cases hg : Tryd.prog.globalNamed name with
  | none => rw [hg] at t; cases t
  | some b =>
    simp only [hg, Option.bind_some] at t ⊢
    cases hb : W.heap[b]? with
    | none => rw [hb] at t; cases t
    | some o =>
      have : w.heap[b]? = some o := h b o hb
      rw [hb] at t
      rw [this]
      exact t
theorem cell_le {W w : World} {a : Addr} {v : Value} (h : Le (hp W) (hp w)) (t : W.cell? a = some v) : w.cell? a = some v := cellH_mono (H := hp W) (H' := hp w) h t
theorem below_grow {w : World} (k : Nat) (os : Array Obj) : Below w.heap.size w (Go.Sort.grow (w.drewN k) os) :=
  ⟨rfl, rfl, rfl, by simp [Go.Sort.grow], fun j hj => by simp [Go.Sort.grow, Array.getElem?_append_left hj]⟩
theorem below_drewN (w : World) (k : Nat) : Below w.heap.size w (w.drewN k) := ⟨rfl, rfl, rfl, Nat.le_refl _, fun _ _ => rfl⟩
/-- strconv.Itoa -/
def itoa (n : Int) : Option (List UInt8) := if -9223372036854775808 ≤ n ∧ n ≤ 9223372036854775807 then some (Lib.itoa n) else none
theorem itoa_con (n : Int) (w : World) (H : Heap) (hH : Le H (hp w)) (hG : Glob H) (r : List UInt8) (hm : itoa n = some r) : Con Tryd.prog 41 [.int .i64 n] w H (fun v _ => v = mkS r) := by
  unfold itoa at hm
  split at hm
  · rename_i h
    cases hm
    obtain ⟨W, h1, h2, _⟩ := hG
    refine Calls.mono (Tryd.strconv_Itoa n h.1 h.2 w (tab_le (h1.trans hH) h2)) fun e w' hw => ?_
    obtain ⟨he, k, os, hw⟩ := hw
    subst hw
    exact ⟨_, he, below_grow k os, rfl⟩
  · cases hm
/-- strings.Cut -/
def cutS (s sep : List UInt8) : Option (List UInt8 × List UInt8 × Bool) := if s.length < 4294967281 then some (Lib.cut s sep) else none
theorem cutS_con (s sep : List UInt8) (w : World) (H : Heap) (hH : Le H (hp w)) (hG : Glob H) (r : List UInt8 × List UInt8 × Bool) (hm : cutS s sep = some r) : Con Tryd.prog 43 [mkS s, mkS sep] w H (fun v _ => v = .tuple #[mkS r.1, mkS r.2.1, .bool r.2.2]) := by
  unfold cutS at hm
  split at hm
  · rename_i h
    cases hm
    obtain ⟨W, h1, _, m, h2⟩ := hG
    refine Calls.mono (Tryd.strings_Cut ⟨s.toArray⟩ ⟨sep.toArray⟩ m w (by simpa [ByteArray.size] using h) (cell_le (h1.trans hH) h2)) fun e w' hw => ?_
    obtain ⟨he, k, hw⟩ := hw
    subst hw
    exact ⟨_, he, below_drewN w k, by simp [mkS]⟩
  · cases hm
/-- strings.makeASCIISet -/
def setOf (c : List UInt8) : List Bool := (List.range 256).map fun j => c.contains (UInt8.ofNat j)
theorem setOf_length (c : List UInt8) : (setOf c).length = 256 := by simp [setOf]
theorem setCells_list (c : List UInt8) : Lib.setCells c = ((setOf c).map Value.bool).toArray := by
  apply Array.ext_getElem?
  intro j
  rcases Nat.lt_or_ge j 256 with h | h
  · have := Lib.setCells_at c (UInt8.ofNat j)
    have e : (UInt8.ofNat j).toNat = j := by simp; omega
    rw [e] at this
    rw [this]
    simp [setOf, List.getElem?_range h]
  · rw [Array.getElem?_eq_none (by rw [Lib.setCells_size]; exact h), Array.getElem?_eq_none (by simp [setOf_length]; exact h)]
theorem zero88 (w : World) : (zeroValue 88).run Tryd.prog w = .ok (.agg (Array.replicate 256 (.bool false))) w := by
  rw [Tryd.zeroValue88]
  have : Tryd.zeroCells88 = Array.replicate 256 (.bool false) := by kernel_rfl
  rw [this]
theorem mkset_con (c : List UInt8) (w : World) (H : Heap) (hc : c.length < 4294967281) (ha : ∀ b ∈ c, b.toNat < 128) : Con Tryd.prog 66 [mkS c] w H (fun v _ => v = .tuple #[.agg ((setOf c).map Value.bool).toArray, .bool true]) := by
  refine Calls.mono (Tryd.strings_makeASCIISet zero88 ⟨c.toArray⟩ w (by simpa [ByteArray.size] using hc) (fun j b hb => ha b (List.mem_of_getElem? hb))) fun e w' hw => ?_
  obtain ⟨he, hw⟩ := hw
  subst hw
  refine ⟨_, he, (Below.refl _ _).alloc (Nat.le_refl _) _, ?_⟩
  rw [← setCells_list]
end Go.Proofs.YtllhdlnnlckceaaDoor.W
