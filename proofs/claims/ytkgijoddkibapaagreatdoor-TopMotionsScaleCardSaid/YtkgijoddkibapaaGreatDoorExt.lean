import Derived.Test.YtkgijoddkibapaaGreatDoorTypes
import Derived.Test.YtkgijoddkibapaaGreatDoorShelf
set_option linter.unusedVariables false
namespace Go.Proofs.YtkgijoddkibapaaGreatDoor.W
open Go Go.RowKit
def lexer_ranges : List B3 := [⟨65, 90, 1⟩, ⟨97, 122, 1⟩, ⟨48, 57, 2⟩, ⟨95, 95, 3⟩, ⟨32, 32, 5⟩, ⟨10, 10, 5⟩]
def diag_rest : List Int := [95, 45]
def diag_going : List Int := [92, 47]
def Glob (H : Heap) : Prop := ((SL H (encInt .u8) (some ⟨1, 0, none⟩) diag_rest ∧ SL H (encInt .u8) (some ⟨0, 0, none⟩) diag_going) ∧ SL H encB3 (some ⟨2, 0, none⟩) lexer_ranges) ∧ ∃ W : World, Le (hp W) H ∧ Lib.TabIs Tryz.prog W "internal/strconv.uint64pow10" .u64 Lib.pow10Tab ∧ ∃ m, W.cell? ⟨3, 0, none⟩ = some (.int .i64 m)
theorem Glob.mono {H H' : Heap} (h : Glob H) (k : Le H H') : Glob H' := by
  obtain ⟨⟨hs, h0⟩, W, h1, h2⟩ := h
  exact ⟨⟨⟨hs.1.mono k, hs.2.mono k⟩, h0.mono k⟩, W, h1.trans k, h2⟩
theorem tab_le {W w : World} {name : String} {k : IntKind} {zs : List Int} (h : Le (hp W) (hp w)) (t : Lib.TabIs Tryz.prog W name k zs) : Lib.TabIs Tryz.prog w name k zs := by
  unfold Lib.TabIs World.var? at *
  cases hg : Tryz.prog.globalNamed name with
  | none => rw [hg] at t; cases t
  | some b =>
    simp only [hg, Option.bind_some] at t ⊢
    cases hb : W.heap[b]? with
    | none => rw [hb] at t; cases t
    | some o =>
      have : w.heap[b]? = some o := h b o hb
      rw [hb] at t
      rw [this]
      exact t
theorem cell_le {W w : World} {a : Addr} {v : Value} (h : Le (hp W) (hp w)) (t : W.cell? a = some v) : w.cell? a = some v := cellH_mono (H := hp W) (H' := hp w) h t
theorem below_grow {w : World} (k : Nat) (os : Array Obj) : Below w.heap.size w (Go.Sort.grow (w.drewN k) os) :=
  ⟨rfl, rfl, rfl, by simp [Go.Sort.grow], fun j hj => by simp [Go.Sort.grow, Array.getElem?_append_left hj]⟩
theorem below_drewN (w : World) (k : Nat) : Below w.heap.size w (w.drewN k) := ⟨rfl, rfl, rfl, Nat.le_refl _, fun _ _ => rfl⟩
theorem sl_new_str {w w' : World} {H : Heap} {T : TypeId} {cs : Array Value} {k : Nat × Nat} {l : List (List UInt8)} (hw : w' = w.alloc (.cells cs T k)) (hc : cs = (l.map mkS).toArray) : SL (newer w w' H) encStr (some ⟨w.heap.size, 0, none⟩) l := fun i x hx => by
  refine ⟨_, rfl, fun j u hu => ?_⟩
  cases j with
  | succ j => simp at hu
  | zero =>
    simp at hu
    subst hu
    refine ⟨_, rfl, ?_⟩
    rw [addr_add]
    unfold cellH newer
    simp only [show ¬ w.heap.size < w.heap.size from Nat.lt_irrefl _, if_false]
    have hnew : w'.heap[w.heap.size]? = some (.cells cs T k) := by
      subst hw
      show (w.heap.push _)[w.heap.size]? = _
      simp
    rw [hnew, hc]
    simp [encStr, Enc.flat, hx]
def idxB (s : List UInt8) (c : Int) : Option Int := some (Lib.indexByte s c.toNat.toUInt8)
theorem idxB_con (s : List UInt8) (c : Int) (w : World) (H : Heap) (hH : Le H (hp w)) (hG : Glob H) (r : Int) (hm : idxB s c = some r) : Con Tryz.prog 119 [mkS s, .int .u8 c] w H (fun v _ => v = .int .i64 r) := by
  cases hm
  refine Calls.mono (Tryz.strings_IndexByte ⟨s.toArray⟩ c w) fun e w' hw => ?_
  obtain ⟨he, hw⟩ := hw
  subst hw
  exact ⟨_, he, Below.refl _ _, rfl⟩
def indexS (s sep : List UInt8) : Option Int := if s.length < 4294967281 then some (Lib.index s sep) else none
theorem indexS_con (s sep : List UInt8) (w : World) (H : Heap) (hH : Le H (hp w)) (hG : Glob H) (r : Int) (hm : indexS s sep = some r) : Con Tryz.prog 99 [mkS s, mkS sep] w H (fun v _ => v = .int .i64 r) := by
  unfold indexS at hm
  split at hm
  · rename_i h
    cases hm
    obtain ⟨_, W, h1, _, m, h2⟩ := hG
    refine Calls.mono (Tryz.strings_Index ⟨s.toArray⟩ ⟨sep.toArray⟩ m w (by simpa [ByteArray.size] using h) (cell_le (h1.trans hH) h2)) fun e w' hw => ?_
    obtain ⟨he, hw⟩ := hw
    subst hw
    exact ⟨_, he, Below.refl _ _, rfl⟩
  · cases hm
def itoa (n : Int) : Option (List UInt8) := if -9223372036854775808 ≤ n ∧ n ≤ 9223372036854775807 then some (Lib.itoa n) else none
theorem itoa_con (n : Int) (w : World) (H : Heap) (hH : Le H (hp w)) (hG : Glob H) (r : List UInt8) (hm : itoa n = some r) : Con Tryz.prog 76 [.int .i64 n] w H (fun v _ => v = mkS r) := by
  unfold itoa at hm
  split at hm
  · rename_i h
    cases hm
    obtain ⟨_, W, h1, h2, _⟩ := hG
    refine Calls.mono (Tryz.strconv_Itoa n h.1 h.2 w (tab_le (h1.trans hH) h2)) fun e w' hw => ?_
    obtain ⟨he, k, os, hw⟩ := hw
    subst hw
    exact ⟨_, he, below_grow k os, rfl⟩
  · cases hm
def repS (s : List UInt8) (c : Int) : Option (List UInt8) := if 0 ≤ c ∧ c ≤ 9223372036854775807 ∧ s.length * c.toNat ≤ 140737488355328 then some (Lib.repeatL s c.toNat) else none
theorem repS_con (s : List UInt8) (c : Int) (w : World) (H : Heap) (hH : Le H (hp w)) (hG : Glob H) (r : List UInt8) (hm : repS s c = some r) : Con Tryz.prog 52 [mkS s, .int .i64 c] w H (fun v _ => v = mkS r) := by
  unfold repS at hm
  split at hm
  · rename_i h
    cases hm
    have hc : c = ((c.toNat : Nat) : Int) := by omega
    have key := Tryz.strings_Repeat ⟨s.toArray⟩ c.toNat w (by omega) (by simpa [ByteArray.size] using h.2.2)
    rw [← hc] at key
    refine Calls.mono key fun e w' hw => ?_
    obtain ⟨he, hw⟩ := hw
    exact ⟨_, he, hw, rfl⟩
  · cases hm
end Go.Proofs.YtkgijoddkibapaaGreatDoor.W
