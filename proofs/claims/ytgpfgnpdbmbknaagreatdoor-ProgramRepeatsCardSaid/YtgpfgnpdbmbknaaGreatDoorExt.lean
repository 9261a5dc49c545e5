import Derived.Test.YtgpfgnpdbmbknaaGreatDoorTypes
import Derived.Test.YtgpfgnpdbmbknaaGreatDoorShelf
set_option linter.unusedVariables false
namespace Go.Proofs.YtgpfgnpdbmbknaaGreatDoor.W
open Go Go.RowKit
def lexer_ranges : List B3 := [⟨65, 90, 1⟩, ⟨97, 122, 1⟩, ⟨48, 57, 2⟩, ⟨95, 95, 3⟩, ⟨32, 32, 5⟩, ⟨10, 10, 5⟩]
def Glob (H : Heap) : Prop := SL H encB3 (some ⟨0, 0, none⟩) lexer_ranges ∧ ∃ W : World, Le (hp W) H ∧ Lib.TabIs Tryz.prog W "internal/strconv.uint64pow10" .u64 Lib.pow10Tab ∧ ∃ m, W.cell? ⟨1, 0, none⟩ = some (.int .i64 m)
theorem Glob.mono {H H' : Heap} (h : Glob H) (k : Le H H') : Glob H' := by
  obtain ⟨h0, W, h1, h2⟩ := h
  exact ⟨h0.mono k, W, h1.trans k, h2⟩
theorem tab_le {W w : World} {name : String} {k : IntKind} {zs : List Int} (h : Le (hp W) (hp w)) (t : Lib.TabIs Tryz.prog W name k zs) : Lib.TabIs Tryz.prog w name k zs := by
  unfold Lib.TabIs World.var? at *
  cases hg : Tryz.prog.globalNamed name with
  | none => rw [hg] at t; cases t
  | some b =>
    simp only [hg, Option.bind_some] at t ⊢
    cases hb : W.heap[b]? with
    | none => rw [hb] at t; cases t
    | some o =>
      have : w.heap[b]? = some o := h b o hb
      rw [hb] at t
      rw [this]
      exact t
theorem cell_le {W w : World} {a : Addr} {v : Value} (h : Le (hp W) (hp w)) (t : W.cell? a = some v) : w.cell? a = some v := cellH_mono (H := hp W) (H' := hp w) h t
theorem below_grow {w : World} (k : Nat) (os : Array Obj) : Below w.heap.size w (Go.Sort.grow (w.drewN k) os) :=
  ⟨rfl, rfl, rfl, by simp [Go.Sort.grow], fun j hj => by simp [Go.Sort.grow, Array.getElem?_append_left hj]⟩
theorem below_drewN (w : World) (k : Nat) : Below w.heap.size w (w.drewN k) := ⟨rfl, rfl, rfl, Nat.le_refl _, fun _ _ => rfl⟩
theorem sl_new_str {w w' : World} {H : Heap} {T : TypeId} {cs : Array Value} {k : Nat × Nat} {l : List (List UInt8)} (hw : w' = w.alloc (.cells cs T k)) (hc : cs = (l.map mkS).toArray) : SL (newer w w' H) encStr (some ⟨w.heap.size, 0, none⟩) l := fun i x hx => by
  refine ⟨_, rfl, fun j u hu => ?_⟩
  cases j with
  | succ j => simp at hu
  | zero =>
    simp at hu
    subst hu
    refine ⟨_, rfl, ?_⟩
    rw [addr_add]
    unfold cellH newer
    simp only [show ¬ w.heap.size < w.heap.size from Nat.lt_irrefl _, if_false]
    have hnew : w'.heap[w.heap.size]? = some (.cells cs T k) := by
      subst hw
      show (w.heap.push _)[w.heap.size]? = _
      simp
    rw [hnew, hc]
    simp [encStr, Enc.flat, hx]
def idxB (s : List UInt8) (c : Int) : Option Int := some (Lib.indexByte s c.toNat.toUInt8)
theorem idxB_con (s : List UInt8) (c : Int) (w : World) (H : Heap) (hH : Le H (hp w)) (hG : Glob H) (r : Int) (hm : idxB s c = some r) : Con Tryz.prog 148 [mkS s, .int .u8 c] w H (fun v _ => v = .int .i64 r) := by
  cases hm
  refine Calls.mono (Tryz.strings_IndexByte ⟨s.toArray⟩ c w) fun e w' hw => ?_
  obtain ⟨he, hw⟩ := hw
  subst hw
  exact ⟨_, he, Below.refl _ _, rfl⟩
def indexS (s sep : List UInt8) : Option Int := if s.length < 4294967281 then some (Lib.index s sep) else none
theorem indexS_con (s sep : List UInt8) (w : World) (H : Heap) (hH : Le H (hp w)) (hG : Glob H) (r : Int) (hm : indexS s sep = some r) : Con Tryz.prog 124 [mkS s, mkS sep] w H (fun v _ => v = .int .i64 r) := by
  unfold indexS at hm
  split at hm
  · rename_i h
    cases hm
    obtain ⟨_, W, h1, _, m, h2⟩ := hG
    refine Calls.mono (Tryz.strings_Index ⟨s.toArray⟩ ⟨sep.toArray⟩ m w (by simpa [ByteArray.size] using h) (cell_le (h1.trans hH) h2)) fun e w' hw => ?_
    obtain ⟨he, hw⟩ := hw
    subst hw
    exact ⟨_, he, Below.refl _ _, rfl⟩
  · cases hm
def joinS (l : List (List UInt8)) (sep : List UInt8) : Option (List UInt8) := if l.length ≤ 140737488355328 ∧ (Lib.join l sep).length ≤ 140737488355328 then some (Lib.join l sep) else none
theorem addr_at {H : Heap} {a : Addr} {v : Value} (h : cellH H (a.add 0) = some v) : ∃ b o, a = ⟨b, o, none⟩ := by
  obtain ⟨b, o, sp⟩ := a
  cases sp with
  | none => exact ⟨b, o, rfl⟩
  | some p =>
    exfalso
    unfold cellH Addr.add at h
    simp only [if_true] at h
    split at h
    · simp at h
    · cases h
theorem joinS_con (l : List (List UInt8)) (sep : List UInt8) (ao : Option Addr) (cap : Nat) (w : World) (H : Heap) (hH : Le H (hp w)) (h : SL H encStr ao l) (hc : l.length ≤ cap) (hG : Glob H) (r : List UInt8) (hm : joinS l sep = some r) : Con Tryz.prog 105 [.slice ao l.length cap, mkS sep] w H (fun v _ => v = mkS r) := by
  unfold joinS at hm
  split at hm
  · rename_i hl
    cases hm
    cases l with
    | nil =>
      refine Calls.mono (Tryz.strings_Join_none ao cap ⟨sep.toArray⟩ w) fun e w' hw => ?_
      obtain ⟨he, hw⟩ := hw
      subst hw
      exact ⟨_, he, Below.refl _ _, rfl⟩
    | cons x t =>
      have hx : ∀ (j : Nat) y, (x :: t)[j]? = some y → ∃ a, ao = some a ∧ cellH H (a.add j) = some (mkS y) := fun j y hj => by
        obtain ⟨cs, h1, h2⟩ := h j y hj
        cases h1
        obtain ⟨a, e1, e2⟩ := h2 0 _ rfl
        exact ⟨a, e1, by simpa [encStr, Enc.flat] using e2⟩
      obtain ⟨a, e1, e2⟩ := hx 0 x rfl
      obtain ⟨b, o, rfl⟩ := addr_at e2
      subst e1
      have hcell : ∀ (j : Nat) y, (x :: t)[j]? = some y → w.cell? ⟨b, o + j, none⟩ = some (mkS y) := fun j y hj => by
        obtain ⟨a, e3, e4⟩ := hx j y hj
        cases e3
        rw [addr_add] at e4
        exact cellH_world hH e4
      have hb : b < w.heap.size := by
        have h0 := hcell 0 x rfl
        unfold World.cell? at h0
        dsimp only at h0
        split at h0
        · rename_i q
          exact (Array.getElem?_eq_some_iff.1 q).1
        · cases h0
      have hjl : ((((x :: t).map fun s => (⟨s.toArray⟩ : ByteArray)).map (·.data.toList))) = x :: t := by
        rw [List.map_map]
        exact List.map_id _
      have hlen : ((x :: t).map fun s => (⟨s.toArray⟩ : ByteArray)).length = (x :: t).length := List.length_map ..
      have k := Tryz.strings_Join b o cap ((x :: t).map fun s => (⟨s.toArray⟩ : ByteArray)) ⟨sep.toArray⟩ w
        (fun j y hj => by
          rw [List.getElem?_map] at hj
          cases hq : (x :: t)[j]? with
          | none => rw [hq] at hj; cases hj
          | some y' =>
            rw [hq] at hj
            cases hj
            exact hcell j y' hq)
        hb (by rw [hlen]; exact hl.1) (by rw [hlen]; exact hc) (by rw [hjl]; exact hl.2)
      rw [hjl, hlen] at k
      refine Calls.mono k fun e w' hw => ?_
      obtain ⟨he, hw⟩ := hw
      exact ⟨_, he, hw, rfl⟩
  · cases hm
def itoa (n : Int) : Option (List UInt8) := if -9223372036854775808 ≤ n ∧ n ≤ 9223372036854775807 then some (Lib.itoa n) else none
theorem itoa_con (n : Int) (w : World) (H : Heap) (hH : Le H (hp w)) (hG : Glob H) (r : List UInt8) (hm : itoa n = some r) : Con Tryz.prog 106 [.int .i64 n] w H (fun v _ => v = mkS r) := by
  unfold itoa at hm
  split at hm
  · rename_i h
    cases hm
    obtain ⟨_, W, h1, h2, _⟩ := hG
    refine Calls.mono (Tryz.strconv_Itoa n h.1 h.2 w (tab_le (h1.trans hH) h2)) fun e w' hw => ?_
    obtain ⟨he, k, os, hw⟩ := hw
    subst hw
    exact ⟨_, he, below_grow k os, rfl⟩
  · cases hm
def repSt (l : List Step) (k : Int) : Option (List Step) := if 1 ≤ k ∧ k ≤ 1000 ∧ 1 ≤ l.length ∧ l.length ≤ 1000 then some (List.replicate k.toNat l).flatten else none
end Go.Proofs.YtgpfgnpdbmbknaaGreatDoor.W
