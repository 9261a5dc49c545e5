/- What the walks take of the library's contracts and of the program's variables. -/
import Derived.Test.YtpigfknmlmeihaaDoorTypes
import Derived.Test.YtpigfknmlmeihaaDoorShelf
set_option linter.unusedVariables false
namespace Go.Proofs.YtpigfknmlmeihaaDoor.W
open Go Go.RowKit
def lexer_ranges : List B3 := [⟨65, 90, 1⟩, ⟨97, 122, 1⟩, ⟨48, 57, 2⟩, ⟨95, 95, 3⟩, ⟨32, 32, 5⟩, ⟨10, 10, 5⟩]
/-- the program's variables that the walks read -/
def Glob (H : Heap) : Prop := SL H encB3 (some ⟨0, 0, none⟩) lexer_ranges ∧ ∃ W : World, Le (hp W) H ∧ Lib.TabIs Tryd.prog W "internal/strconv.uint64pow10" .u64 Lib.pow10Tab
theorem Glob.mono {H H' : Heap} (h : Glob H) (k : Le H H') : Glob H' := by
  obtain ⟨h0, W, h1, h2⟩ := h
  exact ⟨h0.mono k, W, h1.trans k, h2⟩
theorem tab_le {W w : World} {name : String} {k : IntKind} {zs : List Int} (h : Le (hp W) (hp w)) (t : Lib.TabIs Tryd.prog W name k zs) : Lib.TabIs Tryd.prog w name k zs := by
  unfold Lib.TabIs World.var? at *
  cases hg : Tryd.prog.globalNamed name with
  | none => rw [hg] at t; cases t
  | some b =>
    simp only [hg, Option.bind_some] at t ⊢
    cases hb : W.heap[b]? with
    | none => rw [hb] at t; cases t
    | some o =>
      have : w.heap[b]? = some o := h b o hb
      rw [hb] at t
      rw [this]
      exact t
theorem below_grow {w : World} (k : Nat) (os : Array Obj) : Below w.heap.size w (Go.Sort.grow (w.drewN k) os) :=
  ⟨rfl, rfl, rfl, by simp [Go.Sort.grow], fun j hj => by simp [Go.Sort.grow, Array.getElem?_append_left hj]⟩
/-- strconv.Itoa -/
def itoa (n : Int) : Option (List UInt8) := if -9223372036854775808 ≤ n ∧ n ≤ 9223372036854775807 then some (Lib.itoa n) else none
theorem itoa_con (n : Int) (w : World) (H : Heap) (hH : Le H (hp w)) (hG : Glob H) (r : List UInt8) (hm : itoa n = some r) : Con Tryd.prog 50 [.int .i64 n] w H (fun v _ => v = mkS r) := by
  unfold itoa at hm
  split at hm
  · rename_i h
    cases hm
    obtain ⟨_, W, h1, h2⟩ := hG
    refine Calls.mono (Tryd.strconv_Itoa n h.1 h.2 w (tab_le (h1.trans hH) h2)) fun e w' hw => ?_
    obtain ⟨he, k, os, hw⟩ := hw
    subst hw
    exact ⟨_, he, below_grow k os, rfl⟩
  · cases hm
/-- strings.Compare -/
def cmpS (a b : List UInt8) : Option Int := some (Lib.compareBytes a b)
theorem cmpS_con (a b : List UInt8) (w : World) (H : Heap) (hH : Le H (hp w)) (hG : Glob H) (r : Int) (hm : cmpS a b = some r) : Con Tryd.prog 69 [mkS a, mkS b] w H (fun v _ => v = .int .i64 r) := by
  cases hm
  refine Calls.mono (Tryd.strings_Compare ⟨a.toArray⟩ ⟨b.toArray⟩ w) fun e w' hw => ?_
  obtain ⟨he, hw⟩ := hw
  subst hw
  exact ⟨_, he, Below.refl _ _, rfl⟩
/-- strings.IndexByte -/
def idxB (s : List UInt8) (c : Int) : Option Int := some (Lib.indexByte s c.toNat.toUInt8)
theorem idxB_con (s : List UInt8) (c : Int) (w : World) (H : Heap) (hH : Le H (hp w)) (hG : Glob H) (r : Int) (hm : idxB s c = some r) : Con Tryd.prog 74 [mkS s, .int .u8 c] w H (fun v _ => v = .int .i64 r) := by
  cases hm
  refine Calls.mono (Tryd.strings_IndexByte ⟨s.toArray⟩ c w) fun e w' hw => ?_
  obtain ⟨he, hw⟩ := hw
  subst hw
  exact ⟨_, he, Below.refl _ _, rfl⟩
end Go.Proofs.YtpigfknmlmeihaaDoor.W
