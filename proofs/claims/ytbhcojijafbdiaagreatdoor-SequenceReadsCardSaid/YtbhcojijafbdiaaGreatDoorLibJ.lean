/- Our own calculus, tenth part: rows turned into blocks and back, and what is done to blocks. A general text: it names no program. -/
import Derived.Test.YtbhcojijafbdiaaGreatDoorLibI
import Derived.Lib.Overlaps
import Derived.Lib.AppendZerosOnto
import Derived.Laws.Externs
set_option linter.unusedVariables false
set_option linter.unusedSimpArgs false
namespace Go.Proofs.YtbhcojijafbdiaaGreatDoor.W
open Go Go.RowKit
section
variable {w w0 : World} {ms : List Ent} {H0 H : Heap} {T : TypeId} {sz m cap b i : Nat} {ao : Option Addr} {xs cur : List Value}
theorem St.far {k : Nat} {e e' : Ent} (h : St w0 H0 ms H w) (hi : ms[i]? = some e) (hk : ms[k]? = some e') (hne : i ≠ k) : ∀ b, e.at = some b → e'.at ≠ some b := fun b h1 h2 => by
  obtain ⟨hi1, hi2⟩ := List.getElem?_eq_some_iff.1 hi
  obtain ⟨hk1, hk2⟩ := List.getElem?_eq_some_iff.1 hk
  have hp := List.pairwise_iff_getElem.1 h.apart
  rcases Nat.lt_or_gt_of_ne hne with q | q
  · exact hp i k hi1 hk1 q b (by rw [hi2]; exact h1) (by rw [hk2]; exact h2)
  · exact hp k i hk1 hi1 q b (by rw [hk2]; exact h2) (by rw [hi2]; exact h1)
theorem St.move {e : Ent} (h : St w0 H0 (e :: ms) H w) (i : Nat) : St w0 H0 (ms.set i e) H w := by
  have hm : ∀ x ∈ ms.set i e, x ∈ e :: ms := fun x hx => by
    rcases List.mem_or_eq_of_mem_set hx with h | rfl
    · exact List.mem_cons_of_mem _ h
    · exact List.mem_cons_self ..
  refine ⟨h.old, h.below, h.hold, fun x hx => h.sat x (hm x hx), fun x hx => h.own x (hm x hx), ?_⟩
  rw [List.pairwise_iff_getElem]
  intro p q hp hq hpq b hb hb'
  have hA := fun y hy => List.rel_of_pairwise_cons (a' := y) h.apart hy
  have hB := List.pairwise_iff_getElem.1 (List.Pairwise.of_cons h.apart)
  rw [List.getElem_set] at hb hb'
  rw [List.length_set] at hp hq
  by_cases h1 : i = p
  · rw [if_pos h1] at hb
    rw [if_neg (by omega)] at hb'
    exact hA _ (List.getElem_mem hq) b hb hb'
  · rw [if_neg h1] at hb
    by_cases h2 : i = q
    · rw [if_pos h2] at hb'
      exact hA _ (List.getElem_mem hp) b hb' hb
    · rw [if_neg h2] at hb'
      exact hB p q hp hq hpq b hb hb'
end
section
variable {α : Type} {H : Heap} {E : Enc α} {l : List α} {xs : List Value}
theorem RL.take (h : RL H E l xs) (n : Nat) : RL H E (l.take n) (xs.take (n * E.size)) := by
  refine ⟨?_, fun i x e => ?_⟩
  · rw [List.length_take, List.length_take, h.1]
    rcases Nat.le_total n l.length with k | k
    · rw [Nat.min_eq_left k, Nat.min_eq_left (Nat.mul_le_mul_right _ k)]
    · rw [Nat.min_eq_right k, Nat.min_eq_right (Nat.mul_le_mul_right _ k)]
  · rw [List.getElem?_take] at e
    split at e
    · rename_i hlt
      have := h.2 i x e
      rw [List.drop_take, List.take_take, Nat.min_eq_left]
      · exact this
      · rw [← Nat.sub_mul]
        exact Nat.le_mul_of_pos_left _ (by omega)
    · cases e
theorem RL.drop (h : RL H E l xs) (n : Nat) : RL H E (l.drop n) (xs.drop (n * E.size)) := by
  refine ⟨?_, fun i x e => ?_⟩
  · rw [List.length_drop, List.length_drop, h.1, Nat.sub_mul]
  · rw [List.getElem?_drop] at e
    have := h.2 _ x e
    rw [List.drop_drop]
    rw [Nat.add_mul] at this
    exact this
end
section
variable {P : Program} {n : Nat} {o : Oper} {g : Frm} {w0 : World} {ms : List Ent} {H0 H : Heap}
theorem OV.as {S : Pred} {v v' : Value} (h : OV P n o g S v) (e : v = v') : OV P n o g S v' := e ▸ h
theorem WP.pre {F : Fence} {p : Prop} {c : Code} {S : Pred} {Q : Exit → Frm → Pred → Prop} (h : p → WP F P n c g S Q) : WP F P n c g (fun w => p ∧ S w) Q := fun a w f ⟨hp, s⟩ => h hp a w f s
end
end Go.Proofs.YtbhcojijafbdiaaGreatDoor.W
