import Derived.Test.YtgpfgnpdbmbknaaGreatDoorExt
import Derived.Test.YtgpfgnpdbmbknaaGreatDoorLibR
set_option linter.unusedVariables false
set_option linter.unusedSimpArgs false
set_option maxRecDepth 100000
set_option maxHeartbeats 4000000
namespace Go.Proofs.YtgpfgnpdbmbknaaGreatDoor.W
open Go Go.RowKit
theorem putCells_take (d : List (List UInt8)) (cur : Array Value) (hd : d.length ≤ cur.size) (k : Nat) (hk : k ≤ d.length) : (Go.Sort.putCells Go.Proofs.encStr 0 d.toArray cur).toList.take k = (d.take k).map mkS := by
  refine List.ext_getElem? fun j => ?_
  rw [List.getElem?_take]
  by_cases hj : j < k
  · rw [if_pos hj, List.getElem?_map, List.getElem?_take, if_pos hj]
    have h1 : j < d.length := by omega
    have h2 : j < cur.size := by omega
    simp [Go.Sort.putCells, h1, h2, Go.Proofs.encStr, mkS]
  · rw [if_neg hj, List.getElem?_map, List.getElem?_take, if_neg hj]
    rfl
section
variable {w0 w w' : World} {H0 H : Heap} {ms : List Ent}
theorem St.row_put {i E n cap b k m : Nat} {xs : List Value} {d : List (List UInt8)} {os : Array Obj} (s : St w0 H0 ms H w) (hi : ms[i]? = some (.row E 1 m (.slice (some ⟨b, 0, none⟩) m cap) xs)) (hd : d.length = m) (hk : k ≤ m)
    (hw : w' = Go.Sort.grow (Go.Sort.putRow Go.Proofs.encStr (Go.Sort.ahead w n) b 0 d.toArray) os) : St w0 H0 (ms.set i (.row E 1 k (.slice (some ⟨b, 0, none⟩) k cap) ((d.take k).map mkS))) H w' := by
  subst hw
  have si : w.ownsRow _ _ _ _ _ _ := s.sat _ (List.mem_of_getElem? hi)
  rcases si.2 with ⟨e1, _⟩ | ⟨b', c', cur, e1, hb, hh, hle, hmx, hsz, htk⟩
  · cases e1
  · cases e1
    have hlt : b < w.heap.size := (Array.getElem?_eq_some_iff.1 hh).1
    have hblk : (Go.Sort.grow (Go.Sort.putRow Go.Proofs.encStr (Go.Sort.ahead w n) b 0 d.toArray) os).heap[b]? = some (.cells (Go.Sort.putCells Go.Proofs.encStr 0 d.toArray cur) E (0, 0)) := by
      have h1 : (Go.Sort.putRow Go.Proofs.encStr (Go.Sort.ahead w n) b 0 d.toArray).heap = w.heap.modify b (Go.Sort.onCells (Go.Sort.putCells Go.Proofs.encStr 0 d.toArray)) := rfl
      simp only [Go.Sort.grow, h1]
      rw [Array.getElem?_append_left (by simpa using hlt), Array.getElem?_modify, if_pos rfl, hh]
      rfl
    refine s.turn hi ⟨rfl, rfl, rfl, by simp [Go.Sort.grow, Go.Sort.putRow, Go.Sort.mapBlock], fun q hq hne => ?_⟩ ?_ (fun q hq => .inl hq)
    · have h1 : (Go.Sort.putRow Go.Proofs.encStr (Go.Sort.ahead w n) b 0 d.toArray).heap = w.heap.modify b (Go.Sort.onCells (Go.Sort.putCells Go.Proofs.encStr 0 d.toArray)) := rfl
      simp only [Go.Sort.grow, h1]
      rw [Array.getElem?_append_left (by simpa using hq), Array.getElem?_modify, if_neg]
      intro e
      subst e
      exact hne rfl
    · refine ⟨by simp; omega, .inr ⟨b, cap, _, rfl, hb, hblk, by omega, hmx, by simp [Go.Sort.putCells, hsz], ?_⟩⟩
      rw [Nat.mul_one]
      exact putCells_take d cur (by omega) k (by omega)
end
theorem row_same {ms : List Ent} {i : Nat} {e e' : Ent} (hi : ms[i]? = some e) (h : e' = e) : ms.set i e' = ms := by
  subst h
  apply List.ext_getElem?
  intro j
  rw [List.getElem?_set]
  split
  · rename_i e3; subst e3; rw [hi]; simp [(List.getElem?_eq_some_iff.1 hi).1]
  · rfl
def sortS (l : List (List UInt8)) : Option (List (List UInt8)) := if l.length ≤ 140737488355328 then some (l.mergeSort fun x y => decide (x ≤ y)) else none
def compactS (l : List (List UInt8)) : Option (List (List UInt8)) := if l.length ≤ 140737488355328 then some (Go.Lib.compact l) else none
theorem rl_str {H : Heap} {l : List (List UInt8)} {xs : List Value} (h : RL H encStr l xs) : xs = l.map mkS := by
  have h1 : xs.length = l.length := by simpa [encStr, Enc.flat] using h.1
  refine List.ext_getElem? fun j => ?_
  cases e : l[j]? with
  | none =>
    have : l.length ≤ j := List.getElem?_eq_none_iff.1 e
    rw [List.getElem?_map, e, List.getElem?_eq_none (by omega)]
    rfl
  | some x =>
    have h2 : (xs.drop (j * 1)).take 1 = [mkS x] := h.2 j x e
    rw [List.getElem?_map, e]
    have : ((xs.drop (j * 1)).take 1)[0]? = some (mkS x) := by rw [h2]; rfl
    rw [List.getElem?_take, if_pos (by decide), List.getElem?_drop] at this
    simpa using this
theorem str_rl (H : Heap) (l : List (List UInt8)) : RL H encStr l (l.map mkS) := by
  have := RL.flat (H := H) (size := 1) (f := fun x => [mkS x]) (hf := fun _ => rfl) l
  rw [show l.flatMap (fun x => [mkS x]) = l.map mkS from by clear this; induction l with | nil => rfl | cons x l ih => simp [ih]] at this
  exact this
section
variable {n : Nat} {o : Oper} {g : Frm} {w0 : World} {ms : List Ent} {H0 H : Heap}
theorem row_holds {w : World} {i E m cap b : Nat} {l : List (List UInt8)} (s : St w0 H0 ms H w) (hi : ms[i]? = some (.row E 1 l.length (.slice (some ⟨b, 0, none⟩) l.length cap) (l.map mkS))) : Go.Sort.Holds Go.Proofs.encStr w b 0 l.toArray ∧ b < w.heap.size ∧ l.length ≤ cap := by
  have si : w.ownsRow _ _ _ _ _ _ := s.sat _ (List.mem_of_getElem? hi)
  rcases si.2 with ⟨e1, _⟩ | ⟨b', c', cur, e1, hb, hh, hle, hmx, hsz, htk⟩
  · cases e1
  · cases e1
    refine ⟨fun j hj => ?_, (Array.getElem?_eq_some_iff.1 hh).1, hle⟩
    have hj' : j < l.length := by simpa using hj
    have h1 : cur[j]? = some (mkS l[j]) := by
      have : (cur.toList.take (l.length * 1))[j]? = some (mkS l[j]) := by rw [htk]; simp [hj']
      rw [List.getElem?_take, if_pos (by omega)] at this
      simpa using this
    refine ⟨?_, ?_⟩
    · simp [World.cell?, hh, h1, Go.Proofs.encStr, mkS, hj']
    · simp [World.frozen?, hh]
theorem os_sortS {x : Operand} {l r : List (List UInt8)} {i E cap : Nat} {ao : Option Addr} {xs : List Value} {ats : Array TypeId} {K : Value → Pred → Prop} (h : o.op = .call { callee := .value (.func 100), args := [x].toArray, argTypes := ats }) (hx : ev g x = some (.slice ao l.length cap))
    (hi : ms[i]? = some (.row E 1 l.length (.slice ao l.length cap) xs)) (hR : RL H encStr l xs) (hm : sortS l = some r) (k : ∀ xs', r.length = l.length → RL H encStr r xs' → K (.tuple #[]) (St w0 H0 (ms.set i (.row E 1 r.length (.slice ao r.length cap) xs')) H)) : OS Tryz.prog n o g (St w0 H0 ms H) K := by
  unfold sortS at hm
  split at hm
  case isFalse => cases hm
  rename_i hsz
  cases hm
  obtain rfl := rl_str hR
  have hlen : (l.mergeSort fun x y => decide (x ≤ y)).length = l.length := List.length_mergeSort ..
  refine os_call Tryz.call100 h (vs := #[.slice ao l.length cap]) (fun a f => by simp [f.eval hx]) fun w s => ?_
  have si : w.ownsRow _ _ _ _ _ _ := s.sat _ (List.mem_of_getElem? hi)
  rcases si.2 with ⟨e1, e2⟩ | ⟨b', c', cur, e1, hb, hh, hle, hmx, hsz', htk⟩
  · obtain rfl : l = [] := List.eq_nil_of_length_eq_zero e2
    injection e1 with q1 q2 q3
    subst q1
    subst q3
    refine (Tryz.slices_Sort_string_none none 0 w).mono fun e w' hw => ?_
    obtain ⟨he, rest⟩ := hw
    have hb : Below w.heap.size w w' := by rw [rest]; exact Below.refl _ _
    refine ⟨_, _, he, k [] (by rw [List.mergeSort_nil]) (by rw [List.mergeSort_nil]; exact RL.nil _ _), ?_⟩
    rw [row_same hi (by rw [List.mergeSort_nil]; rfl)]
    exact s.grow hb
  · cases e1
    obtain ⟨hH, hblk, hc⟩ := row_holds (m := 0) s hi
    refine (Tryz.slices_Sort_string b' 0 cap l w hH hblk (by omega)).mono fun e w' hw => ?_
    obtain ⟨he, q, os, rfl⟩ := hw
    refine ⟨_, _, he, k _ hlen (str_rl H _), ?_⟩
    have := s.row_put hi hlen (Nat.le_refl _) (w' := _) rfl (n := q) (os := os) (d := l.mergeSort fun x y => decide (x ≤ y))
    rw [List.take_of_length_le (by omega)] at this
    rw [hlen]
    exact this
theorem os_compactS {x : Operand} {l r : List (List UInt8)} {i E cap : Nat} {ao : Option Addr} {xs : List Value} {ats : Array TypeId} {K : Value → Pred → Prop} (h : o.op = .call { callee := .value (.func 101), args := [x].toArray, argTypes := ats }) (hx : ev g x = some (.slice ao l.length cap))
    (hi : ms[i]? = some (.row E 1 l.length (.slice ao l.length cap) xs)) (hR : RL H encStr l xs) (hm : compactS l = some r) (k : ∀ xs', RL H encStr r xs' → K (.slice ao r.length cap) (St w0 H0 (ms.set i (.row E 1 r.length (.slice ao r.length cap) xs')) H)) : OS Tryz.prog n o g (St w0 H0 ms H) K := by
  unfold compactS at hm
  split at hm
  case isFalse => cases hm
  rename_i hsz
  cases hm
  obtain rfl := rl_str hR
  have hlen : (Go.Lib.compact l).length ≤ l.length := by
    unfold Go.Lib.compact Go.Lib.compactUpTo
    rw [List.length_map]
    exact Nat.le_trans (List.length_filter_le ..) (by simp)
  refine os_call Tryz.call101 h (vs := #[.slice ao l.length cap]) (fun a f => by simp [f.eval hx]) fun w s => ?_
  have si : w.ownsRow _ _ _ _ _ _ := s.sat _ (List.mem_of_getElem? hi)
  rcases si.2 with ⟨e1, e2⟩ | ⟨b', c', cur, e1, hb, hh, hle, hmx, hsz', htk⟩
  · obtain rfl : l = [] := List.eq_nil_of_length_eq_zero e2
    injection e1 with q1 q2 q3
    subst q1
    subst q3
    refine (Tryz.slices_Compact_string_empty none 0 w).mono fun e w' hw => ?_
    obtain ⟨he, rfl⟩ := hw
    refine ⟨_, _, he, k [] (RL.nil _ _), ?_⟩
    have e9 := row_same hi (rfl : (Ent.row E 1 (Go.Lib.compact ([] : List (List UInt8))).length (.slice none (Go.Lib.compact ([] : List (List UInt8))).length 0) []) = _)
    rw [e9]
    exact s
  · cases e1
    obtain ⟨hH, hblk, hc⟩ := row_holds (m := 0) s hi
    refine (Tryz.slices_Compact_string b' 0 cap l w hH (by omega) hc).mono fun e w' hw => ?_
    obtain ⟨he, q, rfl⟩ := hw
    refine ⟨_, _, he, k _ (str_rl H _), ?_⟩
    have := s.row_put (k := (Go.Lib.compact l).length) hi (d := Go.Lib.compact l ++ List.replicate (l.length - (Go.Lib.compact l).length) []) (by simp; omega) hlen (w' := _) rfl (n := q) (os := #[])
    rw [List.take_left, Go.Sort.grow_empty] at this
    exact this
end
end Go.Proofs.YtgpfgnpdbmbknaaGreatDoor.W
