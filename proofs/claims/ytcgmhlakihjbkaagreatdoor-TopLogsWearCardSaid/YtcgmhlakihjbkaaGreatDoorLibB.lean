/- Our own calculus, second part: what each operation yields, by the state's own facts. A general text: it names no program. -/
import Derived.Test.YtcgmhlakihjbkaaGreatDoorLibA
import Derived.WalkLawsBesides
import Derived.OrdersHeld
import Derived.Laws.OwnMore
namespace Go.Proofs.YtcgmhlakihjbkaaGreatDoor.W
open Go Go.RowKit

/-- a text as a value -/
def mkS (l : List UInt8) : Value := .string ⟨l.toArray⟩

/-! ### What is held for good: a part of the memory -/
abbrev Heap := Nat → Option Obj
def hp (w : World) : Heap := fun b => w.heap[b]?
def Le (H H' : Heap) : Prop := ∀ b o, H b = some o → H' b = some o
theorem Le.refl (H : Heap) : Le H H := fun _ _ h => h
theorem Le.trans {a b c : Heap} (h : Le a b) (k : Le b c) : Le a c := fun x o e => k x o (h x o e)
def cellH (H : Heap) (a : Addr) : Option Value :=
  match H a.block with
  | some (.cells c _ _) => if a.spot.isSome then none else c[a.off]?
  | _ => none
theorem cellH_mono {H H' : Heap} (h : Le H H') {a : Addr} {v : Value} (e : cellH H a = some v) : cellH H' a = some v := by
  unfold cellH at *
  cases hb : H a.block with
  | none => rw [hb] at e; cases e
  | some o => rw [h _ _ hb]; rw [hb] at e; exact e
theorem cellH_world {H : Heap} {w : World} (h : Le H (hp w)) {a : Addr} {v : Value} (e : cellH H a = some v) : w.cell? a = some v := by
  have := cellH_mono h e
  exact this

/-! ### What the call itself has made and may still write -/
inductive Ent where
  | blk (b : Nat) (T : TypeId) (cs : List Value)
  | row (T : TypeId) (sz n : Nat) (v : Value) (xs : List Value)
  | obj (b : Nat) (o : Obj)
def Ent.at : Ent → Option Nat
  | .blk b _ _ => some b
  | .row _ _ _ v _ => v.ownBlock
  | .obj b _ => some b
def Ent.sat (base : Nat) (w : World) : Ent → Prop
  | .blk b T cs => w.heap[b]? = some (.cells cs.toArray T (0, 0))
  | .row T sz n v xs => w.ownsRow base T sz v n xs
  | .obj b o => w.heap[b]? = some o
structure St (w0 : World) (H0 : Heap) (ms : List Ent) (H : Heap) (w : World) : Prop where
  old : ∀ b o, H b = some o → b < w0.heap.size → H0 b = some o
  below : Below w0.heap.size w0 w
  hold : Le H (hp w)
  sat : ∀ e ∈ ms, e.sat w0.heap.size w
  own : ∀ e ∈ ms, ∀ b, e.at = some b → w0.heap.size ≤ b ∧ H b = none
  apart : ms.Pairwise (fun x y => ∀ b, x.at = some b → y.at ≠ some b)
section
variable {w0 w w' : World} {ms : List Ent} {H0 H : Heap}
theorem St.start (w : World) (H : Heap) (h : Le H (hp w)) : St w H [] H w := ⟨fun _ _ h _ => h, Below.refl _ _, h, (fun _ h => by cases h), (fun _ h => by cases h), List.Pairwise.nil⟩
theorem St.drew (h : St w0 H0 ms H w) : St w0 H0 ms H w.drew := ⟨h.old, h.below.drew, h.hold, h.sat, h.own, h.apart⟩
theorem Ent.lt {base : Nat} {e : Ent} (h : e.sat base w) {b : Nat} (hb : e.at = some b) : b < w.heap.size := by
  cases e with
  | blk c T cs => simp only [Ent.at, Option.some.injEq] at hb; subst hb; exact (Array.getElem?_eq_some_iff.1 h).1
  | row T sz n v xs => exact (World.ownsRow.lt h b hb).2
  | obj c o => simp only [Ent.at, Option.some.injEq] at hb; subst hb; exact (Array.getElem?_eq_some_iff.1 h).1
theorem St.less {ms' : List Ent} (h : St w0 H0 ms H w) (k : ms'.Sublist ms) : St w0 H0 ms' H w :=
  ⟨h.old, h.below, h.hold, fun e he => h.sat e (k.subset he), fun e he => h.own e (k.subset he), h.apart.sublist k⟩
/-- Some entries, in an order of one's own. -/
theorem St.select {ms' : List Ent} (h : St w0 H0 ms H w) (idx : List Nat) (hn : idx.Nodup) (hm : idx.filterMap (ms[·]?) = ms') : St w0 H0 ms' H w := by
  subst hm
  have hp2 := List.pairwise_iff_getElem.1 h.apart
  have mem : ∀ e ∈ idx.filterMap (ms[·]?), e ∈ ms := fun e he => by
    obtain ⟨i, _, hi⟩ := List.mem_filterMap.1 he
    exact List.mem_of_getElem? hi
  refine ⟨h.old, h.below, h.hold, fun e he => h.sat e (mem e he), fun e he => h.own e (mem e he), ?_⟩
  rw [List.pairwise_filterMap]
  refine hn.imp_of_mem (fun {i j} _ _ hij x hx y hy b hb => ?_)
  obtain ⟨hi, rfl⟩ := List.getElem?_eq_some_iff.1 (show ms[i]? = some x from hx)
  obtain ⟨hj, rfl⟩ := List.getElem?_eq_some_iff.1 (show ms[j]? = some y from hy)
  rcases Nat.lt_or_gt_of_ne hij with hlt | hgt
  · exact hp2 i j hi hj hlt b hb
  · intro hb'
    exact hp2 j i hj hi hgt b hb' hb
theorem St.tail {e : Ent} (h : St w0 H0 (e :: ms) H w) : St w0 H0 ms H w := h.less (List.sublist_cons_self e ms)
theorem St.heap {H' : Heap} (h : St w0 H0 ms H w) (k : Le H' H) : St w0 H0 ms H' w :=
  ⟨fun b o e => h.old b o (k b o e), h.below, k.trans h.hold, h.sat, fun e he b hb => ⟨(h.own e he b hb).1, by
    have := (h.own e he b hb).2
    cases hh : H' b with
    | none => rfl
    | some o => rw [k b o hh] at this; cases this⟩, h.apart⟩
theorem Ent.sat_same {base : Nat} {e : Ent} (h : e.sat base w) (k : ∀ b, e.at = some b → w'.heap[b]? = w.heap[b]?) : e.sat base w' := by
  cases e with
  | blk c T cs => exact (k c rfl).trans h
  | row T sz n v xs =>
    refine ⟨h.1, ?_⟩
    rcases h.2 with hn | ⟨g, cap, cur, rfl, hb, hg, r⟩
    · exact .inl hn
    · exact .inr ⟨g, cap, cur, rfl, hb, (k g rfl).trans hg, r⟩
  | obj c o => exact (k c rfl).trans h
/-- Nothing that was there has turned. -/
theorem St.grow (h : St w0 H0 ms H w) (k : Below w.heap.size w w') : St w0 H0 ms H w' :=
  ⟨h.old, h.below.trans (k.mono h.below.size), fun b o hb => by
      have h1 := h.hold b o hb
      have hlt := (Array.getElem?_eq_some_iff.1 h1).1
      exact (k.block b hlt).trans h1,
    fun e he => Ent.sat_same (h.sat e he) (fun b hb => k.block b (Ent.lt (h.sat e he) hb)), h.own, h.apart⟩
/-- What came new is held for good. -/
def newer (w w' : World) (H : Heap) : Heap := fun b => if b < w.heap.size then H b else w'.heap[b]?
theorem St.gain (h : St w0 H0 ms H w) (k : Below w.heap.size w w') : St w0 H0 ms (newer w w' H) w' := by
  have h' := h.grow k
  refine ⟨fun b o hb hlt => ?_, h'.below, fun b o hb => ?_, h'.sat, fun e he b hb => ⟨(h.own e he b hb).1, ?_⟩, h.apart⟩
  · unfold newer at hb
    rw [if_pos (Nat.lt_of_lt_of_le hlt h.below.size)] at hb
    exact h.old b o hb hlt
  · unfold newer at hb
    split at hb
    · exact h'.hold b o hb
    · exact hb
  · unfold newer
    rw [if_pos (Ent.lt (h.sat e he) hb)]
    exact (h.own e he b hb).2
theorem newer_le (h : St w0 H0 ms H w) : Le H (newer w w' H) := fun b o hb => by
  have hlt := (Array.getElem?_eq_some_iff.1 (h.hold b o hb)).1
  unfold newer
  rw [if_pos hlt]
  exact hb
/-- One entry turns into another; besides there are at most new blocks. -/
theorem St.turn (h : St w0 H0 ms H w) {i : Nat} {e e' : Ent} (hi : ms[i]? = some e) (k : w.grownBy w' e.at) (hs : e'.sat w0.heap.size w') (ha : ∀ b, e'.at = some b → e.at = some b ∨ w.heap.size ≤ b) : St w0 H0 (ms.set i e') H w' := by
  have hmem : e ∈ ms := List.mem_of_getElem? hi
  have hbase : ∀ b, e.at = some b → w0.heap.size ≤ b := fun b hb => (h.own e hmem b hb).1
  have same : ∀ b, b < w.heap.size → e.at ≠ some b → w'.heap[b]? = w.heap[b]? := fun b hb hne => k.block b hb (fun x => hne x.symm)
  have other : ∀ x ∈ ms, (∀ b, x.at = some b → e.at ≠ some b) → x.sat w0.heap.size w' := fun x hx hd =>
    Ent.sat_same (h.sat x hx) fun b hb => same b (Ent.lt (h.sat x hx) hb) (hd b hb)
  have hp2 := List.pairwise_iff_getElem.1 h.apart
  obtain ⟨hlt, hie⟩ := List.getElem?_eq_some_iff.1 hi
  have far : ∀ (j : Nat) (hj : j < ms.length), j ≠ i → ∀ b, ms[j].at = some b → e.at ≠ some b := fun j hj hne b hb => by
    rcases Nat.lt_or_gt_of_ne hne with hlt' | hgt
    · have := hp2 j i hj hlt hlt' b hb; rw [hie] at this; exact this
    · intro hb'
      have := hp2 i j hlt hj hgt b (by rw [hie]; exact hb')
      exact this hb
  refine ⟨h.old, ⟨k.os.trans h.below.os, k.tape.trans h.below.tape, k.output.trans h.below.output, Nat.le_trans h.below.size k.size, fun b hb => ?_⟩, fun b o hb => ?_, fun x hx => ?_, fun x hx b hb => ?_, ?_⟩
  · rw [same b (Nat.lt_of_lt_of_le hb h.below.size) (fun x => by have := hbase b x; omega)]
    exact h.below.block b hb
  · have h1 := h.hold b o hb
    have hlt' := (Array.getElem?_eq_some_iff.1 h1).1
    refine (same b hlt' (fun x => ?_)).trans h1
    have := (h.own e hmem b x).2
    rw [this] at hb
    cases hb
  · obtain ⟨j, hj, hxe⟩ := List.getElem_of_mem hx
    rw [List.getElem_set] at hxe
    split at hxe
    · rw [← hxe]; exact hs
    · rename_i hne
      have hj' : j < ms.length := by simpa using hj
      rw [← hxe]
      exact other _ (List.getElem_mem hj') (far j hj' (Ne.symm hne))
  · obtain ⟨j, hj, hxe⟩ := List.getElem_of_mem hx
    rw [List.getElem_set] at hxe
    split at hxe
    · rw [← hxe] at hb
      rcases ha b hb with hb' | hb'
      · exact h.own e hmem b hb'
      · refine ⟨Nat.le_trans h.below.size hb', ?_⟩
        cases hh : H b with
        | none => rfl
        | some o => have := (Array.getElem?_eq_some_iff.1 (h.hold b o hh)).1; omega
    · have hj' : j < ms.length := by simpa using hj
      rw [← hxe] at hb
      exact h.own _ (List.getElem_mem hj') b hb
  · rw [List.pairwise_iff_getElem]
    intro p q hp hq hpq b hb hb'
    have hp' : p < ms.length := by simpa using hp
    have hq' : q < ms.length := by simpa using hq
    rw [List.getElem_set] at hb hb'
    split at hb
    · rename_i e1
      subst e1
      rw [if_neg (by omega)] at hb'
      rcases ha b hb with h1 | h1
      · exact far q hq' (by omega) b hb' h1
      · have := Ent.lt (h.sat _ (List.getElem_mem hq')) hb'; omega
    · split at hb'
      · rename_i e1 e2
        subst e2
        rcases ha b hb' with h1 | h1
        · exact far p hp' (by omega) b hb h1
        · have := Ent.lt (h.sat _ (List.getElem_mem hp')) hb; omega
      · exact hp2 p q hp' hq' hpq b hb hb'
/-- One entry more. -/
theorem St.push (h : St w0 H0 ms H w) {e : Ent} (k : Below w.heap.size w w') (hs : e.sat w0.heap.size w') (ha : ∀ b, e.at = some b → w.heap.size ≤ b) : St w0 H0 (e :: ms) H w' := by
  have h' := h.grow k
  refine ⟨h'.old, h'.below, h'.hold, fun x hx => ?_, fun x hx b hb => ?_, ?_⟩
  · rcases List.mem_cons.1 hx with rfl | hx
    · exact hs
    · exact h'.sat x hx
  · rcases List.mem_cons.1 hx with rfl | hx
    · refine ⟨Nat.le_trans h.below.size (ha b hb), ?_⟩
      cases hh : H b with
      | none => rfl
      | some o => have := (Array.getElem?_eq_some_iff.1 (h.hold b o hh)).1; have := ha b hb; omega
    · exact h.own x hx b hb
  · refine List.Pairwise.cons (fun y hy b hb hb' => ?_) h.apart
    have := Ent.lt (h.sat y hy) hb'
    have := ha b hb
    omega
theorem St.alloc (h : St w0 H0 ms H w) (T : TypeId) (cs : List Value) : St w0 H0 (.blk w.heap.size T cs :: ms) H (w.alloc (.cells cs.toArray T)) :=
  h.push ((Below.refl _ _).alloc (Nat.le_refl _) _) (heap_alloc_new w _) (fun b hb => by simp [Ent.at] at hb; omega)
/-- An entry is held for good from now on. -/
theorem St.freeze {e : Ent} (h : St w0 H0 (e :: ms) H w) : St w0 H0 ms (fun b => if e.at = some b then w.heap[b]? else H b) w := by
  have ht := h.tail
  refine ⟨fun b o hb hlt => ?_, ht.below, fun b o hb => ?_, ht.sat, fun x hx b hb => ⟨(ht.own x hx b hb).1, ?_⟩, ht.apart⟩
  · split at hb
    · rename_i hat
      have := (h.own e (List.mem_cons_self ..) b hat).1
      omega
    · exact ht.old b o hb hlt
  · split at hb
    · exact hb
    · exact ht.hold b o hb
  · have := List.rel_of_pairwise_cons h.apart hx b
    rw [if_neg (fun hh => this hh hb)]
    exact (ht.own x hx b hb).2
theorem freeze_le {e : Ent} (h : St w0 H0 (e :: ms) H w) : Le H (fun b => if e.at = some b then w.heap[b]? else H b) := fun b o hb => by
  show (if e.at = some b then w.heap[b]? else H b) = some o
  split
  · exact h.hold b o hb
  · exact hb
end

/-! ### The operations: what is asked -/
/-- It yields v in the very world. -/
def OV (P : Program) (n : Nat) (o : Oper) (g : Frm) (S : Pred) (v : Value) : Prop := ∀ a w, Fits n g a → S w → (execOp a.eval o).run P w = .ok (.value v) w
theorem OV.quiet {P : Program} {n : Nat} {o : Oper} {g : Frm} {S : Pred} {v : Value} (h : OV P n o g S v) : OQ P n o g S v := fun a w f s => by rw [h a w f s]; exact ⟨rfl, rfl⟩
/-- It may turn the world: whatever it leaves meets K. -/
def OS (P : Program) (n : Nat) (o : Oper) (g : Frm) (S : Pred) (K : Value → Pred → Prop) : Prop :=
  ∀ a w, Fits n g a → S w → ∀ (next : Act → World → Prop) (Q : Exit → Act → World → Prop), (∀ v S' w', K v S' → S' w' → next (a.put o.dst v) w') → o.wp P a w next Q
section
variable {F : Fence} [Free F] {P : Program} {n : Nat} {o : Oper} {g : Frm} {S : Pred} {ops : Array Oper} {l : List Oper} {K : Frm → Pred → Prop}
theorem OQ.step {v : Value} {K : Value → Pred → Prop} (h : OQ P n o g S v) (k : K v S) : OS P n o g S K := fun _ _ f s _ _ hn => h.wp f s fun w' s' => hn v S w' k s'
theorem WL.step {d : Nat} (hr : Runs n ops g o) (hd : o.dst = some d) (hn : okDst d n = true) (h : OS P n o g S fun v S' => WL F P n ops l ((d, v) :: g) S' K) : WL F P n ops (o :: l) g S K := fun a w f s Q hQ =>
  wpList_do (hr a f) (Oper.wpIn_of (h a w f s _ _ fun v S' w' k s' => ⟨by cases o.dst <;> rfl, k _ w' (by rw [hd]; exact f.put hn v) s' Q hQ⟩))
theorem WL.step0 (hr : Runs n ops g o) (hd : o.dst = none) (h : OS P n o g S fun _ S' => WL F P n ops l g S' K) : WL F P n ops (o :: l) g S K := fun a w f s Q hQ =>
  wpList_do (hr a f) (Oper.wpIn_of (h a w f s _ _ fun v S' w' k s' => ⟨by cases o.dst <;> rfl, k _ w' (by rw [hd]; exact f) s' Q hQ⟩))
end

/-! ### A region that draws its order and turns the world -/
def AL (P : Program) (n : Nat) (ops : Array Oper) (S₀ : Pred) (fuel : Nat) (listed : Array Bool) (g : Frm) (S : Pred) (K : Frm → Pred → Prop) : Prop :=
  ∀ a w, Fits n g a → S w → S₀ w → ∀ Q : Exit → Act → World → Prop, (∀ c a d v w, Q (.panic c) (Act.put a d v) w → Q (.panic c) a w) → (∀ g' S' a' w', K g' S' → Fits n g' a' → S' w' → Q .normal a' w') → wpAnyH P .any ops Q S₀ fuel listed a w
section
variable {P : Program} {n : Nat} {o : Oper} {g : Frm} {S S₀ : Pred} {ops : Array Oper} {fuel : Nat} {listed : Array Bool} {K : Frm → Pred → Prop}
theorem AL.done (hr : Region.ready .any ops listed = []) (h : K g S) : AL P n ops S₀ fuel listed g S K := fun _ _ f s _ _ _ hQ => wpAnyH_done hr (hQ g S _ _ h f s) fuel
theorem AL.take {L : List Oper} {i d : Nat} {v : Value} (hi : L[i]? = some o) (hs : Region.noSelect L.toArray = true) (hf : Region.free .any L.toArray listed i = true) (hr : (Region.ready .any L.toArray listed).contains i = true)
    (hw : Runs n L.toArray g o) (hd : o.dst = some d) (hn : okDst d n = true) (h : OV P n o g S₀ v) (k : AL P n L.toArray S₀ fuel (listed.setIfInBounds i true) ((d, v) :: g) S K) : AL P n L.toArray S₀ (fuel + 1) listed g S K := fun a w f s s0 Q hp hQ =>
  wpAnyH_take (by simpa using hi) hs hf hr (fun c a w => hp c a _ _ w) (.inl ⟨hw a f, fun w s0 => h a w f s0⟩) s0 (k _ w (by rw [hd]; exact f.put hn v) s s0 Q hp hQ)
theorem AL.idle {L : List Oper} {i d : Nat} (hi : L[i]? = some o) (hs : Region.noSelect L.toArray = true) (hf : Region.free .any L.toArray listed i = true) (hr : (Region.ready .any L.toArray listed).contains i = true)
    (hw : Idle n L.toArray g o) (hd : o.dst = some d) (hn : okDst d n = true) (k : AL P n L.toArray S₀ fuel (listed.setIfInBounds i true) ((d, undef) :: g) S K) : AL P n L.toArray S₀ (fuel + 1) listed g S K := fun a w f s s0 Q hp hQ =>
  wpAnyH_take (by simpa using hi) hs hf hr (fun c a w => hp c a _ _ w) (.inr ⟨hw a f, rfl⟩) s0 (k _ w (by rw [hd]; exact f.put hn undef) s s0 Q hp hQ)
/-- Each that may come up. -/
def ALs (P : Program) (n : Nat) (ops : Array Oper) (S₀ : Pred) (fuel : Nat) (listed : Array Bool) (g : Frm) (S : Pred) (K : Frm → Pred → Prop) (rs : List Nat) : Prop :=
  ∀ i ∈ rs, ∀ a w, Fits n g a → S w → S₀ w → ∀ Q : Exit → Act → World → Prop, (∀ c a d v w, Q (.panic c) (Act.put a d v) w → Q (.panic c) a w) → (∀ g' S' a' w', K g' S' → Fits n g' a' → S' w' → Q .normal a' w') →
    wpOp P ops Q i (fun a' w' => S₀ w' ∧ wpAnyH P .any ops Q S₀ fuel (listed.setIfInBounds i true) a' w') a w
theorem AL.any {rs : List Nat} (hr : Region.ready .any ops listed = rs) (hne : rs ≠ []) (h : ALs P n ops S₀ fuel listed g S K rs) : AL P n ops S₀ (fuel + 1) listed g S K := fun a w f s s0 Q hp hQ =>
  wpAnyH_all hr hne fun i hi => h i hi a w f s s0 Q hp hQ
theorem ALs.nil : ALs P n ops S₀ fuel listed g S K [] := fun _ h => by cases h
theorem ALs.cons {L : List Oper} {i d : Nat} {rs : List Nat} (hi : L[i]? = some o) (hw : Runs n L.toArray g o) (hd : o.dst = some d) (hn : okDst d n = true)
    (h : OS P n o g S fun v S' => (∀ w, S' w → S₀ w) ∧ AL P n L.toArray S₀ fuel (listed.setIfInBounds i true) ((d, v) :: g) S' K) (k : ALs P n L.toArray S₀ fuel listed g S K rs) : ALs P n L.toArray S₀ fuel listed g S K (i :: rs) := fun j hj a w f s s0 Q hp hQ => by
  rcases List.mem_cons.1 hj with rfl | hj
  · have hi' : L.toArray[j]? = some o := by simpa using hi
    unfold wpOp
    simp only [hi']
    rw [if_pos (hw a f)]
    exact .inl (h a w f s _ _ fun v S' w' hk s' => ⟨hk.1 w' s', hk.2 _ w' (by rw [hd]; exact f.put hn v) s' (hk.1 w' s') Q hp hQ⟩)
  · exact k j hj a w f s s0 Q hp hQ
theorem ALs.cons0 {L : List Oper} {i : Nat} {rs : List Nat} (hi : L[i]? = some o) (hw : Runs n L.toArray g o) (hd : o.dst = none)
    (h : OS P n o g S fun _ S' => (∀ w, S' w → S₀ w) ∧ AL P n L.toArray S₀ fuel (listed.setIfInBounds i true) g S' K) (k : ALs P n L.toArray S₀ fuel listed g S K rs) : ALs P n L.toArray S₀ fuel listed g S K (i :: rs) := fun j hj a w f s s0 Q hp hQ => by
  rcases List.mem_cons.1 hj with rfl | hj
  · have hi' : L.toArray[j]? = some o := by simpa using hi
    unfold wpOp
    simp only [hi']
    rw [if_pos (hw a f)]
    exact .inl (h a w f s _ _ fun v S' w' hk s' => ⟨hk.1 w' s', hk.2 _ w' (by rw [hd]; exact f) s' (hk.1 w' s') Q hp hQ⟩)
  · exact k j hj a w f s s0 Q hp hQ
def calmQ (Q : Exit → Act → World → Prop) : Exit → Act → World → Prop
  | .panic _, _, _ => False
  | e, a, w => Q e a w
theorem WP.region_any {F : Fence} [hw : Wide F] {Q : Exit → Frm → Pred → Prop} {id : Nat} {l : List Oper} (N : Nat) (hN : l.length = N) (hm : P.follows .mixedOrders = true) (h0 : ∀ w, S w → S₀ w) (hd : ∀ w, S w → S w.drew)
    (h : AL P n l.toArray S₀ N (Array.replicate N false) g S fun g' S' => Q .normal g' S') : WP F P n (.region id l.toArray true) g S Q := fun a w f s => by
  subst hN
  refine hw.out ▸ wpIn_wide.2 ?_
  refine Code.wp_mono (Q := calmQ (fun e a' w' => ∃ g' S', Fits n g' a' ∧ S' w' ∧ Q e g' S')) (fun e a w hq => by cases e <;> first | exact hq | exact (hq : False).elim) ?_
  refine wp_region_held (S := S₀) hm ?_
  rw [List.size_toArray]
  refine h a w.drew f (hd w s) (h0 _ (hd w s)) _ (fun c a d v w hq => hq) fun g' S' a' w' hq hf hs => ?_
  exact ⟨g', S', hf, hs, hq⟩
end
end Go.Proofs.YtcgmhlakihjbkaaGreatDoor.W
