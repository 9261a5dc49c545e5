/- Our own calculus, fourth part: memory, calls, results. A general text: it names no program. -/
import Derived.Test.YtcgmhlakihjbkaaGreatDoorLibC
set_option linter.unusedVariables false
set_option linter.unusedSimpArgs false
namespace Go.Proofs.YtcgmhlakihjbkaaGreatDoor.W
open Go Go.RowKit

/-! ### cells in a row -/
/-- from place k on these cells stand at this address -/
def RowAt (H : Heap) (ao : Option Addr) (k : Nat) (cs : List Value) : Prop := ∀ j u, cs[j]? = some u → ∃ a, ao = some a ∧ cellH H (a.add (k + j)) = some u
section
variable {H H' : Heap} {ao : Option Addr} {k : Nat} {cs : List Value}
theorem RowAt.mono (h : RowAt H ao k cs) (l : Le H H') : RowAt H' ao k cs := fun j u e => let ⟨a, h1, h2⟩ := h j u e; ⟨a, h1, cellH_mono l h2⟩
theorem RowAt.one (h : RowAt H ao k cs) {off : Nat} {v : Value} (e : cs[off]? = some v) : RowAt H ao (k + off) [v] := fun j u hu => by
  cases j with
  | zero => simp at hu; subst hu; obtain ⟨a, h1, h2⟩ := h off v e; exact ⟨a, h1, h2⟩
  | succ j => simp at hu
theorem RowAt.part (h : RowAt H ao k cs) (off m : Nat) : RowAt H ao (k + off) ((cs.drop off).take m) := fun j u hu => by
  rw [List.getElem?_take] at hu
  split at hu
  · rw [List.getElem?_drop] at hu
    obtain ⟨a, h1, h2⟩ := h (off + j) u hu
    exact ⟨a, h1, by rw [Nat.add_assoc]; exact h2⟩
  · cases hu
theorem RowAt.addr (h : RowAt H ao k cs) (hne : cs ≠ []) : ∃ a, ao = some a := by
  cases cs with
  | nil => exact absurd rfl hne
  | cons u r => obtain ⟨a, h1, _⟩ := h 0 u rfl; exact ⟨a, h1⟩
end

/-- How a value of a type lies in cells: so many, and when cells show it. -/
structure Enc (α : Type) where
  size : Nat
  rep : Heap → α → List Value → Prop
  len : ∀ {H x cs}, rep H x cs → cs.length = size
  mono : ∀ {H H' x cs}, Le H H' → rep H x cs → rep H' x cs
/-- one whose cells the value alone tells -/
def Enc.flat {α : Type} (size : Nat) (f : α → List Value) (h : ∀ x, (f x).length = size) : Enc α where
  size := size
  rep := fun _ x cs => cs = f x
  len := fun e => by rw [e]; exact h _
  mono := fun _ e => e
def encInt (k : IntKind) : Enc Int := Enc.flat 1 (fun x => [.int k x]) (fun _ => rfl)
def encBool : Enc Bool := Enc.flat 1 (fun x => [.bool x]) (fun _ => rfl)
def encStr : Enc (List UInt8) := Enc.flat 1 (fun x => [mkS x]) (fun _ => rfl)
/-- A list in a row. -/
def SL {α : Type} (H : Heap) (E : Enc α) (ao : Option Addr) (l : List α) : Prop := ∀ i x, l[i]? = some x → ∃ cs, E.rep H x cs ∧ RowAt H ao (i * E.size) cs
section
variable {α : Type} {H H' : Heap} {E : Enc α} {ao : Option Addr} {l : List α}
theorem SL.nil (H : Heap) (E : Enc α) (ao : Option Addr) : SL H E ao [] := fun _ _ h => by simp at h
theorem SL.mono (h : SL H E ao l) (k : Le H H') : SL H' E ao l := fun i x e => let ⟨cs, h1, h2⟩ := h i x e; ⟨cs, E.mono k h1, h2.mono k⟩
/-- the element at a place, none outside -/
def at? {α : Type} (l : List α) (i : Int) : Option α := if 0 ≤ i then l[i.toNat]? else none
theorem at?_some {l : List α} {i : Int} {x : α} (h : at? l i = some x) : 0 ≤ i ∧ i < l.length ∧ l[i.toNat]? = some x := by
  unfold at? at h
  split at h
  · rename_i h0
    have := (List.getElem?_eq_some_iff.1 h).1
    exact ⟨h0, by omega, h⟩
  · cases h
theorem SL.get (h : SL H E ao l) {i : Int} {x : α} (e : at? l i = some x) (hs : 0 < E.size) : 0 ≤ i ∧ i < l.length ∧ (∃ a, ao = some a) ∧ ∃ cs, E.rep H x cs ∧ RowAt H ao (i.toNat * E.size) cs := by
  obtain ⟨h0, h1, h2⟩ := at?_some e
  obtain ⟨cs, h3, h4⟩ := h _ _ h2
  refine ⟨h0, h1, h4.addr ?_, cs, h3, h4⟩
  intro hn
  have := E.len h3
  rw [hn] at this
  simp at this
  omega
end

/-- a slice's part -/
def part? {α : Type} (l : List α) (i j : Int) : Option (List α) := if 0 ≤ i ∧ i ≤ j ∧ j ≤ l.length then some ((l.drop i.toNat).take (j.toNat - i.toNat)) else none
theorem part?_some {α : Type} {l r : List α} {i j : Int} (h : part? l i j = some r) : 0 ≤ i ∧ i ≤ j ∧ j ≤ l.length ∧ r = (l.drop i.toNat).take (j.toNat - i.toNat) := by
  unfold part? at h
  split at h
  · rename_i h0; cases h; exact ⟨h0.1, h0.2.1, h0.2.2, rfl⟩
  · cases h

section
variable {P : Program} {n : Nat} {o : Oper} {g : Frm} {S : Pred} {w0 : World} {ms : List Ent} {H0 H : Heap}

/-! ### loads -/
theorem ov_load_box {T T' : TypeId} {x : Operand} {b k i : Nat} {cs : List Value} {v : Value} (hA : ∀ w, (isAgg T).run P w = .ok false w) (h : o.op = .load T x) (hx : ev g x = some (pB b k)) (hi : ms[i]? = some (.blk b T' cs)) (hv : cs[k]? = some v) :
    OV P n o g (St w0 H0 ms H) v := fun a w f s => by
  have hs := s.sat _ (List.mem_of_getElem? hi)
  have hc : w.cell? ⟨b, k, none⟩ = some v := by
    simp only [Ent.sat] at hs
    simp [World.cell?, hs, hv]
  simp [execOp, h, f.eval hx, pB, Instr.loadAt, Instr.sureAddr, loadVar, hA, hc]
theorem ov_load_boxes {T T' : TypeId} {x : Operand} {b k i : Nat} {cs vs : List Value} {sz : Nat} (hA : ∀ w, (isAgg T).run P w = .ok true w) (hS : ∀ w, (sizeOf T).run P w = .ok sz w) (h : o.op = .load T x) (hx : ev g x = some (pB b k)) (hi : ms[i]? = some (.blk b T' cs))
    (hl : vs.length = sz) (hv : ∀ j u, vs[j]? = some u → cs[k + j]? = some u) : OV P n o g (St w0 H0 ms H) (.agg vs.toArray) := fun a w f s => by
  have hs := s.sat _ (List.mem_of_getElem? hi)
  have hc : ∀ j u, vs[j]? = some u → w.cell? ((⟨b, k, none⟩ : Addr).add j) = some u := fun j u e => by
    simp only [Ent.sat] at hs
    rw [addr_add]
    simp [World.cell?, hs, hv j u e]
  have hl' := run_loadCells_list (P := P) (w := w) ⟨b, k, none⟩ vs hc
  subst hl
  simp [execOp, h, f.eval hx, pB, Instr.loadAt, Instr.sureAddr, loadVar, hA, hS, hl']
/-- a whole box -/
theorem ov_load_whole {T T' : TypeId} {x : Operand} {b i : Nat} {cs : List Value} {sz : Nat} (hA : ∀ w, (isAgg T).run P w = .ok true w) (hS : ∀ w, (sizeOf T).run P w = .ok sz w) (h : o.op = .load T x) (hx : ev g x = some (pB b 0)) (hi : ms[i]? = some (.blk b T' cs))
    (hl : cs.length = sz) : OV P n o g (St w0 H0 ms H) (.agg cs.toArray) := ov_load_boxes hA hS h hx hi hl (fun j u e => by rw [Nat.zero_add]; exact e)
theorem ov_load_elem {T : TypeId} {x : Operand} {k : Nat} {ao : Option Addr} {v : Value} (hA : ∀ w, (isAgg T).run P w = .ok false w) (h : o.op = .load T x) (hx : ev g x = some (pE ao k)) (hr : RowAt H ao k [v]) :
    OV P n o g (St w0 H0 ms H) v := fun a w f s => by
  obtain ⟨ad, rfl, hc⟩ := hr 0 v rfl
  have hc' := cellH_world s.hold hc
  simp only [Nat.add_zero] at hc'
  simp [execOp, h, f.eval hx, pE, Instr.loadAt, Instr.sureAddr, loadVar, hA, hc']
theorem ov_load_elems {T : TypeId} {x : Operand} {k : Nat} {ao : Option Addr} {vs : List Value} {sz : Nat} (hA : ∀ w, (isAgg T).run P w = .ok true w) (hS : ∀ w, (sizeOf T).run P w = .ok sz w) (h : o.op = .load T x) (hx : ev g x = some (pE ao k)) (hl : vs.length = sz) (hr : RowAt H ao k vs) (ha : ∃ a, ao = some a) :
    OV P n o g (St w0 H0 ms H) (.agg vs.toArray) := fun a w f s => by
  obtain ⟨ad, rfl⟩ := ha
  have hc : ∀ j u, vs[j]? = some u → w.cell? ((ad.add k).add j) = some u := fun j u e => by
    obtain ⟨ad', e1, hc⟩ := hr j u e
    cases e1
    rw [add_add]
    exact cellH_world s.hold hc
  have hl' := run_loadCells_list (P := P) (w := w) (ad.add k) vs hc
  subst hl
  simp [execOp, h, f.eval hx, pE, Instr.loadAt, Instr.sureAddr, loadVar, hA, hS, hl']
theorem part_of {cs vs : List Value} {k : Nat} (h : (cs.drop k).take vs.length = vs) : ∀ j u, vs[j]? = some u → cs[k + j]? = some u := fun j u e => by
  rw [← h, List.getElem?_take] at e
  split at e
  · rwa [List.getElem?_drop] at e
  · cases e
/-! ### parts of slices -/
theorem sl_cut {α : Type} {E : Enc α} {ao : Option Addr} {l : List α} {c i j : Nat} (h : SL H E ao l) (hc : l.length ≤ c) (hij : i ≤ j) (hj : j ≤ l.length) :
    SL H E (if c = i then ao else ao.map (·.add (i * E.size))) ((l.drop i).take (j - i)) := fun t x e => by
  rw [List.getElem?_take] at e
  split at e
  · rename_i hlt
    rw [List.getElem?_drop] at e
    obtain ⟨cs, h1, h2⟩ := h _ _ e
    refine ⟨cs, h1, fun q u hu => ?_⟩
    obtain ⟨a, h3, h4⟩ := h2 q u hu
    have hne : ¬ c = i := by omega
    rw [if_neg hne]
    subst h3
    refine ⟨a.add (i * E.size), rfl, ?_⟩
    rw [add_add]
    rw [show i * E.size + (t * E.size + q) = (i + t) * E.size + q from by rw [Nat.add_mul]; omega]
    exact h4
  · cases e
theorem run_sliceBounds_lh {P : Program} {w : World} {k k' : IntKind} {i j : Int} {m c : Nat} (h0 : 0 ≤ i) (h1 : i ≤ j) (h2 : j ≤ c) : (Instr.sliceBounds true m c (some (.int k i)) (some (.int k' j)) none).run P w = .ok (i.toNat, j.toNat, c) w := by
  have h3 : 0 ≤ j := by omega
  have e1 := run_sliceBound (P := P) (w := w) k' j c .sliceAcap h3 h2
  have e2 := run_sliceBound (P := P) (w := w) k i j.toNat .sliceB h0 (by omega)
  simp [Instr.sliceBounds, e1, e2]
theorem run_sliceBounds_l {P : Program} {w : World} {k : IntKind} {i : Int} {m c : Nat} (h0 : 0 ≤ i) (h1 : i ≤ m) : (Instr.sliceBounds true m c (some (.int k i)) none none).run P w = .ok (i.toNat, m, c) w := by
  simp [Instr.sliceBounds, run_sliceBound, h0, h1]
theorem run_sliceBounds_h {P : Program} {w : World} {k' : IntKind} {j : Int} {m c : Nat} (h0 : 0 ≤ j) (h2 : j ≤ c) : (Instr.sliceBounds true m c none (some (.int k' j)) none).run P w = .ok (0, j.toNat, c) w := by
  simp [Instr.sliceBounds, run_sliceBound, h0, h2]
/-! ### new blocks, stores -/
theorem os_alloc {T : TypeId} {z : Value} {cs : List Value} {K : Value → Pred → Prop} (hz : ∀ w, (zeroValue T).run P w = .ok z w) (hc : z.cells = cs.toArray) (h : o.op = .alloc T) (k : ∀ b, K (pB b 0) (St w0 H0 (.blk b T cs :: ms) H)) : OS P n o g (St w0 H0 ms H) K := fun a w f s next Q hn => by
  have hr : (execOp a.eval o).run P w = .ok (.value (pB w.heap.size 0)) (w.alloc (.cells cs.toArray T)) := by
    simp [execOp, h, Instr.alloc, hz, newVar, newRow, hc, pB]
  unfold Oper.wp
  rw [hr]
  exact hn _ _ _ (k _) (s.alloc T cs)
theorem os_box {T : TypeId} {x : Operand} {v : Value} {cs : List Value} {K : Value → Pred → Prop} (h : o.op = .box T x) (hx : ev g x = some v) (hc : v.cells = cs.toArray) (k : ∀ b, K (pB b 0) (St w0 H0 (.blk b T cs :: ms) H)) : OS P n o g (St w0 H0 ms H) K := fun a w f s next Q hn => by
  have hr : (execOp a.eval o).run P w = .ok (.value (pB w.heap.size 0)) (w.alloc (.cells cs.toArray T)) := by
    simp [execOp, h, f.eval hx, Instr.box, newVar, newRow, hc, pB]
  unfold Oper.wp
  rw [hr]
  exact hn _ _ _ (k _) (s.alloc T cs)
def spl (cs : List Value) (off : Nat) (vs : List Value) : List Value := cs.take off ++ vs ++ cs.drop (off + vs.length)
theorem grownBy_setRow (w : World) (b : Nat) (cs : Array Value) : w.grownBy (w.setRow b cs) (some b) :=
  ⟨rfl, rfl, rfl, by simp, fun k _ hk => setRow_other w b k _ (fun e => hk (by rw [e]))⟩
theorem os_store {T T' : TypeId} {x y : Operand} {b off i sz : Nat} {v : Value} {cs cs' vs : List Value} {K : Value → Pred → Prop} (hS : ∀ w, (sizeOf T).run P w = .ok sz w) (h : o.op = .store T x y) (hx : ev g x = some (pB b off)) (hy : ev g y = some v)
    (hi : ms[i]? = some (.blk b T' cs)) (hv : v.cells = vs.toArray) (hl : vs.length = sz) (hle : Nat.ble (off + vs.length) cs.length = true) (h1 : vs.all (·.oneCell') = true) (hcs : spl cs off vs = cs') (k : K undef (St w0 H0 (ms.set i (.blk b T' cs')) H)) : OS P n o g (St w0 H0 ms H) K := fun a w f s next Q hn => by
  have hs := s.sat _ (List.mem_of_getElem? hi)
  have hle' : off + vs.length ≤ cs.length := Nat.le_of_ble_eq_true hle
  simp only [Ent.sat] at hs
  have hst := run_storeCells_at P b off T' vs 0 cs.toArray w hs (by simpa using hle') (by simpa [List.all_eq_true] using h1)
  subst hl
  subst hcs
  have hr : (execOp a.eval o).run P w = .ok .skip (w.setRow b (spl cs off vs).toArray) := by
    simp [execOp, h, f.eval hx, f.eval hy, pB, Instr.storeAt, Instr.sureAddr, storeVar, hS, hv]
    simpa [spl] using congrArg (fun r => r.andThen fun _ w' => Result.ok Next.skip w') hst
  unfold Oper.wp
  rw [hr]
  exact hn _ _ _ k (s.turn hi (grownBy_setRow w b _) (setRow_heap w b cs.toArray _ T' _ hs) (fun c hc => .inl hc))

/-! ### calls of functions -/
theorem oq_call {F : FuncId} {xs : Array Operand} {ats : Array TypeId} {vs : Array Value} {r : Value} (hc : ∀ args w, (callFunc F args).run P w = .ok (.enter F args) w) (h : o.op = .call { callee := .value (.func F), args := xs, argTypes := ats })
    (hx : ∀ a, Fits n g a → xs.map a.eval = vs) (hk : ∀ w, S w → Calls P F vs w fun e w' => e = .returned r ∧ S w') : OQ P n o g S r := fun a w f s => by
  have hr : (execOp a.eval o).run P w = .ok (.enter F vs) w := by
    simp [execOp, h, resolve, invoke, Act.eval, Deferred.ofValue, hx a f, hc]
  rw [hr]
  exact ⟨rfl, hk w s⟩
theorem os_call {F : FuncId} {xs : Array Operand} {ats : Array TypeId} {vs : Array Value} {K : Value → Pred → Prop} (hc : ∀ args w, (callFunc F args).run P w = .ok (.enter F args) w) (h : o.op = .call { callee := .value (.func F), args := xs, argTypes := ats })
    (hx : ∀ a, Fits n g a → xs.map a.eval = vs) (hk : ∀ w, S w → Calls P F vs w fun e w' => ∃ r S', e = .returned r ∧ K r S' ∧ S' w') : OS P n o g S K := fun a w f s next Q hn => by
  have hr : (execOp a.eval o).run P w = .ok (.enter F vs) w := by
    simp [execOp, h, resolve, invoke, Act.eval, Deferred.ofValue, hx a f, hc]
  unfold Oper.wp
  rw [hr]
  exact (hk w s).mono fun e w' ⟨r, S', he, hK, hS⟩ => by subst he; exact hn _ _ _ hK hS
end
/-- the operands of a call, one by one -/
def evs (g : Frm) : List Operand → Option (List Value)
  | [] => some []
  | x :: xs => match ev g x, evs g xs with
    | some v, some vs => some (v :: vs)
    | _, _ => none
theorem evs_map {n : Nat} {g : Frm} : ∀ {xs : List Operand} {vs : List Value}, evs g xs = some vs → ∀ a, Fits n g a → xs.map a.eval = vs
  | [], _, h, _, _ => by cases h; rfl
  | x :: xs, vs, h, a, f => by
    unfold evs at h
    cases hx : ev g x with
    | none => rw [hx] at h; cases h
    | some v =>
      cases hxs : evs g xs with
      | none => rw [hx, hxs] at h; cases h
      | some us =>
        rw [hx, hxs] at h
        cases h
        simp only [List.map_cons, f.eval hx, evs_map hxs a f]
theorem evs_arr {n : Nat} {g : Frm} {xs : List Operand} {vs : List Value} (h : evs g xs = some vs) : ∀ a, Fits n g a → xs.toArray.map a.eval = vs.toArray := fun a f => by
  rw [List.map_toArray, evs_map h a f]

/-! ### results that lie in boxes -/
/-- what a result variable holds -/
inductive Res (P : Program) (g : Frm) (S : Pred) : List ResultVar → List Value → Prop
  | nil : Res P g S [] []
  | tmp {t : Tmp} {v : Value} {rs : List ResultVar} {vs : List Value} (h : ev g (.tmp t) = some v) (k : Res P g S rs vs) : Res P g S (.tmp t :: rs) (v :: vs)
  | cell {t T : Nat} {b : Nat} {v : Value} {rs : List ResultVar} {vs : List Value} (h : ev g (.tmp t) = some (pB b 0)) (hv : ∀ w, S w → (loadVar T ⟨b, 0, none⟩).run P w = .ok v w) (k : Res P g S rs vs) : Res P g S (.cell t T :: rs) (v :: vs)
def tupled : List Value → Value
  | [v] => v
  | vs => .tuple vs.toArray
def oneRes (tmps : Array Value) : ResultVar → Sem Value
  | .tmp t => pure (tmps.getD t undef)
  | .cell a t => do loadVar t (← asAddr (tmps.getD a undef))
theorem Res.run {P : Program} {n : Nat} {g : Frm} {S : Pred} {rs : List ResultVar} {vs : List Value} (h : Res P g S rs vs) {a : Act} {w : World} (f : Fits n g a) (s : S w) : (rs.mapM (oneRes a.tmps)).run P w = .ok vs w := by
  induction h with
  | nil => rfl
  | tmp h k ih =>
    have := f.slots _ _ (ev_tmp h).2 (ev_tmp h).1
    simp [List.mapM_cons, oneRes, Array.getD_eq_getD_getElem?, this, ih]
  | cell h hv k ih =>
    have := f.slots _ _ (ev_tmp h).2 (ev_tmp h).1
    simp [List.mapM_cons, oneRes, Array.getD_eq_getD_getElem?, this, pB, asAddr, hv w s, ih]
theorem results_of {P : Program} {n : Nat} {fn : Func} {g : Frm} {S : Pred} {rs : List ResultVar} {vs : List Value} (hr : fn.results = rs.toArray) (h : Res P g S rs vs) : ∀ a w, Fits n g a → S w → (results fn a.tmps).run P w = .ok (tupled vs) w := fun a w f s => by
  have h1 := h.run f s
  have e : results fn a.tmps = (do
      let vs ← fn.results.mapM (oneRes a.tmps)
      pure (if h : vs.size = 1 then vs[0] else .tuple vs)) := by
    unfold results
    congr 1
  have h2 : (fn.results.mapM (oneRes a.tmps)).run P w = .ok vs.toArray w := by
    rw [hr, List.mapM_toArray, Sem.run_map, h1]
    rfl
  rw [e, Sem.run_bind, h2]
  simp only [Result.andThen_ok, Sem.run_pure, tupled]
  congr 1
  split
  · rename_i he
    match vs, he with
    | [v], _ => rfl
  · rename_i hne
    split
    · simp at hne
    · rfl
theorem retQ_ret {n : Nat} {fn : Func} {P : Program} {R : Value → World → Prop} {g : Frm} {S : Pred} {rs : List ResultVar} {vs : List Value} {v : Value} (hr : fn.results = rs.toArray) (h : Res P g S rs vs) (hv : tupled vs = v) (hR : ∀ w, S w → R v w) (hm : look g markKey = some (.bool false) := by rfl) : retQ n fn P R .ret g S :=
  ⟨tupled vs, S, .inl ⟨hm, fun _ s => s⟩, results_of hr h, by rw [hv]; exact hR⟩
theorem retQ_end {n : Nat} {fn : Func} {P : Program} {R : Value → World → Prop} {g : Frm} {S : Pred} {rs : List ResultVar} {vs : List Value} {v : Value} (hr : fn.results = rs.toArray) (h : Res P g S rs vs) (hv : tupled vs = v) (hR : ∀ w, S w → R v w) (hm : look g markKey = some (.bool false) := by rfl) : retQ n fn P R .normal g S :=
  ⟨tupled vs, S, .inl ⟨hm, fun _ s => s⟩, results_of hr h, by rw [hv]; exact hR⟩
theorem box_loads {P : Program} {w0 : World} {ms : List Ent} {H0 H : Heap} {T T' : TypeId} {b i sz : Nat} {cs : List Value} (hA : ∀ w, (isAgg T).run P w = .ok true w) (hS : ∀ w, (sizeOf T).run P w = .ok sz w) (hi : ms[i]? = some (.blk b T' cs)) (hl : cs.length = sz) :
    ∀ w, St w0 H0 ms H w → (loadVar T ⟨b, 0, none⟩).run P w = .ok (.agg cs.toArray) w := fun w s => by
  have hs := s.sat _ (List.mem_of_getElem? hi)
  have hc : ∀ j u, cs[j]? = some u → w.cell? ((⟨b, 0, none⟩ : Addr).add j) = some u := fun j u e => by
    simp only [Ent.sat] at hs
    rw [addr_add]
    simp [World.cell?, hs, e]
  have hl' := run_loadCells_list (P := P) (w := w) ⟨b, 0, none⟩ cs hc
  subst hl
  simp [loadVar, hA, hS, hl']
theorem box_load {P : Program} {w0 : World} {ms : List Ent} {H0 H : Heap} {T T' : TypeId} {b i : Nat} {v : Value} (hA : ∀ w, (isAgg T).run P w = .ok false w) (hi : ms[i]? = some (.blk b T' [v])) :
    ∀ w, St w0 H0 ms H w → (loadVar T ⟨b, 0, none⟩).run P w = .ok v w := fun w s => by
  have hs := s.sat _ (List.mem_of_getElem? hi)
  have hc : w.cell? ⟨b, 0, none⟩ = some v := by
    simp only [Ent.sat] at hs
    simp [World.cell?, hs]
  simp [loadVar, hA, hc]

/-! ### aggregates, new rows -/
section
variable {P : Program} {n : Nat} {o : Oper} {g : Frm} {S : Pred} {w0 : World} {ms : List Ent} {H0 H : Heap}
/-- parts by their places -/
def evp (g : Frm) : List (Nat × Operand) → Option (List (Nat × Value))
  | [] => some []
  | (i, x) :: xs => match ev g x, evp g xs with
    | some v, some vs => some ((i, v) :: vs)
    | _, _ => none
theorem evp_map : ∀ {xs : List (Nat × Operand)} {vs : List (Nat × Value)}, evp g xs = some vs → ∀ a, Fits n g a → xs.map (fun p => (p.1, a.eval p.2)) = vs
  | [], _, h, _, _ => by cases h; rfl
  | (i, x) :: xs, vs, h, a, f => by
    unfold evp at h
    cases hx : ev g x with
    | none => rw [hx] at h; cases h
    | some v =>
      cases hxs : evp g xs with
      | none => rw [hx, hxs] at h; cases h
      | some us =>
        rw [hx, hxs] at h
        cases h
        simp only [List.map_cons, f.eval hx, evp_map hxs a f]
theorem ov_build {T : TypeId} {ps : List (Nat × Operand)} {vs : List (Nat × Value)} {r : Value} (h : o.op = .build T ps.toArray) (hp : evp g ps = some vs) (hr : ∀ w, (Instr.build T vs.toArray).run P w = .ok r w) : OV P n o g S r := fun a w f _ => by
  have e : ps.toArray.map (fun (p : Nat × Operand) => (p.1, a.eval p.2)) = vs.toArray := by rw [List.map_toArray, evp_map hp a f]
  have e' : (ps.toArray.map fun x => match x with | (i, x) => (i, a.eval x)) = vs.toArray := e
  simp only [execOp, h, e']
  simp [hr]
theorem ov_field {T : TypeId} {x : Operand} {i : Nat} {cs : List Value} {r : Value} (h : o.op = .field T x i) (hx : ev g x = some (.agg cs.toArray)) (hr : ∀ w, (Instr.field T (.agg cs.toArray) i).run P w = .ok r w) : OV P n o g S r := fun a w f _ => by
  simp [execOp, h, f.eval hx, hr]
/-- a row of known elements, made anew -/
theorem os_buildSlice {T E : TypeId} {m sz : Nat} {ps : List (Nat × Operand)} {vs : List (Nat × Value)} {cs : List Value} {K : Value → Pred → Prop} (h : o.op = .buildSlice T m ps.toArray) (hp : evp g ps = some vs)
    (hr : ∀ w, (Instr.buildSlice T m vs.toArray).run P w = .ok (.slice (some ⟨w.heap.size, 0, none⟩) m m) (w.alloc (.cells cs.toArray E))) (hl : cs.length = m * sz) (hm : m ≤ maxLen)
    (k : ∀ b, K (.slice (some ⟨b, 0, none⟩) m m) (St w0 H0 (.row E sz m (.slice (some ⟨b, 0, none⟩) m m) cs :: ms) H)) : OS P n o g (St w0 H0 ms H) K := fun a w f s next Q hn => by
  have e : ps.toArray.map (fun (p : Nat × Operand) => (p.1, a.eval p.2)) = vs.toArray := by rw [List.map_toArray, evp_map hp a f]
  have e' : (ps.toArray.map fun x => match x with | (i, x) => (i, a.eval x)) = vs.toArray := e
  have hr' : (execOp a.eval o).run P w = .ok (.value (.slice (some ⟨w.heap.size, 0, none⟩) m m)) (w.alloc (.cells cs.toArray E)) := by
    simp only [execOp, h, e']
    simp [hr]
  unfold Oper.wp
  rw [hr']
  refine hn _ _ _ (k w.heap.size) (s.push ((Below.refl _ _).alloc (Nat.le_refl _) _) ?_ (fun b hb => by simp [Ent.at, Value.ownBlock] at hb; omega))
  exact ⟨hl, .inr ⟨w.heap.size, m, cs.toArray, rfl, s.below.size, heap_alloc_new w _, Nat.le_refl _, hm, by simpa using hl, by simp [← hl]⟩⟩

/-- where the row lies behind an append: where it lay, or in a new block -/
theorem append_block {w : World} {base : Nat} {T E ty : TypeId} {i0 : TypeInfo} {z v v' : Value} {w' : World} {m k c : Nat} {ad : Addr} {xs ys : List Value} (hT : P.underlying T = some (.slice E)) (hi : P.info? E = some i0) (hz : i0.zero = some z)
    (hv : w.ownsRow base E i0.size v m xs) (hl : ys.length = k * i0.size) (hy : ∀ t u, ys[t]? = some u → w.cell? (ad.add t) = some u) (h1 : ∀ u ∈ ys, u.oneCell' = true)
    (hm : m + k ≤ maxLen) (hb : (m + k) * i0.bytes ≤ 140737488355328) (hnil : v' = .slice none 0 0 ↔ v = .slice none 0 0 ∧ k = 0)
    (hr : (Builtin.append_ #[T, T] ty #[v, .slice (some ad) k c]).run P w = .ok v' w') : ∀ d, v'.ownBlock = some d → v.ownBlock = some d ∨ w.heap.size ≤ d := fun d hd => by
  unfold maxLen at hm
  have hcells := fun b (h : v.ownBlock = some b) => hv.cells (g := b) h
  rcases hv.2 with ⟨rfl, rfl⟩ | ⟨b, cap, cur, rfl, _, hh, hle, _, hcs, htake⟩
  · by_cases hk : k = 0
    · rw [hnil.2 ⟨rfl, hk⟩] at hd
      simp [Value.ownBlock] at hd
    · have := run_append_nil (P := P) w T ty E i0 z hT hi hz ad k c ys hl hy (by omega) (by omega) (by simp only [Nat.zero_add] at hb; omega)
      rw [this] at hr
      injection hr with e1 _
      subst e1
      simp [Value.ownBlock] at hd
      right; omega
  · by_cases hroom : m + k ≤ cap
    · have := run_append_room (P := P) w T ty E i0 hT hi b m cap cur hh ad k c ys hl hy h1 hroom (by rw [hl, hcs, ← Nat.add_mul]; exact Nat.mul_le_mul_right _ hroom)
      rw [this] at hr
      injection hr with e1 _
      subst e1
      exact .inl hd
    · have := run_append_grow (P := P) w T ty E i0 z hT hi hz ⟨b, 0, none⟩ m cap xs hv.1 (hcells b rfl) ad k c ys hl hy (by omega) (by omega) (growslice_fits (by omega) hb)
      rw [this] at hr
      injection hr with e1 _
      subst e1
      simp [Value.ownBlock] at hd
      right; omega
/-- append of what a row of the call's own holds to a row of the call's own -/
theorem os_append {T E : TypeId} {x y : Operand} {i j m k sz bytes c : Nat} {z v : Value} {b : Nat} {xs ys : List Value} {K : Value → Pred → Prop} (hT : P.underlying T = some (.slice E)) (hI : (P.info? E).map (fun i => (i.zero, i.size, i.bytes)) = some (some z, sz, bytes)) (hz : z.cells.size = sz) (hsz : 0 < sz)
    (h : o.op = .call { callee := .builtin .append, args := #[x, y], argTypes := #[T, T] }) (hx : ev g x = some v) (hy : ev g y = some (.slice (some ⟨b, 0, none⟩) k c)) (hi : ms[i]? = some (.row E sz m v xs)) (hj : ms[j]? = some (.row E sz k (.slice (some ⟨b, 0, none⟩) k c) ys)) (h1 : ys.all (·.oneCell') = true)
    (hb : (m + k) * bytes ≤ 140737488355328) (hm : m + k ≤ maxLen)
    (kk : ∀ v', (∃ ao cap, v' = .slice ao (m + k) cap) → K v' (St w0 H0 (ms.set i (.row E sz (m + k) v' (xs ++ ys))) H)) : OS P n o g (St w0 H0 ms H) K := fun a w f s next Q hn => by
  obtain ⟨i0, hi0, hz0, hz1, hz2⟩ := info_parts hI
  have si := s.sat _ (List.mem_of_getElem? hi)
  have sj := s.sat _ (List.mem_of_getElem? hj)
  have hys : ∀ t u, ys[t]? = some u → w.cell? ((⟨b, 0, none⟩ : Addr).add t) = some u := World.ownsRow.cells sj rfl
  obtain ⟨v', w', hr, hown, hgr, hnil⟩ := run_append_own (P := P) w w0.heap.size T o.type E i0 z sz bytes hT hi0 hz0 hz1 hz2 hz hsz v m xs si ⟨b, 0, none⟩ k c ys sj.1 hys (by simpa [List.all_eq_true] using h1) hm hb s.below.size
  have hr' : (execOp a.eval o).run P w = .ok (.value v') w' := by
    simp [execOp, h, resolve, invoke, builtin, f.eval hx, f.eval hy, hr]
  unfold Oper.wp
  rw [hr']
  have hv : ∃ ao cap, v' = .slice ao (m + k) cap := by
    rcases hown.2 with ⟨e1, e2⟩ | ⟨b', c', _, e1, _⟩
    · exact ⟨none, 0, by rw [e1, e2]⟩
    · exact ⟨_, c', e1⟩
  refine hn _ _ _ (kk v' hv) (s.turn hi hgr hown ?_)
  subst hz1
  subst hz2
  exact append_block hT hi0 hz0 si sj.1 hys (by simpa [List.all_eq_true] using h1) hm hb hnil hr
end
end Go.Proofs.YtcgmhlakihjbkaaGreatDoor.W
