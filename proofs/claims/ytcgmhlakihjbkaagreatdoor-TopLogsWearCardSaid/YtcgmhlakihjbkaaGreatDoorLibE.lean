/- Our own calculus, fifth part: contracts; rows of the call's own as lists; the plain functions' own words. A general text: it names no program. -/
import Derived.Test.YtcgmhlakihjbkaaGreatDoorLibD
set_option linter.unusedVariables false
namespace Go.Proofs.YtcgmhlakihjbkaaGreatDoor.W
open Go Go.RowKit

/-! ### the words of the plain functions -/
theorem bind_some {α β : Type} {m : Option α} {f : α → Option β} {r : β} (h : m.bind f = some r) : ∃ x, m = some x ∧ f x = some r := by
  cases m with
  | none => cases h
  | some x => exact ⟨x, rfl, h⟩
def guardO (c : Bool) : Option Unit := if c = true then some () else none
theorem guardO_some {c : Bool} {u : Unit} (h : guardO c = some u) : c = true := by
  unfold guardO at h
  split at h
  · assumption
  · cases h
def joinK {α β : Type} (k : α) (f : α → β) : β := f k
theorem joinK_some {α β : Type} {k : α} {f : α → Option β} {r : β} (h : joinK k f = some r) : ∃ k', k' = k ∧ f k' = some r := ⟨k, rfl, h⟩
theorem ite_t {α : Type} {c : Bool} {x y : Option α} {r : α} (h : c = true) (hm : (if c = true then x else y) = some r) : x = some r := by rw [if_pos h] at hm; exact hm
theorem ite_f {α : Type} {c : Bool} {x y : Option α} {r : α} (h : c = false) (hm : (if c = true then x else y) = some r) : y = some r := by rw [if_neg (by rw [h]; decide)] at hm; exact hm
def catO (s t : List UInt8) : Option (List UInt8) := if s.length + t.length ≤ maxS then some (s ++ t) else none
theorem catO_some {s t r : List UInt8} (h : catO s t = some r) : s.length + t.length ≤ maxS ∧ r = s ++ t := by
  unfold catO at h
  split at h
  · rename_i h0; cases h; exact ⟨h0, rfl⟩
  · cases h
/-- a list with one element more, if memory bears it -/
def appO {α : Type} (bytes : Nat) (l r : List α) : Option (List α) := if (l.length + r.length) * bytes ≤ 140737488355328 ∧ l.length + r.length ≤ maxLen then some (l ++ r) else none
theorem appO_some {α : Type} {bytes : Nat} {l r x : List α} (h : appO bytes l r = some x) : ((l.length + r.length) * bytes ≤ 140737488355328 ∧ l.length + r.length ≤ maxLen) ∧ x = l ++ r := by
  unfold appO at h
  split at h
  · rename_i h0; cases h; exact ⟨h0, rfl⟩
  · cases h
theorem none_some {α : Type} {r : α} (h : (none : Option α) = some r) : False := by cases h
/-! ### rows of the call's own -/
def RL {α : Type} (H : Heap) (E : Enc α) (l : List α) (xs : List Value) : Prop := xs.length = l.length * E.size ∧ ∀ i x, l[i]? = some x → E.rep H x ((xs.drop (i * E.size)).take E.size)
section
variable {α : Type} {H H' : Heap} {E : Enc α} {l l' : List α} {xs ys cs : List Value}
theorem RL.nil (H : Heap) (E : Enc α) : RL H E [] [] := ⟨by simp, fun i x h => by simp at h⟩
theorem RL.mono (h : RL H E l xs) (k : Le H H') : RL H' E l xs := ⟨h.1, fun i x e => E.mono k (h.2 i x e)⟩
theorem RL.one {x : α} (h : E.rep H x cs) : RL H E [x] cs := by
  have hl := E.len h
  refine ⟨by simp [hl], fun i y e => ?_⟩
  cases i with
  | zero =>
    simp at e
    subst e
    rw [Nat.zero_mul, List.drop_zero, ← hl, List.take_length]
    exact h
  | succ i => simp at e
theorem RL.append (h : RL H E l xs) (k : RL H E l' ys) : RL H E (l ++ l') (xs ++ ys) := by
  refine ⟨by rw [List.length_append, List.length_append, h.1, k.1, Nat.add_mul], fun i x e => ?_⟩
  rcases Nat.lt_or_ge i l.length with hi | hi
  · rw [List.getElem?_append_left hi] at e
    have h1 := h.2 i x e
    have hle : i * E.size + E.size ≤ xs.length := by rw [h.1, ← Nat.succ_mul]; exact Nat.mul_le_mul_right _ hi
    rw [List.drop_append_of_le_length (by omega), List.take_append_of_le_length (by simp; omega)]
    exact h1
  · rw [List.getElem?_append_right hi] at e
    have h1 := k.2 _ x e
    have hle : xs.length ≤ i * E.size := by rw [h.1]; exact Nat.mul_le_mul_right _ hi
    have e1 : (xs ++ ys).drop (i * E.size) = ys.drop ((i - l.length) * E.size) := by
      rw [List.drop_append, List.drop_eq_nil_of_le hle, List.nil_append, h.1, Nat.sub_mul]
    rw [e1]
    exact h1
theorem RL.flat {size : Nat} {f : α → List Value} {hf : ∀ x, (f x).length = size} (l : List α) : RL H (Enc.flat size f hf) l (l.flatMap f) := by
  induction l with
  | nil => exact RL.nil _ _
  | cons x l ih =>
    have h1 : RL H (Enc.flat size f hf) [x] (f x) := RL.one rfl
    exact h1.append ih
theorem RL.row (h : RL H E l xs) {ao : Option Addr} (k : RowAt H ao 0 xs) : SL H E ao l := fun i x e => by
  refine ⟨_, h.2 i x e, ?_⟩
  have := k.part (i * E.size) E.size
  rw [Nat.zero_add] at this
  exact this
end

section
variable {w0 w : World} {H0 H : Heap} {ms : List Ent}
/-- What a function may hand back: what came in, and what is new. -/
theorem St.le_newer (h : St w0 H0 ms H w) : Le H (newer w0 w H0) := fun b o e => by
  unfold newer
  split
  · rename_i hlt; exact h.old b o e hlt
  · exact h.hold b o e
theorem row_at {T : TypeId} {sz m : Nat} {v : Value} {xs : List Value} {base : Nat} {H : Heap} (h : w.ownsRow base T sz v m xs) (hH : ∀ b, v.ownBlock = some b → H b = w.heap[b]?) : ∃ ao cap, v = .slice ao m cap ∧ m ≤ cap ∧ RowAt H ao 0 xs := by
  have hc := fun b (hb : v.ownBlock = some b) => h.cells (g := b) hb
  rcases h.2 with ⟨rfl, rfl⟩ | ⟨b, cap, cur, rfl, hb, hg, hle, _⟩
  · refine ⟨none, 0, rfl, Nat.le_refl _, fun j u e => ?_⟩
    have : xs = [] := List.eq_nil_of_length_eq_zero (by simpa using h.1)
    rw [this] at e
    simp at e
  · refine ⟨some ⟨b, 0, none⟩, cap, rfl, hle, fun j u e => ⟨⟨b, 0, none⟩, rfl, ?_⟩⟩
    have h1 := hc b rfl j u e
    rw [Nat.zero_add]
    rw [addr_add] at h1 ⊢
    unfold World.cell? at h1
    unfold cellH
    rw [hH b rfl]
    exact h1
theorem row_slice {T : TypeId} {sz m cap : Nat} {ao : Option Addr} {xs : List Value} {base : Nat} {H : Heap} (h : w.ownsRow base T sz (.slice ao m cap) m xs) (hH : ∀ b, (Value.slice ao m cap).ownBlock = some b → H b = w.heap[b]?) : m ≤ cap ∧ RowAt H ao 0 xs := by
  obtain ⟨ao', cap', e1, e2, e3⟩ := row_at h hH
  injection e1 with e1 e4 e5
  subst e1
  subst e5
  exact ⟨e2, e3⟩
/-- a row of the call's own, handed back -/
theorem St.ret_row {α : Type} {E : Enc α} {l : List α} (h : St w0 H0 ms H w) {i : Nat} {T : TypeId} {sz cap : Nat} {ao : Option Addr} {xs : List Value} (hi : ms[i]? = some (.row T sz l.length (.slice ao l.length cap) xs)) (hR : RL H E l xs) :
    SL (newer w0 w H0) E ao l ∧ l.length ≤ cap := by
  have hm := List.mem_of_getElem? hi
  obtain ⟨e2, e3⟩ := row_slice (H := newer w0 w H0) (h.sat _ hm) (fun b hb => by unfold newer; rw [if_neg (by have := (h.own _ hm b hb).1; omega)])
  exact ⟨(hR.mono h.le_newer).row e3, e2⟩
/-- the same, one among the others: held for good from now on -/
theorem St.row_held {α : Type} {E : Enc α} {l : List α} {T : TypeId} {sz cap : Nat} {ao : Option Addr} {xs : List Value} (h : St w0 H0 (.row T sz l.length (.slice ao l.length cap) xs :: ms) H w) (hR : RL H E l xs) :
    ∃ H', l.length ≤ cap ∧ Le H H' ∧ SL H' E ao l ∧ St w0 H0 ms H' w := by
  have hs := h.sat _ (List.mem_cons_self ..)
  obtain ⟨e2, e3⟩ := row_slice (H := fun b => if (Ent.row T sz l.length (.slice ao l.length cap) xs).at = some b then w.heap[b]? else H b) hs (fun b hb => if_pos hb)
  exact ⟨_, e2, freeze_le h, (hR.mono (freeze_le h)).row e3, h.freeze⟩
theorem St.nilrow (h : St w0 H0 ms H w) (T : TypeId) (sz : Nat) : St w0 H0 (.row T sz 0 (.slice none 0 0) [] :: ms) H w :=
  h.push (Below.refl _ _) (World.ownsRow_nil w _ T sz) (fun b hb => by simp [Ent.at, Value.ownBlock] at hb)
end

/-- append, said of lists -/
theorem os_app {α : Type} {P : Program} {n : Nat} {o : Oper} {g : Frm} {w0 : World} {H0 H : Heap} {ms : List Ent} {En : Enc α} {l r x : List α} {T E : TypeId} {p q : Operand} {i j c bytes : Nat} {z v : Value} {b : Nat} {xs ys : List Value} {K : Value → Pred → Prop} (hT : P.underlying T = some (.slice E)) (hI : (P.info? E).map (fun i => (i.zero, i.size, i.bytes)) = some (some z, En.size, bytes)) (hz : z.cells.size = En.size) (hsz : 0 < En.size)
    (h : o.op = .call { callee := .builtin .append, args := #[p, q], argTypes := #[T, T] }) (hx : ev g p = some v) (hy : ev g q = some (.slice (some ⟨b, 0, none⟩) r.length c)) (hi : ms[i]? = some (.row E En.size l.length v xs)) (hj : ms[j]? = some (.row E En.size r.length (.slice (some ⟨b, 0, none⟩) r.length c) ys)) (h1 : ys.all (·.oneCell') = true)
    (hR : RL H En l xs) (hR' : RL H En r ys) (hm : appO bytes l r = some x)
    (kk : ∀ ao cap, RL H En (l ++ r) (xs ++ ys) → K (.slice ao (l ++ r).length cap) (St w0 H0 (ms.set i (.row E En.size (l ++ r).length (.slice ao (l ++ r).length cap) (xs ++ ys))) H)) : OS P n o g (St w0 H0 ms H) K :=
  fun a w f s next Q hn => os_append (ms := ms) (K := fun v' S' => ∃ ao cap, v' = .slice ao (l ++ r).length cap ∧ S' = St w0 H0 (ms.set i (.row E En.size (l ++ r).length (.slice ao (l ++ r).length cap) (xs ++ ys))) H) hT hI hz hsz h hx hy hi hj h1 (appO_some hm).1.1 (appO_some hm).1.2 (fun v' hv => by
    obtain ⟨ao, cap, rfl⟩ := hv
    rw [← List.length_append]
    exact ⟨ao, cap, rfl, rfl⟩) a w f s next Q (fun v' S' w' ⟨ao, cap, e1, e2⟩ s' => by subst e1; subst e2; exact hn _ _ w' (kk ao cap (hR.append hR')) s')
theorem ov_sadd' {P : Program} {n : Nat} {o : Oper} {g : Frm} {S : Pred} {T T' : TypeId} {x y : Operand} {s t r : List UInt8} (hm : catO s t = some r) (h : o.op = .binOp .add T x y T') (hx : ev g x = some (mkS s)) (hy : ev g y = some (mkS t)) : OV P n o g S (mkS r) := by
  obtain ⟨h1, rfl⟩ := catO_some hm
  exact ov_sadd h hx hy h1
/-! ### variables of the program that are arrays -/
theorem ov_indexAddr_glob {P : Program} {n : Nat} {o : Oper} {g : Frm} {S : Pred} {T E : TypeId} {x y : Operand} {b m s : Nat} {kk : IntKind} {i : Int} (hT : P.underlying T = some (.array m E)) (hs : ∀ w, (sizeOf E).run P w = .ok s w) (h : o.op = .indexAddr T x y) (hx : ev g x = some (pB b 0)) (hy : ev g y = some (.int kk i)) (h0 : 0 ≤ i) (h1 : i < m) :
    OV P n o g S (pE (some ⟨b, 0, none⟩) (i.toNat * s)) := by
  have := ov_indexAddr_arr (P := P) (n := n) (S := S) hT hs h hx hy h0 h1
  unfold pB at this
  unfold pE
  simp only [Option.getD_some, addr_add]
  exact this

/-! ### structs held against each other -/
section
variable {P : Program} {d : Nat} {xs ys : Array Value}
end

/-! ### contracts -/
/-- Called with these values in this memory the function hands back what R says; nothing that was there has turned. -/
def Con (P : Program) (F : FuncId) (vs : List Value) (w : World) (H : Heap) (R : Value → Heap → Prop) : Prop :=
  Calls P F vs.toArray w fun e w' => ∃ r, e = .returned r ∧ Below w.heap.size w w' ∧ R r (newer w w' H)
theorem Con.mono {P : Program} {F : FuncId} {vs : List Value} {w : World} {H : Heap} {R R' : Value → Heap → Prop} (h : Con P F vs w H R) (k : ∀ r H', R r H' → R' r H') : Con P F vs w H R' :=
  Calls.mono h fun _ _ ⟨r, h1, h2, h3⟩ => ⟨r, h1, h2, k _ _ h3⟩
theorem con_of {P : Program} {f : FuncId} {fn : Func} {c : Code} {vs : List Value} {w : World} {H : Heap} {R : Value → Heap → Prop} (hH : Le H (hp w))
    (hf : P.funcs[f]? = some fn) (hb : fn.body = some c) (n : Nat) (hnt : fn.ntmps = n) (hn : Nat.ble vs.length n = true)
    (h : WP Fence.wide P n c (argFrm 0 vs) (St w H [] H) (retQ n fn P fun v w' => Below w.heap.size w w' ∧ R v (newer w w' H))) (hm : Nat.ble vs.length markKey = true := by rfl) : Con P f vs w H R :=
  calls_of (St w H [] H) (St.start w H hH) hf hb n hnt hn h hm
section
variable {P : Program} {n : Nat} {o : Oper} {g : Frm} {S : Pred}
/-- a call of a function value that is known -/
theorem os_callv {F : FuncId} {fx : Operand} {cap : Array Value} {xs : List Operand} {ats : Array TypeId} {vs : List Value} {K : Value → Pred → Prop} (hc : ∀ args w, (callFunc F args).run P w = .ok (.enter F args) w) (h : o.op = .call { callee := .value fx, args := xs.toArray, argTypes := ats })
    (hf : ev g fx = some (.func (.func F) #[] cap)) (hx : evs g xs = some vs) (hk : ∀ w, S w → Calls P F (vs.toArray ++ cap) w fun e w' => ∃ r S', e = .returned r ∧ K r S' ∧ S' w') : OS P n o g S K := fun a w f s next Q hn => by
  have hr : (execOp a.eval o).run P w = .ok (.enter F (vs.toArray ++ cap)) w := by
    simp [execOp, h, resolve, invoke, f.eval hf, Deferred.ofValue, evs_arr hx a f, hc]
  unfold Oper.wp
  rw [hr]
  exact (hk w s).mono fun e w' ⟨r, S', he, hK, hS⟩ => by subst he; exact hn _ _ _ hK hS
/-- a call that is walked in place -/
theorem os_inline {F : FuncId} {fn : Func} {c : Code} {fx : Operand} {cap : List Value} {xs : List Operand} {ats : Array TypeId} {vs : List Value} {K : Value → Pred → Prop} (hc : ∀ args w, (callFunc F args).run P w = .ok (.enter F args) w) (h : o.op = .call { callee := .value fx, args := xs.toArray, argTypes := ats })
    (hv : ev g fx = some (.func (.func F) #[] cap.toArray)) (hx : evs g xs = some vs) (hf : P.funcs[F]? = some fn) (hb : fn.body = some c) (m : Nat) (hnt : fn.ntmps = m) (hn : Nat.ble (vs ++ cap).length m = true)
    (k : ∀ w, S w → WP Fence.wide P m c (argFrm 0 (vs ++ cap)) S (retQ m fn P fun v w' => ∃ S', K v S' ∧ S' w')) (hm : Nat.ble (vs ++ cap).length markKey = true := by rfl) : OS P n o g S K :=
  os_callv hc h hv hx fun w s => by
    have := calls_of (w := w) S s hf hb m hnt hn (k w s) hm
    rw [List.append_toArray]
    exact Calls.mono this fun e w' ⟨v, he, S', h1, h2⟩ => ⟨v, S', he, h1, h2⟩
theorem ov_makeFunc' {fn : Fn} {first captured : List Operand} {vs us : List Value} (h : o.op = .makeFunc fn first.toArray captured.toArray) (hf : evs g first = some vs) (hc : evs g captured = some us) : OV P n o g S (.func fn vs.toArray us.toArray) :=
  ov_makeFunc h (evs_arr hf) (evs_arr hc)
end
section
variable {P : Program} {n : Nat} {o : Oper} {g : Frm} {w0 : World} {H0 H : Heap} {ms : List Ent}
theorem oq_con {F : FuncId} {xs : List Operand} {ats : Array TypeId} {vs : List Value} {r : Value} (hc : ∀ args w, (callFunc F args).run P w = .ok (.enter F args) w) (h : o.op = .call { callee := .value (.func F), args := xs.toArray, argTypes := ats })
    (hx : evs g xs = some vs) (hk : ∀ w, St w0 H0 ms H w → ∃ H', Con P F vs w H' fun v _ => v = r) : OQ P n o g (St w0 H0 ms H) r :=
  oq_call hc h (evs_arr hx) fun w s => by
    obtain ⟨H', hk⟩ := hk w s
    exact Calls.mono hk fun e w' ⟨v, h1, h2, h3⟩ => by subst h3; exact ⟨h1, s.grow h2⟩
theorem os_con {F : FuncId} {xs : List Operand} {ats : Array TypeId} {vs : List Value} {R : Value → Heap → Prop} {K : Value → Pred → Prop} (hc : ∀ args w, (callFunc F args).run P w = .ok (.enter F args) w) (h : o.op = .call { callee := .value (.func F), args := xs.toArray, argTypes := ats })
    (hx : evs g xs = some vs) (hk : ∀ w, St w0 H0 ms H w → Con P F vs w H R) (k : ∀ r H', Le H H' → R r H' → K r (St w0 H0 ms H')) : OS P n o g (St w0 H0 ms H) K :=
  os_call hc h (evs_arr hx) fun w s => Calls.mono (hk w s) fun e w' ⟨v, h1, h2, h3⟩ => ⟨v, _, h1, k v _ (newer_le s) h3, s.gain h2⟩
end
end Go.Proofs.YtcgmhlakihjbkaaGreatDoor.W
