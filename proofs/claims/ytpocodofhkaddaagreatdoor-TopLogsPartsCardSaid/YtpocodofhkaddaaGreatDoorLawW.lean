/- The plain laws of the journal's logs: JournalTears and JournalSpoils. No program in sight. -/
import Derived.Test.YtpocodofhkaddaaGreatDoorLawV
set_option linter.unusedVariables false
set_option linter.unusedSimpArgs false
set_option maxHeartbeats 2000000
namespace Go.Proofs.YtpocodofhkaddaaGreatDoor.W
open Go Go.RowKit
/-! ### Log -/
theorem log_loopT (l : List Entry) (k : List UInt8 → Option (List UInt8 × Int)) (hg : ∀ x ∈ l, GoodE x) (hb : l.length ≤ 4096) : ∀ (r pre : List Entry) (h : Int) (acc : List UInt8), l = pre ++ r → 0 ≤ h → h < 65521 → acc.length + 80 * r.length ≤ 262144 →
    journal_Log_loop1 l k (r.length + 1) h (pre.length : Int) acc = k (acc ++ linesS h r)
  | [], pre, h, acc, e, h0, h1, ha => by
    unfold journal_Log_loop1
    rw [e, ge_end]
    simp [linesS]
  | x :: r, pre, h, acc, e, h0, h1, ha => by
    have ex : GoodE x := hg x (by rw [e]; simp)
    have hm := markOf_bd (s := textS x) h0 h1
    have hm' : journal_mark h (textS x) = some (markOf h (textS x)) := (mark_eq h (textS x) (by have := text_len ex; omega) h0 h1).1
    have hit : itoa (markOf h (textS x)) = some (decM (markOf h (textS x))) := (num_eq (a := markOf h (textS x)) (by omega) (by omega)).1
    have hl := text_len ex
    have hdl : (decM (markOf h (textS x))).length ≤ 7 := dec7 (by omega)
    rw [List.length_cons] at ha
    unfold journal_Log_loop1
    rw [e, lt_mid, if_pos rfl, at?_mid, wrap_mid (x := x) (r := r) (by rw [← e]; omega), ← e]
    simp only [Option.bind_some, (text_at x ex).1, hm', hit]
    rw [catO_small (by simp; omega), Option.bind_some, catO_small (by simp; omega), Option.bind_some, catO_small (by simp; omega), Option.bind_some, appO_ok (by simp; omega) (by decide), Option.bind_some]
    have hd : decide ((((acc ++ (textS x ++ [32, 59, 32] ++ decM (markOf h (textS x)) ++ [10])).length : Nat) : Int) > 262144) = false := decide_eq_false (by simp; omega)
    rw [hd, if_neg (by decide), List.length_cons, log_loopT l k hg hb r (pre ++ [x]) (markOf h (textS x)) _ (by rw [e, mid_cons]) hm.1 hm.2 (by simp; omega)]
    simp [linesS, lineOf]
theorem goodE_run : ∀ (l : List Entry) (i : Nat) (m : Machine), SmallE l → Good m → (runS i m l).2.2 = 0 → ∀ x ∈ l, GoodE x
  | [], i, m, _, _, _, x, hx => by cases hx
  | y :: r, i, m, hs, g, h, x, hx => by
    obtain ⟨m', _, _, e, g', k3⟩ := runS_cons g (hs y (by simp)) h
    rcases List.mem_cons.1 hx with rfl | hx
    · exact e
    · rw [k3] at h
      exact goodE_run r (i + 1) m' (fun z hz => hs z (by simp [hz])) g' h x hx
theorem run_app : ∀ (l1 l2 : List Entry) (i : Nat) (m : Machine), SmallE (l1 ++ l2) → Good m → (runS i m (l1 ++ l2)).2.2 = 0 → (runS i m l1).2.2 = 0
  | [], l2, i, m, _, _, _ => rfl
  | x :: l1, l2, i, m, hs, g, h => by
    obtain ⟨m', k1, k2, e, g', k3⟩ := runS_cons (r := l1 ++ l2) g (hs x (by simp)) h
    have hc : runS i m (x :: l1) = runS (i + 1) m' l1 := by
      show (match journal_Do m x with
        | some (m', e) => if e = 0 then runS (i + 1) m' l1 else (⟨[], 0⟩, (i : Int), e)
        | none => (⟨[], 0⟩, 0, 0)) = _
      rw [k1]
      simp
    rw [List.cons_append, k3] at h
    rw [hc]
    exact run_app l1 l2 (i + 1) m' (fun z hz => hs z (by simp at hz ⊢; exact .inr hz)) g' h
theorem log_text (l : List Entry) (hs : SmallE l) (hb : l.length ≤ 20) (hr : (runS 0 ⟨[], 0⟩ l).2.2 = 0) : journal_Log l = some (linesS 0 l, 0) := by
  unfold journal_Log
  simp only [joinK]
  rw [(run_eq2 l hs (by omega)).1, Option.bind_some, hr, if_neg (by decide), fuel0]
  have := log_loopT l (fun l3 => some (l3, 0)) (goodE_run l 0 _ hs good0 hr) (by omega) l [] 0 [] rfl (by omega) (by omega) (by simp; omega)
  simpa using this
theorem lines_len : ∀ (l : List Entry) {h : Int}, (∀ x ∈ l, GoodE x) → 0 ≤ h → h < 65521 → l.length ≤ (linesS h l).length ∧ (linesS h l).length ≤ 80 * l.length
  | [], h, _, _, _ => by simp [linesS]
  | x :: r, h, hg, h0, h1 => by
    have hb := markOf_bd (s := textS x) h0 h1
    have ih := lines_len r (h := markOf h (textS x)) (fun y hy => hg y (by simp [hy])) hb.1 hb.2
    have := line_len (x := x) (h := h) (hg x (by simp)) h0 h1
    simp only [linesS, List.length_append, List.length_cons]
    omega
theorem lines_app : ∀ (l1 l2 : List Entry) (h : Int), linesS h (l1 ++ l2) = linesS h l1 ++ linesS (markL h l1) l2
  | [], l2, h => by simp [linesS, markL]
  | x :: l1, l2, h => by simp [linesS, markL, lines_app l1 l2]
/-! ### loading -/
theorem readAll_lines (l : List Entry) (t : List UInt8) (hs : SmallE l) (hb : l.length ≤ 20) (hr : (runS 0 ⟨[], 0⟩ l).2.2 = 0) (hl : (linesS 0 l ++ t).length ≤ 262144) (ht : (10 : UInt8) ∉ t) :
    journal_readAll (linesS 0 l ++ t) = some (⟨(runS 0 ⟨[], 0⟩ l).1, markL 0 l, (l.length : Int), ((linesS 0 l).length : Int)⟩, if t = [] then 0 else 18) ∧ Good (runS 0 ⟨[], 0⟩ l).1 := by
  have hg := goodE_run l 0 _ hs good0 hr
  have hll := lines_len l (h := 0) hg (by omega) (by omega)
  obtain ⟨_, g, h3⟩ := load_lines l ⟨[], 0⟩ 0 0 0 0 ((linesS 0 l ++ t).length + 1 - l.length) t hs good0 hr (by omega) (by omega) (by omega) (by omega)
  have hf : (linesS 0 l ++ t).length + 1 - l.length + l.length = (linesS 0 l ++ t).length + 1 := by rw [List.length_append]; omega
  refine ⟨?_, g⟩
  unfold journal_readAll
  rw [hf] at h3
  refine h3.trans ?_
  rw [Nat.zero_add, Nat.zero_add]
  obtain ⟨f', hf'⟩ : ∃ f', (linesS 0 l ++ t).length + 1 - l.length = f' + 1 := ⟨(linesS 0 l ++ t).length - l.length, by rw [List.length_append]; omega⟩
  rw [hf', journal_readAll_loop1]
  by_cases h0 : t = []
  · subst h0
    simp
  · have c0 : (!(t == [])) = true := by simpa using h0
    have c4 : (((l.length : Nat) : Int) == 4096) = false := by rw [beq_eq_false_iff_ne]; omega
    have htl : t.length < 4294967281 := by rw [List.length_append] at hl; omega
    simp only [joinK]
    rw [if_pos c0, cutAt_none ht htl, Option.bind_some, if_neg h0]
    simp [c4]
theorem load_of {T : List UInt8} (hT : T.length ≤ 262144) {r : JRead} {e : Int} (h : journal_readAll T = some (r, e)) : journal_Load T = some (if e = 0 then (r.m, r.lines, 0) else (⟨[], 0⟩, r.lines, e)) := by
  unfold journal_Load
  have hd : decide ((T.length : Int) > 262144) = false := decide_eq_false (by omega)
  rw [hd, if_neg (by decide), h, Option.bind_some]
  by_cases he : e = 0
  · subst he; rfl
  · rw [if_pos (bne_iff_ne.2 he), if_neg he]
/-! ### tearing -/
end Go.Proofs.YtpocodofhkaddaaGreatDoor.W
