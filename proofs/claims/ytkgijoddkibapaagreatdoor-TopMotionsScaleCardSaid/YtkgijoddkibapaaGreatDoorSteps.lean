import Derived.Test.YtkgijoddkibapaaGreatDoorPlain
import Derived.Test.YtkgijoddkibapaaGreatDoorLibR
import Derived.Test.YtkgijoddkibapaaGreatDoorWalk13
set_option linter.unusedVariables false
set_option linter.unusedSimpArgs false
set_option maxRecDepth 100000
set_option maxHeartbeats 4000000
namespace Go.Proofs.YtkgijoddkibapaaGreatDoor.W
open Go Go.RowKit
theorem St.ret_box {w w' : World} {H0 H : Heap} {ms : List Ent} {i b T : Nat} {cs : List Value} (s : St w H0 ms H w') (hi : ms[i]? = some (.blk b T cs)) : RowAt (newer w w' H0) (some ⟨b, 0, none⟩) 0 cs := by
  have h1 := s.box_row hi
  have hb : w.heap.size ≤ b := (s.own _ (List.mem_of_getElem? hi) b rfl).1
  intro j u e
  obtain ⟨a, e1, e2⟩ := h1 j u e
  refine ⟨a, e1, ?_⟩
  cases e1
  unfold cellH at e2 ⊢
  rw [addr_add] at e2 ⊢
  unfold newer
  rw [if_neg (by simpa using hb)]
  exact e2
def IterRep (H : Heap) (m : Motion) (on : List (List UInt8)) (v : Value) : Prop :=
  match m with
  | .single s => ∃ (b : Nat) (ao : Option Addr) (cap : Nat), v = .func (.func 172) #[] #[pB b 0] ∧ RowAt H (some ⟨b, 0, none⟩) 0 [.slice ao s.strokes.length cap, .int .i64 s.wait] ∧ SL H encStroke ao s.strokes ∧ s.strokes.length ≤ cap
  | .list l => ∃ (b b2 : Nat) (ao : Option Addr) (cap : Nat) (ao2 : Option Addr) (cap2 : Nat), v = .func (.func 174) #[] #[pB b 0, pB b2 0] ∧ RowAt H (some ⟨b, 0, none⟩) 0 [.slice ao l.length cap] ∧ RowAt H (some ⟨b2, 0, none⟩) 0 [.slice ao2 on.length cap2] ∧
      SL H encMotion ao l ∧ l.length ≤ cap ∧ SL H encStr ao2 on ∧ on.length ≤ cap2
  | .repeat_ k p => ∃ (b b2 : Nat) (t : TypeId) (c : Value) (ao2 : Option Addr) (cap2 : Nat), v = .func (.func 176) #[] #[pB b 0, pB b2 0] ∧ RowAt H (some ⟨b, 0, none⟩) 0 [.int .i64 k, .iface t c] ∧ RowAt H (some ⟨b2, 0, none⟩) 0 [.slice ao2 on.length cap2] ∧
      MotionRep H p (.iface t c) ∧ SL H encStr ao2 on ∧ on.length ≤ cap2
  | .choice _ _ _ => False
theorem IterRep.mono {H H' : Heap} {m : Motion} {on : List (List UInt8)} {v : Value} (h : IterRep H m on v) (k : Le H H') : IterRep H' m on v := by
  cases m with
  | single s => obtain ⟨b, ao, cap, h1, h2, h3, h4⟩ := h; exact ⟨b, ao, cap, h1, h2.mono k, h3.mono k, h4⟩
  | list l => obtain ⟨b, b2, ao, cap, ao2, cap2, h1, h2, h3, h4, h5, h6, h7⟩ := h; exact ⟨b, b2, ao, cap, ao2, cap2, h1, h2.mono k, h3.mono k, h4.mono k, h5, h6.mono k, h7⟩
  | repeat_ n p => obtain ⟨b, b2, t, c, ao2, cap2, h1, h2, h3, h4, h5, h6⟩ := h; exact ⟨b, b2, t, c, ao2, cap2, h1, h2.mono k, h3.mono k, h4.mono k, h5.mono k, h6⟩
  | choice => exact h.elim
def MCon (P : Program) (name : String) (v : Value) (vs : List Value) (w : World) (H : Heap) (R : Value → Heap → Prop) : Prop :=
  ∃ f recv, (callMethod v name vs.toArray).run P w = .ok (.enter f (recv :: vs).toArray) w ∧ Con P f (recv :: vs) w H R
theorem os_invoke {P : Program} {n : Nat} {o : Oper} {g : Frm} {w0 : World} {H0 H : Heap} {ms : List Ent} {x : Operand} {name : String} {xs : List Operand} {ats : Array TypeId} {v : Value} {vs : List Value} {R : Value → Heap → Prop} {K : Value → Pred → Prop} (h : o.op = .call { callee := .invoke x name, args := xs.toArray, argTypes := ats })
    (hv : ev g x = some v) (hx : evs g xs = some vs) (hk : ∀ w, St w0 H0 ms H w → MCon P name v vs w H R) (k : ∀ r H', Le H H' → R r H' → K r (St w0 H0 ms H')) : OS P n o g (St w0 H0 ms H) K := fun a w f s next Q hn => by
  obtain ⟨fi, recv, h1, h2⟩ := hk w s
  have hr : (execOp a.eval o).run P w = .ok (.enter fi (recv :: vs).toArray) w := by
    have e1 : (#[a.eval x] ++ xs.toArray.map a.eval) = (v :: vs).toArray := by rw [f.eval hv, evs_arr hx a f]; simp
    have e2 : (execOp a.eval o).run P w = (callMethod v name vs.toArray).run P w := by
      simp only [execOp, h, resolve, Sem.run_bind, Sem.run_pure, Result.andThen_ok, invoke]
      rw [e1]
      simp
    rw [e2, h1]
  unfold Oper.wp
  rw [hr]
  exact Calls.mono h2 fun e w' ⟨r, he, hb, hR⟩ => by subst he; exact hn _ _ _ (k r _ (newer_le s) hR) (s.gain hb)
section
variable {w : World} {H : Heap} {on : List (List UInt8)} {ao2 : Option Addr} {cap2 : Nat}
theorem single_steps_con {s : Step} {ao : Option Addr} {cap : Nat} (hH : Le H (hp w)) (h : SL H encStroke ao s.strokes) (hc : s.strokes.length ≤ cap) :
    Con Tryz.prog 171 [.agg #[.slice ao s.strokes.length cap, .int .i64 s.wait], .slice ao2 on.length cap2] w H (fun v H' => IterRep H' (.single s) on v) := by
  refine con_of hH Tryz.func171 rfl 6 Tryz.ntmps171 rfl ?_
  refine WP.seq (WP.region ?_)
  refine WL.step (Runs.free rfl) rfl rfl (os_box (cs := [.slice ao s.strokes.length cap, .int .i64 s.wait]) rfl rfl rfl (fun b => ?_))
  refine wq rfl rfl rfl (ov_assign rfl rfl) (WL.nil (then_normal (WP.seq (WP.region ?_))))
  refine wq rfl rfl rfl (ov_makeFunc' (first := []) rfl rfl rfl) ?_
  refine wq rfl rfl rfl (ov_assign rfl rfl) (WL.nil (then_normal (WP.ret ?_)))
  exact retQ_ret Tryz.results171 (Res.tmp rfl Res.nil) rfl (fun w' s' => ⟨s'.below, b, ao, cap, rfl, s'.ret_box (i := 0) rfl, h.mono s'.le_newer, hc⟩)
theorem list_steps_con {l : List Motion} {ao : Option Addr} {cap : Nat} (hH : Le H (hp w)) (h : SL H encMotion ao l) (hc : l.length ≤ cap) (h2 : SL H encStr ao2 on) (hc2 : on.length ≤ cap2) :
    Con Tryz.prog 173 [.agg #[.slice ao l.length cap], .slice ao2 on.length cap2] w H (fun v H' => IterRep H' (.list l) on v) := by
  refine con_of hH Tryz.func173 rfl 6 Tryz.ntmps173 rfl ?_
  refine WP.seq (WP.region ?_)
  refine WL.step (Runs.free rfl) rfl rfl (os_box (cs := [.slice ao l.length cap]) rfl rfl rfl (fun b => ?_))
  refine WL.step (Runs.free rfl) rfl rfl (os_box (cs := [.slice ao2 on.length cap2]) rfl rfl rfl (fun b2 => ?_))
  refine wq rfl rfl rfl (ov_assign rfl rfl) (WL.nil (then_normal (WP.seq (WP.region ?_))))
  refine wq rfl rfl rfl (ov_makeFunc' (first := []) rfl rfl rfl) ?_
  refine wq rfl rfl rfl (ov_assign rfl rfl) (WL.nil (then_normal (WP.ret ?_)))
  exact retQ_ret Tryz.results173 (Res.tmp rfl Res.nil) rfl (fun w' s' => ⟨s'.below, b, b2, ao, cap, ao2, cap2, rfl, s'.ret_box (i := 1) rfl, s'.ret_box (i := 0) rfl, h.mono s'.le_newer, hc, h2.mono s'.le_newer, hc2⟩)
theorem repeat_steps_con {k : Int} {p : Motion} {t : TypeId} {c : Value} (hH : Le H (hp w)) (h : MotionRep H p (.iface t c)) (h2 : SL H encStr ao2 on) (hc2 : on.length ≤ cap2) :
    Con Tryz.prog 175 [.agg #[.int .i64 k, .iface t c], .slice ao2 on.length cap2] w H (fun v H' => IterRep H' (.repeat_ k p) on v) := by
  refine con_of hH Tryz.func175 rfl 6 Tryz.ntmps175 rfl ?_
  refine WP.seq (WP.region ?_)
  refine WL.step (Runs.free rfl) rfl rfl (os_box (cs := [.int .i64 k, .iface t c]) rfl rfl rfl (fun b => ?_))
  refine WL.step (Runs.free rfl) rfl rfl (os_box (cs := [.slice ao2 on.length cap2]) rfl rfl rfl (fun b2 => ?_))
  refine wq rfl rfl rfl (ov_assign rfl rfl) (WL.nil (then_normal (WP.seq (WP.region ?_))))
  refine wq rfl rfl rfl (ov_makeFunc' (first := []) rfl rfl rfl) ?_
  refine wq rfl rfl rfl (ov_assign rfl rfl) (WL.nil (then_normal (WP.ret ?_)))
  exact retQ_ret Tryz.results175 (Res.tmp rfl Res.nil) rfl (fun w' s' => ⟨s'.below, b, b2, t, c, ao2, cap2, rfl, s'.ret_box (i := 1) rfl, s'.ret_box (i := 0) rfl, h.mono s'.le_newer, h2.mono s'.le_newer, hc2⟩)
end
theorem meth_single (c : Value) (vs : List Value) (w : World) : (callMethod (.iface 204 c) "pneumatic/program.steps" vs.toArray).run Tryz.prog w = .ok (.enter 171 (c :: vs).toArray) w := by
  have hm : (method (Tryz.prog.types.size + Made.depth) 204 c "pneumatic/program.steps").run Tryz.prog w = .ok (171, c) w := by kernel_rfl
  simp only [callMethod, Sem.run_bind, run_program, Result.andThen_ok, hm]
  simp [Tryz.call171]
theorem meth_list (c : Value) (vs : List Value) (w : World) : (callMethod (.iface 206 c) "pneumatic/program.steps" vs.toArray).run Tryz.prog w = .ok (.enter 173 (c :: vs).toArray) w := by
  have hm : (method (Tryz.prog.types.size + Made.depth) 206 c "pneumatic/program.steps").run Tryz.prog w = .ok (173, c) w := by kernel_rfl
  simp only [callMethod, Sem.run_bind, run_program, Result.andThen_ok, hm]
  simp [Tryz.call173]
theorem meth_repeat (c : Value) (vs : List Value) (w : World) : (callMethod (.iface 208 c) "pneumatic/program.steps" vs.toArray).run Tryz.prog w = .ok (.enter 175 (c :: vs).toArray) w := by
  have hm : (method (Tryz.prog.types.size + Made.depth) 208 c "pneumatic/program.steps").run Tryz.prog w = .ok (175, c) w := by kernel_rfl
  simp only [callMethod, Sem.run_bind, run_program, Result.andThen_ok, hm]
  simp [Tryz.call175]
theorem meth_choice (c : Value) (vs : List Value) (w : World) : (callMethod (.iface 210 c) "pneumatic/program.steps" vs.toArray).run Tryz.prog w = .ok (.enter 177 (c :: vs).toArray) w := by
  have hm : (method (Tryz.prog.types.size + Made.depth) 210 c "pneumatic/program.steps").run Tryz.prog w = .ok (177, c) w := by kernel_rfl
  simp only [callMethod, Sem.run_bind, run_program, Result.andThen_ok, hm]
  simp [Tryz.call177]
theorem choice_steps_con (self : Motion → List (List UInt8) → Option Motion) {w : World} {H : Heap} {nm : List UInt8} {a b : Motion} {t t' : TypeId} {c c' : Value} {on : List (List UInt8)} {ao2 : Option Addr} {cap2 : Nat} {r : Motion}
    (hself : ∀ (m : Motion) (t : TypeId) (c : Value) (w : World) (H : Heap), Le H (hp w) → MotionRep H m (.iface t c) → SL H encStr ao2 on → Glob H → ∀ r, self m on = some r → MCon Tryz.prog "pneumatic/program.steps" (.iface t c) [.slice ao2 on.length cap2] w H (fun v H' => IterRep H' r on v))
    (hH : Le H (hp w)) (ha : MotionRep H a (.iface t c)) (hb : MotionRep H b (.iface t' c')) (h2 : SL H encStr ao2 on) (hc2 : on.length ≤ cap2) (hG : Glob H) (hm : ((program_choice_taken (MChoice.mk nm a b) on).bind fun r => self r on) = some r) :
    Con Tryz.prog 177 [.agg #[mkS nm, .iface t c, .iface t' c'], .slice ao2 on.length cap2] w H (fun v H' => IterRep H' r on v) := by
  obtain ⟨q, e, hm⟩ := bind_some hm
  refine con_of hH Tryz.func177 rfl 10 Tryz.ntmps177 rfl ?_
  refine WP.seq (WP.region ?_)
  refine WL.step (Runs.free rfl) rfl rfl (os_box (cs := [mkS nm, .iface t c, .iface t' c']) rfl rfl rfl (fun b1 => ?_))
  refine wq rfl rfl rfl (ov_assign rfl rfl) (WL.nil (then_normal (WP.seq (WP.region ?_))))
  refine wq rfl rfl rfl (ov_load_whole (i := 0) Tryz.isAgg210 Tryz.sizeOf210 rfl rfl rfl rfl) ?_
  refine wq rfl rfl rfl (ov_move rfl rfl) ?_
  refine WL.step (Runs.free rfl) rfl rfl (os_con Tryz.call178 rfl rfl (fun w' s => (program_choice_taken_con (MChoice.mk nm a b) on t c t' c' ao2 cap2 w' H s.hold ha hb h2 hc2 hG q e)) (fun rr H2 hle hR => ?_))
  obtain ⟨t3, c3, rfl, h3⟩ := hR
  refine wq rfl rfl rfl (ov_move rfl rfl) ?_
  refine WL.step (Runs.free rfl) rfl rfl (os_invoke rfl rfl rfl (fun w' s => hself q t3 c3 w' H2 s.hold h3 (h2.mono hle) (hG.mono hle) r hm) (fun rr H3 hle3 hR => ?_))
  refine wq rfl rfl rfl (ov_assign rfl rfl) (WL.nil (then_normal (WP.ret ?_)))
  exact retQ_ret Tryz.results177 (Res.tmp rfl Res.nil) rfl (fun w' s' => ⟨s'.below, hR.mono s'.le_newer⟩)
theorem steps_con (n : Nat) {on : List (List UInt8)} {ao2 : Option Addr} {cap2 : Nat} (hc2 : on.length ≤ cap2) : ∀ (m : Motion) (t : TypeId) (c : Value) (w : World) (H : Heap), Le H (hp w) → MotionRep H m (.iface t c) → SL H encStr ao2 on → Glob H → ∀ r, steps n m on = some r → MCon Tryz.prog "pneumatic/program.steps" (.iface t c) [.slice ao2 on.length cap2] w H (fun v H' => IterRep H' r on v) := by
  induction n with
  | zero => intro m t c w H _ _ _ _ r hm; cases hm
  | succ n ih =>
    intro m t c w H hH hM h2 hG r hm
    cases m with
    | single s =>
      obtain ⟨ao, cap, hv, q1, q2⟩ := hM.open_isSingle rfl
      cases hv
      have : r = .single s := by simpa [steps, Motion.isChoice] using hm.symm
      subst this
      exact ⟨_, _, meth_single _ _ w, single_steps_con hH q1 q2⟩
    | list l =>
      obtain ⟨ao, cap, hv, q1, q2⟩ := hM.open_isList rfl
      cases hv
      have : r = .list l := by simpa [steps, Motion.isChoice] using hm.symm
      subst this
      exact ⟨_, _, meth_list _ _ w, list_steps_con hH q1 q2 h2 hc2⟩
    | repeat_ k p =>
      obtain ⟨t1, c1, hv, q1⟩ := hM.open_isRepeat rfl
      cases hv
      have : r = .repeat_ k p := by simpa [steps, Motion.isChoice] using hm.symm
      subst this
      exact ⟨_, _, meth_repeat _ _ w, repeat_steps_con hH q1 h2 hc2⟩
    | choice nm a b =>
      obtain ⟨t1, c1, t2, c2, hv, q1, q2⟩ := hM.open_isChoice rfl
      cases hv
      exact ⟨_, _, meth_choice _ _ w, choice_steps_con (steps n) ih hH q1 q2 h2 hc2 hG (by simpa [steps, Motion.isChoice, Motion.nm, Motion.thn, Motion.oth] using hm)⟩
end Go.Proofs.YtkgijoddkibapaaGreatDoor.W
