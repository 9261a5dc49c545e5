import Derived.Test.YtkgijoddkibapaaGreatDoorExt
import Derived.Test.YtkgijoddkibapaaGreatDoorLibR
set_option linter.unusedVariables false
set_option maxRecDepth 100000
namespace Go.Proofs.YtkgijoddkibapaaGreatDoor.W
open Go Go.RowKit
section
variable {n : Nat} {o : Oper} {g : Frm} {w0 : World} {ms : List Ent} {H0 H : Heap}
theorem lies : liesAt Tryz.prog Tryz.prog.depth 146 (2 / Tryz.prog.cellsOf 146) 0 146 1 = true := by kernel_rfl
theorem os_copyCheck {x : Operand} {ats : Array TypeId} {i b : Nat} {pv v : Value} {K : Value → Pred → Prop} (h : o.op = .call { callee := .value (.func 87), args := [x].toArray, argTypes := ats }) (hx : ev g x = some (pB b 0)) (hi : ms[i]? = some (.blk b 146 [pv, v])) (hp : pv = .pointer none ∨ pv = pB b 0)
    (k : K (.tuple #[]) (St w0 H0 (ms.set i (.blk b 146 [pB b 0, v])) H)) : OS Tryz.prog n o g (St w0 H0 ms H) K := by
  refine os_inline (cap := []) (vs := [pB b 0]) Tryz.call87 h rfl (by simp only [evs, hx]) Tryz.func87 rfl 20 Tryz.ntmps87 rfl (fun w' s => ?_)
  have hcell : ∀ w, St w0 H0 ms H w → w.heap[b]? = some (.cells #[pv, v] 146 (0, 0)) := fun w s => s.sat _ (List.mem_of_getElem? hi)
  refine WP.seq ?_
  refine WP.region ?_
  refine WL.quiet (Runs.free rfl) rfl rfl (OV.quiet (ov_move rfl rfl)) ?_
  refine WL.quiet (Runs.free rfl) rfl rfl (OV.quiet (ov_nilCheckB rfl rfl)) ?_
  refine WL.quiet (Runs.free rfl) rfl rfl (OV.quiet (ov_fieldAddr Tryz.underlying146 rfl rfl rfl Tryz.sizeOf110 rfl rfl)) ?_
  refine WL.quiet (Runs.free rfl) rfl rfl (OV.quiet (ov_load_box (i := i) Tryz.isAgg110 rfl rfl hi rfl)) ?_
  obtain ⟨j0, infoB⟩ : ∃ j0, Tryz.prog.info? 146 = some j0 := by
    have e : (Tryz.prog.info? 146).map (·.size) = some 2 := by kernel_rfl
    obtain ⟨j0, h1, _⟩ := Option.map_eq_some_iff.1 e
    exact ⟨j0, h1⟩
  rcases hp with rfl | rfl
  · refine WL.quiet (Runs.free rfl) rfl rfl (OV.quiet (ov_binOp (r := .bool true) rfl rfl rfl eqGuard_ptr (fun w => run_eql_pointer_nil w _ none Tryz.underlying110))) ?_
    refine WL.nil ?_
    refine then_normal ?_
    refine WP.cond_true rfl ?_
    refine WP.region ?_
    refine WL.quiet (Runs.free rfl) rfl rfl (OV.quiet (ov_move rfl rfl)) ?_
    refine WL.quiet (Runs.free rfl) rfl rfl (OV.quiet (ov_move rfl rfl)) ?_
    refine WL.quiet (Runs.free rfl) rfl rfl (OV.quiet (ov_toUnsafe (sz := 2) Tryz.underlying110 Tryz.underlying189 (by kernel_rfl) (by decide) rfl rfl hcell (Nat.zero_lt_succ _))) ?_
    refine WL.quiet (Runs.free rfl) rfl rfl (OV.quiet (ov_noEscape Tryz.func112 (by kernel_rfl) (by kernel_rfl) (by kernel_rfl) (by kernel_rfl) rfl rfl)) ?_
    refine WL.quiet (Runs.free rfl) rfl rfl (OV.quiet (ov_fromUnsafe (sz := 2) Tryz.underlying189 Tryz.underlying110 (by kernel_rfl) rfl rfl hcell lies)) ?_
    refine WL.quiet (Runs.free rfl) rfl rfl (OV.quiet (ov_nilCheckB rfl rfl)) ?_
    refine WL.quiet (Runs.free rfl) rfl rfl (OV.quiet (ov_fieldAddr Tryz.underlying146 rfl rfl rfl Tryz.sizeOf110 rfl rfl)) ?_
    refine WL.step0 (Runs.free rfl) rfl (os_store (i := i) (vs := [pB b 0]) (cs' := [pB b 0, v]) Tryz.sizeOf110 rfl rfl rfl hi rfl rfl rfl rfl rfl ?_)
    refine WL.nil ?_
    exact retQ_end (v := .tuple #[]) Tryz.results87 Res.nil rfl (fun w' s => ⟨_, k, s⟩)
  · refine WL.quiet (Runs.free rfl) rfl rfl (OV.quiet (ov_binOp (r := .bool false) rfl rfl rfl eqGuard_ptr (fun w => run_eql_pointer_nil w _ _ Tryz.underlying110))) ?_
    refine WL.nil ?_
    refine then_normal ?_
    refine WP.cond_false rfl ?_
    refine WP.seq ?_
    refine WP.region ?_
    refine WL.quiet (Runs.free rfl) rfl rfl (OV.quiet (ov_move rfl rfl)) ?_
    refine WL.quiet (Runs.free rfl) rfl rfl (OV.quiet (ov_nilCheckB rfl rfl)) ?_
    refine WL.quiet (Runs.free rfl) rfl rfl (OV.quiet (ov_fieldAddr Tryz.underlying146 rfl rfl rfl Tryz.sizeOf110 rfl rfl)) ?_
    refine WL.quiet (Runs.free rfl) rfl rfl (OV.quiet (ov_load_box (i := i) Tryz.isAgg110 rfl rfl hi rfl)) ?_
    refine WL.quiet (Runs.free rfl) rfl rfl (OV.quiet (ov_move rfl rfl)) ?_
    refine WL.quiet (Runs.free rfl) rfl rfl (OV.quiet (ov_binOp (r := .bool false) rfl rfl rfl eqGuard_ptr (fun w => Lib.run_neq_ptr_same w ⟨b, 0, none⟩ Tryz.underlying110 infoB))) ?_
    refine WL.nil ?_
    refine then_normal ?_
    refine WP.cond_false rfl ?_
    refine WP.skip ?_
    have hset : ms.set i (.blk b 146 [pB b 0, v]) = ms := by
      obtain ⟨hlt, he⟩ := List.getElem?_eq_some_iff.1 hi
      rw [← he]
      exact List.set_getElem_self ..
    rw [hset] at k
    exact retQ_end (v := .tuple #[]) Tryz.results87 Res.nil rfl (fun w' s => ⟨_, k, s⟩)
theorem os_bstring {x : Operand} {ats : Array TypeId} {i j b : Nat} {pv v : Value} {l : List UInt8} {xs : List Value} {K : Value → Pred → Prop} (h : o.op = .call { callee := .value (.func 77), args := [x].toArray, argTypes := ats }) (hx : ev g x = some (pB b 0)) (hi : ms[i]? = some (.blk b 146 [pv, v])) (hj : ms[j]? = some (.row 5 encByte.size l.length v xs)) (hp : pv = .pointer none ∨ pv = pB b 0) (hR : RL H encByte l xs)
    (k : ∀ H', K (mkS l) (St w0 H0 [] H')) : OS Tryz.prog n o g (St w0 H0 ms H) K :=
  os_callv (cap := #[]) (vs := [pB b 0]) Tryz.call77 h rfl (by simp only [evs, hx]) fun w s => by
    have hb := s.builder hi (E := 5) hj
    rw [hR.bytes] at hb
    have hI : Lib.IsBuilder 146 5 w0.heap.size b (Lib.byteCells l) w := by
      rcases hp with rfl | rfl
      · exact .inl hb
      · exact .inr hb
    exact Calls.mono (Tryz.Builder_String_any w0.heap.size b l w hI s.below.size) fun e w' hw => ⟨_, _, hw.1, k _, s.wiped hw.2⟩
theorem os_bstring_in {wb : World} {hb Hb : Heap} {msb : List Ent} (sw : St wb hb msb Hb w0) {x : Operand} {ats : Array TypeId} {i j b : Nat} {pv v : Value} {l : List UInt8} {xs : List Value} {K : Value → Pred → Prop} (h : o.op = .call { callee := .value (.func 77), args := [x].toArray, argTypes := ats }) (hx : ev g x = some (pB b 0)) (hi : ms[i]? = some (.blk b 146 [pv, v])) (hj : ms[j]? = some (.row 5 encByte.size l.length v xs)) (hp : pv = .pointer none ∨ pv = pB b 0) (hR : RL H encByte l xs)
    (k : K (mkS l) (St wb hb msb Hb)) : OS Tryz.prog n o g (St w0 H0 ms H) K :=
  os_callv (cap := #[]) (vs := [pB b 0]) Tryz.call77 h rfl (by simp only [evs, hx]) fun w s => by
    have hb := s.builder hi (E := 5) hj
    rw [hR.bytes] at hb
    have hI : Lib.IsBuilder 146 5 w0.heap.size b (Lib.byteCells l) w := by
      rcases hp with rfl | rfl
      · exact .inl hb
      · exact .inr hb
    exact Calls.mono (Tryz.Builder_String_any w0.heap.size b l w hI s.below.size) fun e w' hw => ⟨_, _, hw.1, k, sw.grow (s.below.trans hw.2)⟩
end
end Go.Proofs.YtkgijoddkibapaaGreatDoor.W
