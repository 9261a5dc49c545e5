/- The walks. Written by our own program gen.py; Lean checks it. -/
import Derived.Test.YtgpfgnpdbmbknaaGreatDoorPlain
import Derived.Test.YtgpfgnpdbmbknaaGreatDoorEqs
import Derived.Test.YtgpfgnpdbmbknaaGreatDoorProg
import Derived.Test.YtgpfgnpdbmbknaaGreatDoorExt
import Derived.Test.YtgpfgnpdbmbknaaGreatDoorClone
import Derived.Test.YtgpfgnpdbmbknaaGreatDoorSort
import Derived.Test.YtgpfgnpdbmbknaaGreatDoorWalk6
set_option linter.unusedVariables false
set_option maxRecDepth 100000
set_option maxHeartbeats 4000000
namespace Go.Proofs.YtgpfgnpdbmbknaaGreatDoor.W
open Go Go.RowKit Go.Proofs.Tryz
theorem ref14_moves_con (p_s : Sequence) (p_actuator : Int) (ao1 : Option Addr) (cap1 : Nat) (w : World) (H : Heap) (hH : Le H (hp w)) (h1 : SL H encStep ao1 p_s.steps) (hc1 : p_s.steps.length ≤ cap1) (hG : Glob H) (r : Bool) (hm : ref14_moves p_s p_actuator = some r) :
  Con prog 98 [(.agg #[(.int .i64 p_s.actuators), (.slice ao1 p_s.steps.length cap1)]), (.int .i64 p_actuator)] w H (fun v _ => v = (.bool r)) := by
 unfold ref14_moves at hm
 refine con_of hH func98 rfl 21 ntmps98 rfl ?_
 refine WP.seq (WP.region ?_)
 refine ws rfl (os_box (cs := [(.int .i64 p_s.actuators), (.slice ao1 p_s.steps.length cap1)]) rfl rfl rfl (fun b1 => ?_))
 refine wq rfl rfl rfl (ov_assign rfl rfl) ?_
 refine WL.nil (tn ?_)
 obtain ⟨k1, hk1, hm⟩ := joinK_some hm
 refine WP.seq_join (fun g' S' => Sub [(1000000007, (.bool false))] g' ∧ (∀ w', S' w' → St w H [] H w') ∧ k1 = some r) ?_ ?_
 ·
  refine WP.seq (WP.region ?_)
  refine wq rfl rfl rfl (ov_assign rfl rfl) ?_
  refine WL.nil (tn (WP.block ?_))
  refine WP.loop (fun m1 g' S' => ∃ (i1 : Int), Sub [(1, (.int .i64 p_actuator)), (2, (pB b1 0)), (5, (.int .i64 i1)), (1000000007, (.bool false))] g' ∧ (∀ w', S' w' → St w H [.blk b1 48 [(.int .i64 p_s.actuators), (.slice ao1 p_s.steps.length cap1)]] H w') ∧ ref14_moves_loop1 p_s p_actuator k1 m1 i1 = some r) ((Int.toNat ((p_s.steps.length : Int) - 0) + 1)) ⟨0, (Sub.all rfl), fun w' s => s, hm⟩ ?_ ?_
  ·
   rintro g' S' ⟨_, _, _, hm⟩
   exact none_some hm
  rintro m1 g' S' ⟨i1, hsub1, hS1, hm⟩
  refine WP.sub hsub1 (WP.weaken hS1 ?_)
  rw [ref14_moves_loop1] at hm
  refine WP.seq (WP.seq (WP.region ?_))
  refine wq rfl rfl rfl (ov_move rfl rfl) ?_
  refine wq rfl rfl rfl (ov_fieldAddr underlying48 rfl rfl rfl sizeOf42 rfl rfl) ?_
  refine wq rfl rfl rfl (ov_load_box (i := 0) isAgg42 rfl rfl rfl rfl) ?_
  refine wq rfl rfl rfl (ov_len_slice underlying42 rfl rfl) ?_
  refine wq rfl rfl rfl (ov_lss rfl rfl rfl) ?_
  refine WL.nil (tn ?_)
  refine WP.cond rfl (fun hc2 => ?_) (fun hc2 => ?_)
  ·
   replace hm := ite_t hc2 hm
   refine WP.skip (tn (WP.seq (WP.block (WP.seq (WP.region ?_)))))
   refine wq rfl rfl rfl (ov_fieldAddr underlying48 rfl rfl rfl sizeOf42 rfl rfl) ?_
   refine wq rfl rfl rfl (ov_load_box (i := 0) isAgg42 rfl rfl rfl rfl) ?_
   refine wq rfl rfl rfl (ov_move rfl rfl) ?_
   obtain ⟨x1, e1, hm⟩ := bind_some hm
   obtain ⟨h3, h4, h5, cs1, h6, h7⟩ := h1.get e1 (by decide)
   obtain ⟨ao2, cap2, rfl, h2, hc3⟩ := h6
   refine wq rfl rfl rfl (ov_indexAddr underlying42 sizeOf25 rfl rfl rfl h3 h4 h5) ?_
   refine wq rfl rfl rfl (ov_load_elems (vs := [(.slice ao2 x1.strokes.length cap2), (.int .i64 x1.wait)]) isAgg25 sizeOf25 rfl rfl rfl h7 h5) ?_
   refine wq rfl rfl rfl (ov_move rfl rfl) ?_
   obtain ⟨r1, e2, hm⟩ := bind_some hm
   refine wo rfl (oq_con (r := (.int .i64 r1)) call135 rfl rfl (fun w' s => ⟨_, (ref13_Way_con x1 p_actuator ao2 cap2  w' H s.hold h2 hc3 hG r1 e2)⟩)) ?_
   refine wq rfl rfl rfl (ov_neq rfl rfl rfl) ?_
   refine WL.nil (tn ?_)
   refine WP.cond rfl (fun hc4 => ?_) (fun hc4 => ?_)
   ·
    replace hm := ite_t hc4 hm
    refine WP.seq (WP.region ?_)
    refine wq rfl rfl rfl (ov_assign rfl rfl) ?_
    refine WL.nil (tn (WP.ret (block_ret (then_ret (then_ret (block_ret (then_ret ?_)))))))
    obtain rfl := Option.some.inj hm
    refine retQ_ret results98 (Res.tmp rfl Res.nil) rfl (fun w' s => ⟨s.below, ?_⟩)
    exact rfl
   replace hm := ite_f hc4 hm
   refine WP.skip (bn (tn (WP.region ?_)))
   refine wq rfl rfl rfl (ov_move rfl rfl) ?_
   refine wq rfl rfl rfl (ov_add rfl rfl rfl) ?_
   refine wq rfl rfl rfl (ov_assign rfl rfl) ?_
   refine WL.nil (tn ?_)
   exact ⟨(IntKind.wrap .i64 (i1 + 1)), (Sub.all rfl), fun w' s => s, hm⟩
  replace hm := ite_f hc2 hm
  refine WP.exit (then_exit (then_exit (block_here (tn ?_))))
  exact ⟨(Sub.all rfl), fun w' s => (s.select [] (by decide) rfl), hm⟩
 rintro g' S' ⟨hsub2, hS2, hm⟩
 refine WP.sub hsub2 (WP.weaken hS2 ?_)
 replace hm := hk1.symm.trans hm
 refine WP.seq (WP.region ?_)
 refine wq rfl rfl rfl (ov_assign rfl rfl) ?_
 refine WL.nil (tn (WP.ret ?_))
 obtain rfl := Option.some.inj hm
 refine retQ_ret results98 (Res.tmp rfl Res.nil) rfl (fun w' s => ⟨s.below, ?_⟩)
 exact rfl
theorem ref14_Check_con (p_s : Sequence) (ao1 : Option Addr) (cap1 : Nat) (w : World) (H : Heap) (hH : Le H (hp w)) (h1 : SL H encStep ao1 p_s.steps) (hc1 : p_s.steps.length ≤ cap1) (hG : Glob H) (r : Int) (hm : ref14_Check p_s = some r) :
  Con prog 59 [(.agg #[(.int .i64 p_s.actuators), (.slice ao1 p_s.steps.length cap1)])] w H (fun v _ => v = (.int .i64 r)) := by
 unfold ref14_Check at hm
 refine con_of hH func59 rfl 36 ntmps59 rfl ?_
 refine WP.seq (WP.region ?_)
 refine ws rfl (os_box (cs := [(.int .i64 p_s.actuators), (.slice ao1 p_s.steps.length cap1)]) rfl rfl rfl (fun b1 => ?_))
 refine wq rfl rfl rfl (ov_assign rfl rfl) ?_
 refine WL.nil (tn (WP.seq (WP.seq (WP.region ?_))))
 refine wq rfl rfl rfl (ov_fieldAddr underlying48 rfl rfl rfl sizeOf3 rfl rfl) ?_
 refine wq rfl rfl rfl (ov_load_box (i := 0) isAgg3 rfl rfl rfl rfl) ?_
 refine wq rfl rfl rfl (ov_lss rfl rfl rfl) ?_
 refine wq rfl rfl rfl (ov_move rfl rfl) ?_
 refine WL.cut_bool 4 12 (x := ((decide (p_s.actuators < 1)) || (decide (p_s.actuators > 6)))) ?_ ?_
 ·
  rcases Bool.eq_false_or_eq_true (decide (p_s.actuators < 1)) with hc2 | hc2
  ·
   refine WL.idle (Idle.no rfl rfl rfl hc2) rfl rfl ?_
   refine WL.idle (Idle.no rfl rfl rfl hc2) rfl rfl ?_
   refine WL.idle (Idle.no rfl rfl rfl hc2) rfl rfl ?_
   refine wq rfl rfl rfl (ov_pick_true rfl (guard_eq rfl hc2) rfl) ?_
   exact WL.nil ⟨Sub.cons' rfl (congrArg Value.bool (orT hc2)) (Sub.dropn 4 rfl), fun _ s => s⟩
  refine wy hc2 rfl (ov_fieldAddr underlying48 rfl rfl rfl sizeOf3 rfl rfl) ?_
  refine wy hc2 rfl (ov_load_box (i := 0) isAgg3 rfl rfl rfl rfl) ?_
  refine wy hc2 rfl (ov_gtr rfl rfl rfl) ?_
  refine wq rfl rfl rfl (ov_pick_false rfl (guard_eq rfl hc2) rfl) ?_
  exact WL.nil ⟨Sub.cons' rfl (congrArg Value.bool (orF hc2)) (Sub.dropn 4 rfl), fun _ s => s⟩
 refine WL.nil (tn ?_)
 refine WP.cond rfl (fun hc3 => ?_) (fun hc3 => ?_)
 ·
  replace hm := ite_t hc3 hm
  refine WP.seq (WP.region ?_)
  refine wq rfl rfl rfl (ov_assign rfl rfl) ?_
  refine WL.nil (tn (WP.ret (then_ret ?_)))
  obtain rfl := Option.some.inj hm
  refine retQ_ret results59 (Res.tmp rfl Res.nil) rfl (fun w' s => ⟨s.below, ?_⟩)
  exact rfl
 replace hm := ite_f hc3 hm
 refine WP.skip (tn (WP.seq (WP.seq (WP.region ?_))))
 refine wq rfl rfl rfl (ov_fieldAddr underlying48 rfl rfl rfl sizeOf42 rfl rfl) ?_
 refine wq rfl rfl rfl (ov_load_box (i := 0) isAgg42 rfl rfl rfl rfl) ?_
 refine wq rfl rfl rfl (ov_len_slice underlying42 rfl rfl) ?_
 refine wq rfl rfl rfl (ov_eql rfl rfl rfl) ?_
 refine WL.nil (tn ?_)
 refine WP.cond rfl (fun hc4 => ?_) (fun hc4 => ?_)
 ·
  replace hm := ite_t hc4 hm
  refine WP.seq (WP.region ?_)
  refine wq rfl rfl rfl (ov_assign rfl rfl) ?_
  refine WL.nil (tn (WP.ret (then_ret ?_)))
  obtain rfl := Option.some.inj hm
  refine retQ_ret results59 (Res.tmp rfl Res.nil) rfl (fun w' s => ⟨s.below, ?_⟩)
  exact rfl
 replace hm := ite_f hc4 hm
 refine WP.skip (tn (WP.seq (WP.seq (WP.region ?_))))
 refine wq rfl rfl rfl (ov_fieldAddr underlying48 rfl rfl rfl sizeOf42 rfl rfl) ?_
 refine wq rfl rfl rfl (ov_load_box (i := 0) isAgg42 rfl rfl rfl rfl) ?_
 refine wq rfl rfl rfl (ov_len_slice underlying42 rfl rfl) ?_
 refine wq rfl rfl rfl (ov_gtr rfl rfl rfl) ?_
 refine WL.nil (tn ?_)
 refine WP.cond rfl (fun hc5 => ?_) (fun hc5 => ?_)
 ·
  replace hm := ite_t hc5 hm
  refine WP.seq (WP.region ?_)
  refine wq rfl rfl rfl (ov_assign rfl rfl) ?_
  refine WL.nil (tn (WP.ret (then_ret ?_)))
  obtain rfl := Option.some.inj hm
  refine retQ_ret results59 (Res.tmp rfl Res.nil) rfl (fun w' s => ⟨s.below, ?_⟩)
  exact rfl
 replace hm := ite_f hc5 hm
 refine WP.skip (tn (WP.seq (WP.seq (WP.region ?_))))
 refine wq rfl rfl rfl (ov_load_whole (i := 0) isAgg48 sizeOf48 rfl rfl rfl rfl) ?_
 obtain ⟨r1, e1, hm⟩ := bind_some hm
 refine wo rfl (oq_con (r := (.int .i64 r1)) call97 rfl rfl (fun w' s => ⟨_, (ref14_steps_con p_s ao1 cap1  w' H s.hold h1 hc1 hG r1 e1)⟩)) ?_
 refine wq rfl rfl rfl (ov_assign rfl rfl) ?_
 refine WL.nil (tn (WP.seq (WP.region ?_)))
 refine wq rfl rfl rfl (ov_move rfl rfl) ?_
 refine wq rfl rfl rfl (ov_neq rfl rfl rfl) ?_
 refine WL.nil (tn ?_)
 refine WP.cond rfl (fun hc6 => ?_) (fun hc6 => ?_)
 ·
  replace hm := ite_t hc6 hm
  refine WP.seq (WP.region ?_)
  refine wq rfl rfl rfl (ov_move rfl rfl) ?_
  refine wq rfl rfl rfl (ov_assign rfl rfl) ?_
  refine WL.nil (tn (WP.ret (then_ret ?_)))
  obtain rfl := Option.some.inj hm
  refine retQ_ret results59 (Res.tmp rfl Res.nil) rfl (fun w' s => ⟨s.below, ?_⟩)
  exact rfl
 replace hm := ite_f hc6 hm
 refine WP.skip (tn ?_)
 obtain ⟨k1, hk1, hm⟩ := joinK_some hm
 refine WP.seq_join (fun g' S' => Sub [(1000000007, (.bool false))] g' ∧ (∀ w', S' w' → St w H [] H w') ∧ k1 = some r) ?_ ?_
 ·
  refine WP.seq (WP.region ?_)
  refine wq rfl rfl rfl (ov_assign rfl rfl) ?_
  refine WL.nil (tn (WP.block ?_))
  refine WP.loop (fun m1 g' S' => ∃ (i1 : Int), Sub [(1, (pB b1 0)), (4, (.int .i64 i1)), (1000000007, (.bool false))] g' ∧ (∀ w', S' w' → St w H [.blk b1 48 [(.int .i64 p_s.actuators), (.slice ao1 p_s.steps.length cap1)]] H w') ∧ ref14_Check_loop1 p_s k1 m1 i1 = some r) ((Int.toNat (p_s.actuators - 0) + 1)) ⟨0, (Sub.all rfl), fun w' s => s, hm⟩ ?_ ?_
  ·
   rintro g' S' ⟨_, _, _, hm⟩
   exact none_some hm
  rintro m1 g' S' ⟨i1, hsub1, hS1, hm⟩
  refine WP.sub hsub1 (WP.weaken hS1 ?_)
  rw [ref14_Check_loop1] at hm
  refine WP.seq (WP.seq (WP.region ?_))
  refine wq rfl rfl rfl (ov_move rfl rfl) ?_
  refine wq rfl rfl rfl (ov_fieldAddr underlying48 rfl rfl rfl sizeOf3 rfl rfl) ?_
  refine wq rfl rfl rfl (ov_load_box (i := 0) isAgg3 rfl rfl rfl rfl) ?_
  refine wq rfl rfl rfl (ov_lss rfl rfl rfl) ?_
  refine WL.nil (tn ?_)
  refine WP.cond rfl (fun hc7 => ?_) (fun hc7 => ?_)
  ·
   replace hm := ite_t hc7 hm
   refine WP.skip (tn (WP.seq (WP.block (WP.seq (WP.region ?_)))))
   refine wq rfl rfl rfl (ov_load_whole (i := 0) isAgg48 sizeOf48 rfl rfl rfl rfl) ?_
   refine wq rfl rfl rfl (ov_move rfl rfl) ?_
   obtain ⟨r2, e2, hm⟩ := bind_some hm
   refine wo rfl (oq_con (r := (.bool r2)) call98 rfl rfl (fun w' s => ⟨_, (ref14_moves_con p_s i1 ao1 cap1  w' H s.hold h1 hc1 hG r2 e2)⟩)) ?_
   refine wq rfl rfl rfl (ov_not rfl rfl) ?_
   refine WL.nil (tn ?_)
   refine WP.cond rfl (fun hc8 => ?_) (fun hc8 => ?_)
   ·
    replace hm := ite_t hc8 hm
    refine WP.seq (WP.region ?_)
    refine wq rfl rfl rfl (ov_assign rfl rfl) ?_
    refine WL.nil (tn (WP.ret (block_ret (then_ret (then_ret (block_ret (then_ret ?_)))))))
    obtain rfl := Option.some.inj hm
    refine retQ_ret results59 (Res.tmp rfl Res.nil) rfl (fun w' s => ⟨s.below, ?_⟩)
    exact rfl
   replace hm := ite_f hc8 hm
   refine WP.skip (bn (tn (WP.region ?_)))
   refine wq rfl rfl rfl (ov_move rfl rfl) ?_
   refine wq rfl rfl rfl (ov_add rfl rfl rfl) ?_
   refine wq rfl rfl rfl (ov_assign rfl rfl) ?_
   refine WL.nil (tn ?_)
   exact ⟨(IntKind.wrap .i64 (i1 + 1)), (Sub.all rfl), fun w' s => s, hm⟩
  replace hm := ite_f hc7 hm
  refine WP.exit (then_exit (then_exit (block_here (tn ?_))))
  exact ⟨(Sub.all rfl), fun w' s => (s.select [] (by decide) rfl), hm⟩
 rintro g' S' ⟨hsub2, hS2, hm⟩
 refine WP.sub hsub2 (WP.weaken hS2 ?_)
 replace hm := hk1.symm.trans hm
 refine WP.seq (WP.region ?_)
 refine wq rfl rfl rfl (ov_assign rfl rfl) ?_
 refine WL.nil (tn (WP.ret ?_))
 obtain rfl := Option.some.inj hm
 refine retQ_ret results59 (Res.tmp rfl Res.nil) rfl (fun w' s => ⟨s.below, ?_⟩)
 exact rfl
theorem ref15_Sequence_con (p_x : Node) (p_on : (List (List UInt8))) (ao1 : Option Addr) (cap1 : Nat) (ao2 : Option Addr) (cap2 : Nat) (ao3 : Option Addr) (cap3 : Nat) (w : World) (H : Heap) (hH : Le H (hp w)) (h1 : SL H encStroke ao1 p_x.step.strokes) (hc1 : p_x.step.strokes.length ≤ cap1) (h2 : SL H encNode ao2 p_x.nodes) (hc2 : p_x.nodes.length ≤ cap2) (h3 : SL H encStr ao3 p_on) (hc3 : p_on.length ≤ cap3) (hG : Glob H) (r : (Sequence × Int)) (hm : ref15_Sequence p_x p_on = some r) :
  Con prog 21 [(.agg #[(.int .i64 p_x.kind), (.slice ao1 p_x.step.strokes.length cap1), (.int .i64 p_x.step.wait), (.int .i64 p_x.count), (mkS p_x.name), (.slice ao2 p_x.nodes.length cap2)]), (.slice ao3 p_on.length cap3)] w H (fun v H' => ∃ (ao4 : Option Addr) (cap4 : Nat), v = (.tuple #[(.agg #[(.int .i64 r.1.actuators), (.slice ao4 r.1.steps.length cap4)]), (.int .i64 r.2)]) ∧ SL H' encStep ao4 r.1.steps ∧ r.1.steps.length ≤ cap4) := by
 unfold ref15_Sequence at hm
 refine con_of hH func21 rfl 29 ntmps21 rfl ?_
 refine WP.seq (WP.region ?_)
 refine ws rfl (os_box (cs := [(.int .i64 p_x.kind), (.slice ao1 p_x.step.strokes.length cap1), (.int .i64 p_x.step.wait), (.int .i64 p_x.count), (mkS p_x.name), (.slice ao2 p_x.nodes.length cap2)]) rfl rfl rfl (fun b1 => ?_))
 refine ws rfl (os_alloc (cs := [(.int .i64 0), (.slice none 0 0)]) zeroValue48 rfl rfl (fun b2 => ?_))
 refine wq rfl rfl rfl (ov_assign rfl rfl) ?_
 refine WL.nil (tn (WP.seq (WP.region ?_)))
 refine wq rfl rfl rfl (ov_load_whole (i := 1) isAgg28 sizeOf28 rfl rfl rfl rfl) ?_
 refine wq rfl rfl rfl (ov_move rfl rfl) ?_
 obtain ⟨r1, e1, hm⟩ := bind_some hm
 refine ws rfl (os_con call19 rfl rfl (fun w' s => (ref15_Unfold_con p_x p_on ao1 cap1 ao2 cap2 ao3 cap3  w' H s.hold h1 hc1 h2 hc2 h3 hc3 hG r1 e1)) (fun rr1 H1 hle1 hR1 => ?_))
 replace hG := hG.mono hle1
 obtain ⟨ao5, cap5, rfl, h5, hc5⟩ := hR1
 refine wq rfl rfl rfl (ov_move rfl rfl) ?_
 refine wq rfl rfl rfl (ov_extract rfl rfl rfl) ?_
 refine wq rfl rfl rfl (ov_extract rfl rfl rfl) ?_
 refine wq rfl rfl rfl (ov_assign rfl rfl) ?_
 refine wq rfl rfl rfl (ov_assign rfl rfl) ?_
 refine WL.nil (tn (WP.seq (WP.seq (WP.region ?_))))
 refine wq rfl rfl rfl (ov_move rfl rfl) ?_
 refine wq rfl rfl rfl (ov_neq rfl rfl rfl) ?_
 refine WL.nil (tn ?_)
 refine WP.cond rfl (fun hc6 => ?_) (fun hc6 => ?_)
 ·
  replace hm := ite_t hc6 hm
  refine WP.seq (WP.region ?_)
  refine wq rfl rfl rfl (ov_build (r := (.agg #[(.int .i64 0), (.slice none 0 0)])) rfl rfl (fun _ => by kernel_rfl)) ?_
  refine wq rfl rfl rfl (ov_move rfl rfl) ?_
  refine ws0 rfl (os_store (i := 0) (vs := [(.int .i64 0), (.slice none 0 0)]) (cs' := [(.int .i64 0), (.slice none 0 0)]) sizeOf48 rfl rfl rfl rfl rfl rfl rfl rfl rfl ?_)
  refine wq rfl rfl rfl (ov_assign rfl rfl) ?_
  refine WL.nil (tn (WP.ret (then_ret ?_)))
  obtain rfl := Option.some.inj hm
  refine retQ_ret results21 (Res.cell rfl (box_loads (i := 0) isAgg48 sizeOf48 rfl rfl) (Res.tmp rfl Res.nil)) rfl (fun w' s => ⟨s.below, ?_⟩)
  exact ⟨none, 0, rfl, SL.nil _ _ _, Nat.le_refl _⟩
 replace hm := ite_f hc6 hm
 refine WP.skip (tn (WP.seq (WP.region ?_)))
 refine wq rfl rfl rfl (ov_move rfl rfl) ?_
 obtain ⟨r2, e2, hm⟩ := bind_some hm
 refine ws rfl (os_con call58 rfl rfl (fun w' s => (ref14_Of_con r1.1 ao5 cap5  w' H1 s.hold h5 hc5 hG r2 e2)) (fun rr2 H2 hle2 hR2 => ?_))
 replace hG := hG.mono hle2
 obtain ⟨ao6, cap6, rfl, h6, hc7⟩ := hR2
 refine ws rfl (os_alloc (cs := [(.int .i64 0), (.slice none 0 0)]) zeroValue48 rfl rfl (fun b3 => ?_))
 refine ws0 rfl (os_store (i := 0) (vs := [(.int .i64 r2.actuators), (.slice ao6 r2.steps.length cap6)]) (cs' := [(.int .i64 r2.actuators), (.slice ao6 r2.steps.length cap6)]) sizeOf48 rfl rfl rfl rfl rfl rfl rfl rfl rfl ?_)
 refine WL.nil (tn (WP.seq (WP.seq (WP.region ?_))))
 refine wq rfl rfl rfl (ov_load_whole (i := 0) isAgg48 sizeOf48 rfl rfl rfl rfl) ?_
 obtain ⟨r3, e3, hm⟩ := bind_some hm
 refine wo rfl (oq_con (r := (.int .i64 r3)) call59 rfl rfl (fun w' s => ⟨_, (ref14_Check_con r2 ao6 cap6  w' H2 s.hold h6 hc7 hG r3 e3)⟩)) ?_
 refine wq rfl rfl rfl (ov_assign rfl rfl) ?_
 refine WL.nil (tn (WP.seq (WP.region ?_)))
 refine wq rfl rfl rfl (ov_move rfl rfl) ?_
 refine wq rfl rfl rfl (ov_neq rfl rfl rfl) ?_
 refine WL.nil (tn ?_)
 refine WP.cond rfl (fun hc8 => ?_) (fun hc8 => ?_)
 ·
  replace hm := ite_t hc8 hm
  refine WP.seq (WP.region ?_)
  refine wq rfl rfl rfl (ov_build (r := (.agg #[(.int .i64 0), (.slice none 0 0)])) rfl rfl (fun _ => by kernel_rfl)) ?_
  refine wq rfl rfl rfl (ov_move rfl rfl) ?_
  refine ws0 rfl (os_store (i := 1) (vs := [(.int .i64 0), (.slice none 0 0)]) (cs' := [(.int .i64 0), (.slice none 0 0)]) sizeOf48 rfl rfl rfl rfl rfl rfl rfl rfl rfl ?_)
  refine wq rfl rfl rfl (ov_assign rfl rfl) ?_
  refine WL.nil (tn (WP.ret (then_ret ?_)))
  obtain rfl := Option.some.inj hm
  refine retQ_ret results21 (Res.cell rfl (box_loads (i := 1) isAgg48 sizeOf48 rfl rfl) (Res.tmp rfl Res.nil)) rfl (fun w' s => ⟨s.below, ?_⟩)
  exact ⟨none, 0, rfl, SL.nil _ _ _, Nat.le_refl _⟩
 replace hm := ite_f hc8 hm
 refine WP.skip (tn (WP.seq (WP.region ?_)))
 refine wq rfl rfl rfl (ov_load_whole (i := 0) isAgg48 sizeOf48 rfl rfl rfl rfl) ?_
 refine ws0 rfl (os_store (i := 1) (vs := [(.int .i64 r2.actuators), (.slice ao6 r2.steps.length cap6)]) (cs' := [(.int .i64 r2.actuators), (.slice ao6 r2.steps.length cap6)]) sizeOf48 rfl rfl rfl rfl rfl rfl rfl rfl rfl ?_)
 refine wq rfl rfl rfl (ov_assign rfl rfl) ?_
 refine WL.nil (tn (WP.ret ?_))
 obtain rfl := Option.some.inj hm
 refine retQ_ret results21 (Res.cell rfl (box_loads (i := 1) isAgg48 sizeOf48 rfl rfl) (Res.tmp rfl Res.nil)) rfl (fun w' s => ⟨s.below, ?_⟩)
 exact ⟨ao6, cap6, rfl, h6.mono s.le_newer, hc7⟩
theorem ref13_SameSteps_con (p_a : (List Step)) (p_b : (List Step)) (ao1 : Option Addr) (cap1 : Nat) (ao2 : Option Addr) (cap2 : Nat) (w : World) (H : Heap) (hH : Le H (hp w)) (h1 : SL H encStep ao1 p_a) (hc1 : p_a.length ≤ cap1) (h2 : SL H encStep ao2 p_b) (hc2 : p_b.length ≤ cap2) (hG : Glob H) (r : Bool) (hm : ref13_SameSteps p_a p_b = some r) :
  Con prog 22 [(.slice ao1 p_a.length cap1), (.slice ao2 p_b.length cap2)] w H (fun v _ => v = (.bool r)) := by
 unfold ref13_SameSteps at hm
 refine con_of hH func22 rfl 27 ntmps22 rfl ?_
 refine WP.seq (WP.region ?_)
 refine wq rfl rfl rfl (ov_assign rfl rfl) ?_
 refine WL.nil (tn (WP.seq (WP.seq (WP.region ?_))))
 refine wq rfl rfl rfl (ov_move rfl rfl) ?_
 refine wq rfl rfl rfl (ov_len_slice underlying42 rfl rfl) ?_
 refine wq rfl rfl rfl (ov_move rfl rfl) ?_
 refine wq rfl rfl rfl (ov_len_slice underlying42 rfl rfl) ?_
 refine wq rfl rfl rfl (ov_neq rfl rfl rfl) ?_
 refine WL.nil (tn ?_)
 refine WP.cond rfl (fun hc3 => ?_) (fun hc3 => ?_)
 ·
  replace hm := ite_t hc3 hm
  refine WP.seq (WP.region ?_)
  refine wq rfl rfl rfl (ov_assign rfl rfl) ?_
  refine WL.nil (tn (WP.ret (then_ret ?_)))
  obtain rfl := Option.some.inj hm
  refine retQ_ret results22 (Res.tmp rfl Res.nil) rfl (fun w' s => ⟨s.below, ?_⟩)
  exact rfl
 replace hm := ite_f hc3 hm
 refine WP.skip (tn ?_)
 obtain ⟨k1, hk1, hm⟩ := joinK_some hm
 refine WP.seq_join (fun g' S' => Sub [(1000000007, (.bool false))] g' ∧ (∀ w', S' w' → St w H [] H w') ∧ k1 = some r) ?_ ?_
 ·
  refine WP.seq (WP.region ?_)
  refine wq rfl rfl rfl (ov_assign rfl rfl) ?_
  refine WL.nil (tn (WP.block ?_))
  refine WP.loop (fun m1 g' S' => ∃ (i1 : Int), Sub [(0, (.slice ao1 p_a.length cap1)), (1, (.slice ao2 p_b.length cap2)), (5, (.int .i64 i1)), (1000000007, (.bool false))] g' ∧ (∀ w', S' w' → St w H [] H w') ∧ ref13_SameSteps_loop1 p_a p_b k1 m1 i1 = some r) ((Int.toNat ((p_a.length : Int) - 0) + 1)) ⟨0, (Sub.all rfl), fun w' s => s, hm⟩ ?_ ?_
  ·
   rintro g' S' ⟨_, _, _, hm⟩
   exact none_some hm
  rintro m1 g' S' ⟨i1, hsub1, hS1, hm⟩
  refine WP.sub hsub1 (WP.weaken hS1 ?_)
  rw [ref13_SameSteps_loop1] at hm
  refine WP.seq (WP.seq (WP.region ?_))
  refine wq rfl rfl rfl (ov_move rfl rfl) ?_
  refine wq rfl rfl rfl (ov_move rfl rfl) ?_
  refine wq rfl rfl rfl (ov_len_slice underlying42 rfl rfl) ?_
  refine wq rfl rfl rfl (ov_lss rfl rfl rfl) ?_
  refine WL.nil (tn ?_)
  refine WP.cond rfl (fun hc4 => ?_) (fun hc4 => ?_)
  ·
   replace hm := ite_t hc4 hm
   refine WP.skip (tn (WP.seq (WP.block (WP.seq ?_))))
   refine WP.region_draws (by kernel_rfl) (by kernel_rfl) (fun _ s => s.drew) ?_
   refine qf rfl (ov_move rfl rfl) ?_
   refine qf rfl (ov_move rfl rfl) ?_
   obtain ⟨x1, e1, hm⟩ := bind_some hm
   obtain ⟨h4, h5, h6, cs1, h7, h8⟩ := h1.get e1 (by decide)
   obtain ⟨ao3, cap3, rfl, h3, hc5⟩ := h7
   refine qf rfl (ov_indexAddr underlying42 sizeOf25 rfl rfl rfl h4 h5 h6) ?_
   refine qf rfl (ov_load_elems (vs := [(.slice ao3 x1.strokes.length cap3), (.int .i64 x1.wait)]) isAgg25 sizeOf25 rfl rfl rfl h8 h6) ?_
   refine qf rfl (ov_move rfl rfl) ?_
   refine qf rfl (ov_move rfl rfl) ?_
   obtain ⟨x2, e2, hm⟩ := bind_some hm
   obtain ⟨h10, h11, h12, cs2, h13, h14⟩ := h2.get e2 (by decide)
   obtain ⟨ao4, cap4, rfl, h9, hc6⟩ := h13
   refine qf rfl (ov_indexAddr underlying42 sizeOf25 rfl rfl rfl h10 h11 h12) ?_
   refine qf rfl (ov_load_elems (vs := [(.slice ao4 x2.strokes.length cap4), (.int .i64 x2.wait)]) isAgg25 sizeOf25 rfl rfl rfl h14 h12) ?_
   obtain ⟨r1, e3, hm⟩ := bind_some hm
   refine QL.quiet (Runs.free rfl) rfl rfl (oq_con (r := (.bool r1)) call60 rfl rfl (fun w' s => ⟨_, (ref13_Same_con x1 x2 ao3 cap3 ao4 cap4  w' H s.hold h3 hc5 h9 hc6 hG r1 e3)⟩)) ?_
   refine qf rfl (ov_not rfl rfl) ?_
   refine QL.nil ?_
   refine tn ?_
   refine WP.cond rfl (fun hc7 => ?_) (fun hc7 => ?_)
   ·
    replace hm := ite_t hc7 hm
    refine WP.seq (WP.region ?_)
    refine wq rfl rfl rfl (ov_assign rfl rfl) ?_
    refine WL.nil (tn (WP.ret (block_ret (then_ret (then_ret (block_ret (then_ret ?_)))))))
    obtain rfl := Option.some.inj hm
    refine retQ_ret results22 (Res.tmp rfl Res.nil) rfl (fun w' s => ⟨s.below, ?_⟩)
    exact rfl
   replace hm := ite_f hc7 hm
   refine WP.skip (bn (tn (WP.region ?_)))
   refine wq rfl rfl rfl (ov_move rfl rfl) ?_
   refine wq rfl rfl rfl (ov_add rfl rfl rfl) ?_
   refine wq rfl rfl rfl (ov_assign rfl rfl) ?_
   refine WL.nil (tn ?_)
   exact ⟨(IntKind.wrap .i64 (i1 + 1)), (Sub.all rfl), fun w' s => s, hm⟩
  replace hm := ite_f hc4 hm
  refine WP.exit (then_exit (then_exit (block_here (tn ?_))))
  exact ⟨(Sub.all rfl), fun w' s => s, hm⟩
 rintro g' S' ⟨hsub2, hS2, hm⟩
 refine WP.sub hsub2 (WP.weaken hS2 ?_)
 replace hm := hk1.symm.trans hm
 refine WP.seq (WP.region ?_)
 refine wq rfl rfl rfl (ov_assign rfl rfl) ?_
 refine WL.nil (tn (WP.ret ?_))
 obtain rfl := Option.some.inj hm
 refine retQ_ret results22 (Res.tmp rfl Res.nil) rfl (fun w' s => ⟨s.below, ?_⟩)
 exact rfl
theorem ref14_Same_con (p_a : Sequence) (p_b : Sequence) (ao1 : Option Addr) (cap1 : Nat) (ao2 : Option Addr) (cap2 : Nat) (w : World) (H : Heap) (hH : Le H (hp w)) (h1 : SL H encStep ao1 p_a.steps) (hc1 : p_a.steps.length ≤ cap1) (h2 : SL H encStep ao2 p_b.steps) (hc2 : p_b.steps.length ≤ cap2) (hG : Glob H) (r : Bool) (hm : ref14_Same p_a p_b = some r) :
  Con prog 23 [(.agg #[(.int .i64 p_a.actuators), (.slice ao1 p_a.steps.length cap1)]), (.agg #[(.int .i64 p_b.actuators), (.slice ao2 p_b.steps.length cap2)])] w H (fun v _ => v = (.bool r)) := by
 unfold ref14_Same at hm
 refine con_of hH func23 rfl 17 ntmps23 rfl ?_
 refine WP.seq (WP.region ?_)
 refine ws rfl (os_box (cs := [(.int .i64 p_a.actuators), (.slice ao1 p_a.steps.length cap1)]) rfl rfl rfl (fun b1 => ?_))
 refine ws rfl (os_box (cs := [(.int .i64 p_b.actuators), (.slice ao2 p_b.steps.length cap2)]) rfl rfl rfl (fun b2 => ?_))
 refine wq rfl rfl rfl (ov_assign rfl rfl) ?_
 refine WL.nil (tn (WP.seq (WP.region ?_)))
 refine wq rfl rfl rfl (ov_fieldAddr underlying48 rfl rfl rfl sizeOf3 rfl rfl) ?_
 refine wq rfl rfl rfl (ov_load_box (i := 1) isAgg3 rfl rfl rfl rfl) ?_
 refine wq rfl rfl rfl (ov_fieldAddr underlying48 rfl rfl rfl sizeOf3 rfl rfl) ?_
 refine wq rfl rfl rfl (ov_load_box (i := 0) isAgg3 rfl rfl rfl rfl) ?_
 refine wq rfl rfl rfl (ov_eql rfl rfl rfl) ?_
 refine wq rfl rfl rfl (ov_move rfl rfl) ?_
 obtain ⟨c1, e1, hm⟩ := bind_some hm
 refine WL.cut_bool 6 16 (x := c1) ?_ ?_
 ·
  rcases Bool.eq_false_or_eq_true (p_a.actuators == p_b.actuators) with hc3 | hc3
  ·
   replace hm := ite_t hc3 e1
   refine wy hc3 rfl (ov_fieldAddr underlying48 rfl rfl rfl sizeOf42 rfl rfl) ?_
   refine wy hc3 rfl (ov_load_box (i := 1) isAgg42 rfl rfl rfl rfl) ?_
   refine wy hc3 rfl (ov_fieldAddr underlying48 rfl rfl rfl sizeOf42 rfl rfl) ?_
   refine wy hc3 rfl (ov_load_box (i := 0) isAgg42 rfl rfl rfl rfl) ?_
   obtain ⟨r1, e2, hm⟩ := bind_some hm
   refine WL.quiet (Runs.yes rfl rfl rfl hc3) rfl rfl (oq_con (r := (.bool r1)) call22 rfl rfl (fun w' s => ⟨_, (ref13_SameSteps_con p_a.steps p_b.steps ao1 cap1 ao2 cap2  w' H s.hold h1 hc1 h2 hc2 hG r1 e2)⟩)) ?_
   refine wq rfl rfl rfl (ov_pick_true rfl (guard_eq rfl hc3) rfl) ?_
   exact WL.nil ⟨Sub.cons' rfl (congrArg Value.bool (Option.some.inj hm)) (Sub.dropn 6 rfl), fun _ s => s⟩
  replace hm := ite_f hc3 e1
  refine WL.idle (Idle.no rfl rfl rfl hc3) rfl rfl ?_
  refine WL.idle (Idle.no rfl rfl rfl hc3) rfl rfl ?_
  refine WL.idle (Idle.no rfl rfl rfl hc3) rfl rfl ?_
  refine WL.idle (Idle.no rfl rfl rfl hc3) rfl rfl ?_
  refine WL.idle (Idle.no rfl rfl rfl hc3) rfl rfl ?_
  refine wq rfl rfl rfl (ov_pick_false rfl (guard_eq rfl hc3) rfl) ?_
  exact WL.nil ⟨Sub.cons' rfl (congrArg Value.bool (Option.some.inj hm)) (Sub.dropn 6 rfl), fun _ s => s⟩
 refine wq rfl rfl rfl (ov_assign rfl rfl) ?_
 refine WL.nil (tn (WP.ret ?_))
 obtain rfl := Option.some.inj hm
 refine retQ_ret results23 (Res.tmp rfl Res.nil) rfl (fun w' s => ⟨s.below, ?_⟩)
 exact rfl
end Go.Proofs.YtgpfgnpdbmbknaaGreatDoor.W
