import Derived.Test.YtgpfgnpdbmbknaaGreatDoorPlain
import Derived.Test.YtgpfgnpdbmbknaaGreatDoorEqs
import Derived.Test.YtgpfgnpdbmbknaaGreatDoorProg
import Derived.Test.YtgpfgnpdbmbknaaGreatDoorExt
import Derived.Test.YtgpfgnpdbmbknaaGreatDoorClone
import Derived.Test.YtgpfgnpdbmbknaaGreatDoorSort
import Derived.Test.YtgpfgnpdbmbknaaGreatDoorWalk2
import Derived.Test.YtgpfgnpdbmbknaaGreatDoorWalk3
import Derived.Test.YtgpfgnpdbmbknaaGreatDoorWalk6
set_option linter.unusedVariables false
set_option maxRecDepth 100000
set_option maxHeartbeats 4000000
namespace Go.Proofs.YtgpfgnpdbmbknaaGreatDoor.W
open Go Go.RowKit Go.Proofs.Tryz
theorem ref13_Way_con (p_x : Step) (p_actuator : Int) (ao1 : Option Addr) (cap1 : Nat) (w : World) (H : Heap) (hH : Le H (hp w)) (h1 : SL H encStroke ao1 p_x.strokes) (hc1 : p_x.strokes.length ≤ cap1) (hG : Glob H) (r : Int) (hm : ref13_Way p_x p_actuator = some r) :
  Con prog 135 [(.agg #[(.slice ao1 p_x.strokes.length cap1), (.int .i64 p_x.wait)]), (.int .i64 p_actuator)] w H (fun v _ => v = (.int .i64 r)) := by
 unfold ref13_Way at hm
 refine con_of hH func135 rfl 27 ntmps135 rfl ?_
 refine WP.seq (WP.region ?_)
 refine ws rfl (os_box (cs := [(.slice ao1 p_x.strokes.length cap1), (.int .i64 p_x.wait)]) rfl rfl rfl (fun b1 => ?_))
 refine Va rfl (WL.nil (tn ?_))
 obtain ⟨k1, hk1, hm⟩ := joinK_some hm
 refine WP.seq_join (fun g' S' => Sub [(1000000007, (.bool false))] g' ∧ (∀ w', S' w' → St w H [] H w') ∧ k1 = some r) ?_ ?_
 ·
  refine WP.seq (WP.region (Va rfl (WL.nil (tn (WP.block ?_)))))
  refine WP.loop (fun m1 g' S' => ∃ (i1 : Int), Sub [(1, (.int .i64 p_actuator)), (2, (pB b1 0)), (5, (.int .i64 i1)), (1000000007, (.bool false))] g' ∧ (∀ w', S' w' → St w H [.blk b1 25 [(.slice ao1 p_x.strokes.length cap1), (.int .i64 p_x.wait)]] H w') ∧ ref13_Way_loop1 p_x p_actuator k1 m1 i1 = some r) ((Int.toNat ((p_x.strokes.length : Int) - 0) + 1)) ⟨0, (Sub.all rfl), fun w' s => s, hm⟩ ?_ ?_
  ·
   rintro g' S' ⟨_, _, _, hm⟩
   exact none_some hm
  rintro m1 g' S' ⟨i1, hsub1, hS1, hm⟩
  refine WP.sub hsub1 (WP.weaken hS1 ?_)
  rw [ref13_Way_loop1] at hm
  refine WP.seq (WP.seq (WP.region (Vm rfl (V rfl (ov_fieldAddr underlying25 rfl rfl rfl sizeOf23 rfl rfl) (Vl 0 isAgg23 rfl (V rfl (ov_len_slice underlying23 rfl rfl) (V rfl (ov_lss rfl rfl rfl) (WL.nil (tn ?_)))))))))
  refine WP.cond rfl (fun hc2 => ?_) (fun hc2 => ?_)
  ·
   replace hm := ite_t hc2 hm
   refine WP.skip (tn (WP.seq (WP.block (WP.seq (WP.region (V rfl (ov_fieldAddr underlying25 rfl rfl rfl sizeOf23 rfl rfl) (Vl 0 isAgg23 rfl (Vm rfl ?_))))))))
   obtain ⟨x1, e1, hm⟩ := bind_some hm
   obtain ⟨h2, h3, h4, cs1, h5, h6⟩ := h1.get e1 (by decide)
   obtain rfl : cs1 = [(.int .i64 x1.actuator), (.bool x1.out)] := h5
   refine V rfl (ov_indexAddr underlying23 sizeOf112 rfl rfl rfl h2 h3 h4) (V rfl (ov_fieldAddrE underlying112 rfl rfl rfl sizeOf3 rfl rfl) ?_)
   refine V rfl (ov_load_elem (v := (.int .i64 x1.actuator)) isAgg3 rfl rfl (h6.one (off := 0) rfl)) (Vm rfl (V rfl (ov_eql rfl rfl rfl) (WL.nil (tn ?_))))
   refine WP.cond rfl (fun hc3 => ?_) (fun hc3 => ?_)
   ·
    replace hm := ite_t hc3 hm
    refine WP.seq (WP.seq (WP.region (V rfl (ov_fieldAddr underlying25 rfl rfl rfl sizeOf23 rfl rfl) (Vl 0 isAgg23 rfl (Vm rfl ?_)))))
    obtain ⟨x2, e2, hm⟩ := bind_some hm
    obtain ⟨h7, h8, h9, cs2, h10, h11⟩ := h1.get e2 (by decide)
    obtain rfl : cs2 = [(.int .i64 x2.actuator), (.bool x2.out)] := h10
    refine V rfl (ov_indexAddr underlying23 sizeOf112 rfl rfl rfl h7 h8 h9) (V rfl (ov_fieldAddrE underlying112 rfl rfl rfl sizeOf4 rfl rfl) ?_)
    refine V rfl (ov_load_elem (v := (.bool x2.out)) isAgg4 rfl rfl (h11.one (off := 1) rfl)) (WL.nil (tn ?_))
    refine WP.cond rfl (fun hc4 => ?_) (fun hc4 => ?_)
    ·
     replace hm := ite_t hc4 hm
     refine WP.seq (WP.region (Va rfl (WL.nil (tn (WP.ret (then_ret (block_ret (then_ret (then_ret (block_ret (then_ret ?_)))))))))))
     obtain rfl := Option.some.inj hm
     refine retQ_ret results135 (Res.tmp rfl Res.nil) rfl (fun w' s => ⟨s.below, ?_⟩)
     exact rfl
    replace hm := ite_f hc4 hm
    refine WP.skip (tn (WP.seq (WP.region (Va rfl (WL.nil (tn (WP.ret (block_ret (then_ret (then_ret (block_ret (then_ret ?_))))))))))))
    obtain rfl := Option.some.inj hm
    refine retQ_ret results135 (Res.tmp rfl Res.nil) rfl (fun w' s => ⟨s.below, ?_⟩)
    exact rfl
   replace hm := ite_f hc3 hm
   refine WP.skip (bn (tn (WP.region (Vm rfl (V rfl (ov_add rfl rfl rfl) (Va rfl (WL.nil (tn ?_))))))))
   exact ⟨(IntKind.wrap .i64 (i1 + 1)), (Sub.all rfl), fun w' s => s, hm⟩
  replace hm := ite_f hc2 hm
  refine WP.exit (then_exit (then_exit (block_here (tn ?_))))
  exact ⟨(Sub.all rfl), fun w' s => (s.select [] (by decide) rfl), hm⟩
 rintro g' S' ⟨hsub2, hS2, hm⟩
 refine WP.sub hsub2 (WP.weaken hS2 ?_)
 replace hm := hk1.symm.trans hm
 refine WP.seq (WP.region (Va rfl (WL.nil (tn (WP.ret ?_)))))
 obtain rfl := Option.some.inj hm
 refine retQ_ret results135 (Res.tmp rfl Res.nil) rfl (fun w' s => ⟨s.below, ?_⟩)
 exact rfl
theorem ref14_moves_con (p_s : Sequence) (p_actuator : Int) (ao1 : Option Addr) (cap1 : Nat) (w : World) (H : Heap) (hH : Le H (hp w)) (h1 : SL H encStep ao1 p_s.steps) (hc1 : p_s.steps.length ≤ cap1) (hG : Glob H) (r : Bool) (hm : ref14_moves p_s p_actuator = some r) :
  Con prog 98 [(.agg #[(.int .i64 p_s.actuators), (.slice ao1 p_s.steps.length cap1)]), (.int .i64 p_actuator)] w H (fun v _ => v = (.bool r)) := by
 unfold ref14_moves at hm
 refine con_of hH func98 rfl 21 ntmps98 rfl ?_
 refine WP.seq (WP.region ?_)
 refine ws rfl (os_box (cs := [(.int .i64 p_s.actuators), (.slice ao1 p_s.steps.length cap1)]) rfl rfl rfl (fun b1 => ?_))
 refine Va rfl (WL.nil (tn ?_))
 obtain ⟨k1, hk1, hm⟩ := joinK_some hm
 refine WP.seq_join (fun g' S' => Sub [(1000000007, (.bool false))] g' ∧ (∀ w', S' w' → St w H [] H w') ∧ k1 = some r) ?_ ?_
 ·
  refine WP.seq (WP.region (Va rfl (WL.nil (tn (WP.block ?_)))))
  refine WP.loop (fun m1 g' S' => ∃ (i1 : Int), Sub [(1, (.int .i64 p_actuator)), (2, (pB b1 0)), (5, (.int .i64 i1)), (1000000007, (.bool false))] g' ∧ (∀ w', S' w' → St w H [.blk b1 48 [(.int .i64 p_s.actuators), (.slice ao1 p_s.steps.length cap1)]] H w') ∧ ref14_moves_loop1 p_s p_actuator k1 m1 i1 = some r) ((Int.toNat ((p_s.steps.length : Int) - 0) + 1)) ⟨0, (Sub.all rfl), fun w' s => s, hm⟩ ?_ ?_
  ·
   rintro g' S' ⟨_, _, _, hm⟩
   exact none_some hm
  rintro m1 g' S' ⟨i1, hsub1, hS1, hm⟩
  refine WP.sub hsub1 (WP.weaken hS1 ?_)
  rw [ref14_moves_loop1] at hm
  refine WP.seq (WP.seq (WP.region (Vm rfl (V rfl (ov_fieldAddr underlying48 rfl rfl rfl sizeOf42 rfl rfl) (Vl 0 isAgg42 rfl (V rfl (ov_len_slice underlying42 rfl rfl) (V rfl (ov_lss rfl rfl rfl) (WL.nil (tn ?_)))))))))
  refine WP.cond rfl (fun hc2 => ?_) (fun hc2 => ?_)
  ·
   replace hm := ite_t hc2 hm
   refine WP.skip (tn (WP.seq (WP.block (WP.seq (WP.region (V rfl (ov_fieldAddr underlying48 rfl rfl rfl sizeOf42 rfl rfl) (Vl 0 isAgg42 rfl (Vm rfl ?_))))))))
   obtain ⟨x1, e1, hm⟩ := bind_some hm
   obtain ⟨h3, h4, h5, cs1, h6, h7⟩ := h1.get e1 (by decide)
   obtain ⟨ao2, cap2, rfl, h2, hc3⟩ := h6
   refine V rfl (ov_indexAddr underlying42 sizeOf25 rfl rfl rfl h3 h4 h5) (V rfl (ov_load_elems (vs := [(.slice ao2 x1.strokes.length cap2), (.int .i64 x1.wait)]) isAgg25 sizeOf25 rfl rfl rfl h7 h5) (Vm rfl ?_))
   obtain ⟨r1, e2, hm⟩ := bind_some hm
   refine wo rfl (oq_con (r := (.int .i64 r1)) call135 rfl rfl (fun w' s => ⟨_, (ref13_Way_con x1 p_actuator ao2 cap2  w' H s.hold h2 hc3 hG r1 e2)⟩)) ?_
   refine V rfl (ov_neq rfl rfl rfl) (WL.nil (tn ?_))
   refine WP.cond rfl (fun hc4 => ?_) (fun hc4 => ?_)
   ·
    replace hm := ite_t hc4 hm
    refine WP.seq (WP.region (Va rfl (WL.nil (tn (WP.ret (block_ret (then_ret (then_ret (block_ret (then_ret ?_))))))))))
    obtain rfl := Option.some.inj hm
    refine retQ_ret results98 (Res.tmp rfl Res.nil) rfl (fun w' s => ⟨s.below, ?_⟩)
    exact rfl
   replace hm := ite_f hc4 hm
   refine WP.skip (bn (tn (WP.region (Vm rfl (V rfl (ov_add rfl rfl rfl) (Va rfl (WL.nil (tn ?_))))))))
   exact ⟨(IntKind.wrap .i64 (i1 + 1)), (Sub.all rfl), fun w' s => s, hm⟩
  replace hm := ite_f hc2 hm
  refine WP.exit (then_exit (then_exit (block_here (tn ?_))))
  exact ⟨(Sub.all rfl), fun w' s => (s.select [] (by decide) rfl), hm⟩
 rintro g' S' ⟨hsub2, hS2, hm⟩
 refine WP.sub hsub2 (WP.weaken hS2 ?_)
 replace hm := hk1.symm.trans hm
 refine WP.seq (WP.region (Va rfl (WL.nil (tn (WP.ret ?_)))))
 obtain rfl := Option.some.inj hm
 refine retQ_ret results98 (Res.tmp rfl Res.nil) rfl (fun w' s => ⟨s.below, ?_⟩)
 exact rfl
theorem ref14_Check_con (p_s : Sequence) (ao1 : Option Addr) (cap1 : Nat) (w : World) (H : Heap) (hH : Le H (hp w)) (h1 : SL H encStep ao1 p_s.steps) (hc1 : p_s.steps.length ≤ cap1) (hG : Glob H) (r : Int) (hm : ref14_Check p_s = some r) :
  Con prog 59 [(.agg #[(.int .i64 p_s.actuators), (.slice ao1 p_s.steps.length cap1)])] w H (fun v _ => v = (.int .i64 r)) := by
 unfold ref14_Check at hm
 refine con_of hH func59 rfl 36 ntmps59 rfl ?_
 refine WP.seq (WP.region ?_)
 refine ws rfl (os_box (cs := [(.int .i64 p_s.actuators), (.slice ao1 p_s.steps.length cap1)]) rfl rfl rfl (fun b1 => ?_))
 refine Va rfl (WL.nil (tn (WP.seq (WP.seq (WP.region (V rfl (ov_fieldAddr underlying48 rfl rfl rfl sizeOf3 rfl rfl) (Vl 0 isAgg3 rfl (V rfl (ov_lss rfl rfl rfl) (Vm rfl ?_)))))))))
 refine WL.cut_bool 4 12 (x := ((decide (p_s.actuators < 1)) || (decide (p_s.actuators > 6)))) ?_ ?_
 ·
  rcases Bool.eq_false_or_eq_true (decide (p_s.actuators < 1)) with hc2 | hc2
  ·
   refine Vi rfl (Idle.no rfl rfl rfl hc2) (Vi rfl (Idle.no rfl rfl rfl hc2) (Vi rfl (Idle.no rfl rfl rfl hc2) (V rfl (ov_pick_true rfl (guard_eq rfl hc2) rfl) ?_)))
   exact WL.nil ⟨Sub.cons' rfl (congrArg Value.bool (orT hc2)) (Sub.dropn 4 rfl), fun _ s => s⟩
  refine wy hc2 rfl (ov_fieldAddr underlying48 rfl rfl rfl sizeOf3 rfl rfl) ?_
  refine wy hc2 rfl (ov_load_box (i := 0) isAgg3 rfl rfl rfl rfl) ?_
  refine wy hc2 rfl (ov_gtr rfl rfl rfl) ?_
  refine V rfl (ov_pick_false rfl (guard_eq rfl hc2) rfl) ?_
  exact WL.nil ⟨Sub.cons' rfl (congrArg Value.bool (orF hc2)) (Sub.dropn 4 rfl), fun _ s => s⟩
 refine WL.nil (tn ?_)
 refine WP.cond rfl (fun hc3 => ?_) (fun hc3 => ?_)
 ·
  replace hm := ite_t hc3 hm
  refine WP.seq (WP.region (Va rfl (WL.nil (tn (WP.ret (then_ret ?_))))))
  obtain rfl := Option.some.inj hm
  refine retQ_ret results59 (Res.tmp rfl Res.nil) rfl (fun w' s => ⟨s.below, ?_⟩)
  exact rfl
 replace hm := ite_f hc3 hm
 refine WP.skip (tn (WP.seq (WP.seq (WP.region (V rfl (ov_fieldAddr underlying48 rfl rfl rfl sizeOf42 rfl rfl) (Vl 0 isAgg42 rfl (V rfl (ov_len_slice underlying42 rfl rfl) (V rfl (ov_eql rfl rfl rfl) (WL.nil (tn ?_))))))))))
 refine WP.cond rfl (fun hc4 => ?_) (fun hc4 => ?_)
 ·
  replace hm := ite_t hc4 hm
  refine WP.seq (WP.region (Va rfl (WL.nil (tn (WP.ret (then_ret ?_))))))
  obtain rfl := Option.some.inj hm
  refine retQ_ret results59 (Res.tmp rfl Res.nil) rfl (fun w' s => ⟨s.below, ?_⟩)
  exact rfl
 replace hm := ite_f hc4 hm
 refine WP.skip (tn (WP.seq (WP.seq (WP.region (V rfl (ov_fieldAddr underlying48 rfl rfl rfl sizeOf42 rfl rfl) (Vl 0 isAgg42 rfl (V rfl (ov_len_slice underlying42 rfl rfl) (V rfl (ov_gtr rfl rfl rfl) (WL.nil (tn ?_))))))))))
 refine WP.cond rfl (fun hc5 => ?_) (fun hc5 => ?_)
 ·
  replace hm := ite_t hc5 hm
  refine WP.seq (WP.region (Va rfl (WL.nil (tn (WP.ret (then_ret ?_))))))
  obtain rfl := Option.some.inj hm
  refine retQ_ret results59 (Res.tmp rfl Res.nil) rfl (fun w' s => ⟨s.below, ?_⟩)
  exact rfl
 replace hm := ite_f hc5 hm
 refine WP.skip (tn (WP.seq (WP.seq (WP.region (V rfl (ov_load_whole (i := 0) isAgg48 sizeOf48 rfl rfl rfl rfl) ?_)))))
 obtain ⟨r1, e1, hm⟩ := bind_some hm
 refine wo rfl (oq_con (r := (.int .i64 r1)) call97 rfl rfl (fun w' s => ⟨_, (ref14_steps_con p_s ao1 cap1  w' H s.hold h1 hc1 hG r1 e1)⟩)) ?_
 refine Va rfl (WL.nil (tn (WP.seq (WP.region (Vm rfl (V rfl (ov_neq rfl rfl rfl) (WL.nil (tn ?_))))))))
 refine WP.cond rfl (fun hc6 => ?_) (fun hc6 => ?_)
 ·
  replace hm := ite_t hc6 hm
  refine WP.seq (WP.region (Vm rfl (Va rfl (WL.nil (tn (WP.ret (then_ret ?_)))))))
  obtain rfl := Option.some.inj hm
  refine retQ_ret results59 (Res.tmp rfl Res.nil) rfl (fun w' s => ⟨s.below, ?_⟩)
  exact rfl
 replace hm := ite_f hc6 hm
 refine WP.skip (tn ?_)
 obtain ⟨k1, hk1, hm⟩ := joinK_some hm
 refine WP.seq_join (fun g' S' => Sub [(1000000007, (.bool false))] g' ∧ (∀ w', S' w' → St w H [] H w') ∧ k1 = some r) ?_ ?_
 ·
  refine WP.seq (WP.region (Va rfl (WL.nil (tn (WP.block ?_)))))
  refine WP.loop (fun m1 g' S' => ∃ (i1 : Int), Sub [(1, (pB b1 0)), (4, (.int .i64 i1)), (1000000007, (.bool false))] g' ∧ (∀ w', S' w' → St w H [.blk b1 48 [(.int .i64 p_s.actuators), (.slice ao1 p_s.steps.length cap1)]] H w') ∧ ref14_Check_loop1 p_s k1 m1 i1 = some r) ((Int.toNat (p_s.actuators - 0) + 1)) ⟨0, (Sub.all rfl), fun w' s => s, hm⟩ ?_ ?_
  ·
   rintro g' S' ⟨_, _, _, hm⟩
   exact none_some hm
  rintro m1 g' S' ⟨i1, hsub1, hS1, hm⟩
  refine WP.sub hsub1 (WP.weaken hS1 ?_)
  rw [ref14_Check_loop1] at hm
  refine WP.seq (WP.seq (WP.region (Vm rfl (V rfl (ov_fieldAddr underlying48 rfl rfl rfl sizeOf3 rfl rfl) (Vl 0 isAgg3 rfl (V rfl (ov_lss rfl rfl rfl) (WL.nil (tn ?_))))))))
  refine WP.cond rfl (fun hc7 => ?_) (fun hc7 => ?_)
  ·
   replace hm := ite_t hc7 hm
   refine WP.skip (tn (WP.seq (WP.block (WP.seq (WP.region (V rfl (ov_load_whole (i := 0) isAgg48 sizeOf48 rfl rfl rfl rfl) (Vm rfl ?_)))))))
   obtain ⟨r2, e2, hm⟩ := bind_some hm
   refine wo rfl (oq_con (r := (.bool r2)) call98 rfl rfl (fun w' s => ⟨_, (ref14_moves_con p_s i1 ao1 cap1  w' H s.hold h1 hc1 hG r2 e2)⟩)) ?_
   refine V rfl (ov_not rfl rfl) (WL.nil (tn ?_))
   refine WP.cond rfl (fun hc8 => ?_) (fun hc8 => ?_)
   ·
    replace hm := ite_t hc8 hm
    refine WP.seq (WP.region (Va rfl (WL.nil (tn (WP.ret (block_ret (then_ret (then_ret (block_ret (then_ret ?_))))))))))
    obtain rfl := Option.some.inj hm
    refine retQ_ret results59 (Res.tmp rfl Res.nil) rfl (fun w' s => ⟨s.below, ?_⟩)
    exact rfl
   replace hm := ite_f hc8 hm
   refine WP.skip (bn (tn (WP.region (Vm rfl (V rfl (ov_add rfl rfl rfl) (Va rfl (WL.nil (tn ?_))))))))
   exact ⟨(IntKind.wrap .i64 (i1 + 1)), (Sub.all rfl), fun w' s => s, hm⟩
  replace hm := ite_f hc7 hm
  refine WP.exit (then_exit (then_exit (block_here (tn ?_))))
  exact ⟨(Sub.all rfl), fun w' s => (s.select [] (by decide) rfl), hm⟩
 rintro g' S' ⟨hsub2, hS2, hm⟩
 refine WP.sub hsub2 (WP.weaken hS2 ?_)
 replace hm := hk1.symm.trans hm
 refine WP.seq (WP.region (Va rfl (WL.nil (tn (WP.ret ?_)))))
 obtain rfl := Option.some.inj hm
 refine retQ_ret results59 (Res.tmp rfl Res.nil) rfl (fun w' s => ⟨s.below, ?_⟩)
 exact rfl
theorem ref15_Sequence_con (p_x : Node) (p_on : (List (List UInt8))) (ao1 : Option Addr) (cap1 : Nat) (ao2 : Option Addr) (cap2 : Nat) (ao3 : Option Addr) (cap3 : Nat) (w : World) (H : Heap) (hH : Le H (hp w)) (h1 : SL H encStroke ao1 p_x.step.strokes) (hc1 : p_x.step.strokes.length ≤ cap1) (h2 : SL H encNode ao2 p_x.nodes) (hc2 : p_x.nodes.length ≤ cap2) (h3 : SL H encStr ao3 p_on) (hc3 : p_on.length ≤ cap3) (hG : Glob H) (r : (Sequence × Int)) (hm : ref15_Sequence p_x p_on = some r) :
  Con prog 21 [(.agg #[(.int .i64 p_x.kind), (.slice ao1 p_x.step.strokes.length cap1), (.int .i64 p_x.step.wait), (.int .i64 p_x.count), (mkS p_x.name), (.slice ao2 p_x.nodes.length cap2)]), (.slice ao3 p_on.length cap3)] w H (fun v H' => ∃ (ao4 : Option Addr) (cap4 : Nat), v = (.tuple #[(.agg #[(.int .i64 r.1.actuators), (.slice ao4 r.1.steps.length cap4)]), (.int .i64 r.2)]) ∧ SL H' encStep ao4 r.1.steps ∧ r.1.steps.length ≤ cap4) := by
 unfold ref15_Sequence at hm
 refine con_of hH func21 rfl 29 ntmps21 rfl ?_
 refine WP.seq (WP.region ?_)
 refine ws rfl (os_box (cs := [(.int .i64 p_x.kind), (.slice ao1 p_x.step.strokes.length cap1), (.int .i64 p_x.step.wait), (.int .i64 p_x.count), (mkS p_x.name), (.slice ao2 p_x.nodes.length cap2)]) rfl rfl rfl (fun b1 => ?_))
 refine ws rfl (os_alloc (cs := [(.int .i64 0), (.slice none 0 0)]) zeroValue48 rfl rfl (fun b2 => ?_))
 refine Va rfl (WL.nil (tn (WP.seq (WP.region (V rfl (ov_load_whole (i := 1) isAgg28 sizeOf28 rfl rfl rfl rfl) (Vm rfl ?_))))))
 obtain ⟨r1, e1, hm⟩ := bind_some hm
 refine ws rfl (os_con call19 rfl rfl (fun w' s => (ref15_Unfold_con p_x p_on ao1 cap1 ao2 cap2 ao3 cap3  w' H s.hold h1 hc1 h2 hc2 h3 hc3 hG r1 e1)) (fun rr1 H1 hle1 hR1 => ?_))
 replace hG := hG.mono hle1
 obtain ⟨ao5, cap5, rfl, h5, hc5⟩ := hR1
 refine Vm rfl (Ve rfl (Ve rfl (Va rfl (Va rfl (WL.nil (tn (WP.seq (WP.seq (WP.region (Vm rfl (V rfl (ov_neq rfl rfl rfl) (WL.nil (tn ?_)))))))))))))
 refine WP.cond rfl (fun hc6 => ?_) (fun hc6 => ?_)
 ·
  replace hm := ite_t hc6 hm
  refine WP.seq (WP.region (V rfl (ov_build (r := (.agg #[(.int .i64 0), (.slice none 0 0)])) rfl rfl (fun _ => by kernel_rfl)) (Vm rfl ?_)))
  refine ws0 rfl (os_store (i := 0) (vs := [(.int .i64 0), (.slice none 0 0)]) (cs' := [(.int .i64 0), (.slice none 0 0)]) sizeOf48 rfl rfl rfl rfl rfl rfl rfl rfl rfl ?_)
  refine Va rfl (WL.nil (tn (WP.ret (then_ret ?_))))
  obtain rfl := Option.some.inj hm
  refine retQ_ret results21 (Res.cell rfl (box_loads (i := 0) isAgg48 sizeOf48 rfl rfl) (Res.tmp rfl Res.nil)) rfl (fun w' s => ⟨s.below, ?_⟩)
  exact ⟨none, 0, rfl, SL.nil _ _ _, Nat.le_refl _⟩
 replace hm := ite_f hc6 hm
 refine WP.skip (tn (WP.seq (WP.region (Vm rfl ?_))))
 obtain ⟨r2, e2, hm⟩ := bind_some hm
 refine ws rfl (os_con call58 rfl rfl (fun w' s => (ref14_Of_con r1.1 ao5 cap5  w' H1 s.hold h5 hc5 hG r2 e2)) (fun rr2 H2 hle2 hR2 => ?_))
 replace hG := hG.mono hle2
 obtain ⟨ao6, cap6, rfl, h6, hc7⟩ := hR2
 refine ws rfl (os_alloc (cs := [(.int .i64 0), (.slice none 0 0)]) zeroValue48 rfl rfl (fun b3 => ?_))
 refine ws0 rfl (os_store (i := 0) (vs := [(.int .i64 r2.actuators), (.slice ao6 r2.steps.length cap6)]) (cs' := [(.int .i64 r2.actuators), (.slice ao6 r2.steps.length cap6)]) sizeOf48 rfl rfl rfl rfl rfl rfl rfl rfl rfl ?_)
 refine WL.nil (tn (WP.seq (WP.seq (WP.region (V rfl (ov_load_whole (i := 0) isAgg48 sizeOf48 rfl rfl rfl rfl) ?_)))))
 obtain ⟨r3, e3, hm⟩ := bind_some hm
 refine wo rfl (oq_con (r := (.int .i64 r3)) call59 rfl rfl (fun w' s => ⟨_, (ref14_Check_con r2 ao6 cap6  w' H2 s.hold h6 hc7 hG r3 e3)⟩)) ?_
 refine Va rfl (WL.nil (tn (WP.seq (WP.region (Vm rfl (V rfl (ov_neq rfl rfl rfl) (WL.nil (tn ?_))))))))
 refine WP.cond rfl (fun hc8 => ?_) (fun hc8 => ?_)
 ·
  replace hm := ite_t hc8 hm
  refine WP.seq (WP.region (V rfl (ov_build (r := (.agg #[(.int .i64 0), (.slice none 0 0)])) rfl rfl (fun _ => by kernel_rfl)) (Vm rfl ?_)))
  refine ws0 rfl (os_store (i := 1) (vs := [(.int .i64 0), (.slice none 0 0)]) (cs' := [(.int .i64 0), (.slice none 0 0)]) sizeOf48 rfl rfl rfl rfl rfl rfl rfl rfl rfl ?_)
  refine Va rfl (WL.nil (tn (WP.ret (then_ret ?_))))
  obtain rfl := Option.some.inj hm
  refine retQ_ret results21 (Res.cell rfl (box_loads (i := 1) isAgg48 sizeOf48 rfl rfl) (Res.tmp rfl Res.nil)) rfl (fun w' s => ⟨s.below, ?_⟩)
  exact ⟨none, 0, rfl, SL.nil _ _ _, Nat.le_refl _⟩
 replace hm := ite_f hc8 hm
 refine WP.skip (tn (WP.seq (WP.region (V rfl (ov_load_whole (i := 0) isAgg48 sizeOf48 rfl rfl rfl rfl) ?_))))
 refine ws0 rfl (os_store (i := 1) (vs := [(.int .i64 r2.actuators), (.slice ao6 r2.steps.length cap6)]) (cs' := [(.int .i64 r2.actuators), (.slice ao6 r2.steps.length cap6)]) sizeOf48 rfl rfl rfl rfl rfl rfl rfl rfl rfl ?_)
 refine Va rfl (WL.nil (tn (WP.ret ?_)))
 obtain rfl := Option.some.inj hm
 refine retQ_ret results21 (Res.cell rfl (box_loads (i := 1) isAgg48 sizeOf48 rfl rfl) (Res.tmp rfl Res.nil)) rfl (fun w' s => ⟨s.below, ?_⟩)
 exact ⟨ao6, cap6, rfl, h6.mono s.le_newer, hc7⟩
theorem ref15_Put_con (p_l : (List (List UInt8))) (p_s : (List UInt8)) (ao1 : Option Addr) (cap1 : Nat) (w : World) (H : Heap) (hH : Le H (hp w)) (h1 : SL H encStr ao1 p_l) (hc1 : p_l.length ≤ cap1) (hG : Glob H) (r : (List (List UInt8))) (hm : ref15_Put p_l p_s = some r) :
  Con prog 108 [(.slice ao1 p_l.length cap1), (mkS p_s)] w H (fun v H' => ∃ (ao2 : Option Addr) (cap2 : Nat), v = (.slice ao2 r.length cap2) ∧ SL H' encStr ao2 r ∧ r.length ≤ cap2) := by
 unfold ref15_Put at hm
 refine con_of hH func108 rfl 48 ntmps108 rfl ?_
 refine WP.seq (WP.region (Va rfl (WL.nil (tn (WP.seq (WP.region (Va rfl (WL.nil (tn (WP.seq (WP.region (Va rfl (WL.nil ?_)))))))))))))
 refine tn ?_
 obtain ⟨k1, hk1, hm⟩ := joinK_some hm
 refine WP.seq_join (fun g' S' => ∃ (c5 : Bool) (l6 : (List (List UInt8))) (ao8 : Option Addr) (cap8 : Nat) (xs4 : List Value), RL H encStr l6 xs4 ∧ Sub [(1, (mkS p_s)), (5, (.slice ao8 l6.length cap8)), (6, (.bool c5)), (1000000007, (.bool false))] g' ∧ (∀ w', S' w' → St w H [.row 9 (encStr).size l6.length (.slice ao8 l6.length cap8) xs4] H w') ∧ k1 c5 l6 = some r) ?_ ?_
 ·
  refine WP.seq (WP.region (Va rfl (WL.nil (tn (WP.block ?_)))))
  have rl1 := RL.nil (α := (List UInt8)) H encStr
  refine WP.weaken (fun _ s => s.nilrow 9 (encStr).size) ?_
  refine WP.loop (fun m1 g' S' => ∃ (c1 : Bool) (i1 : Int) (l1 : (List (List UInt8))) (ao3 : Option Addr) (cap3 : Nat) (xs1 : List Value), RL H encStr l1 xs1 ∧ Sub [(0, (.slice ao1 p_l.length cap1)), (1, (mkS p_s)), (5, (.slice ao3 l1.length cap3)), (6, (.bool c1)), (7, (.int .i64 i1)), (1000000007, (.bool false))] g' ∧ (∀ w', S' w' → St w H [.row 9 (encStr).size l1.length (.slice ao3 l1.length cap3) xs1] H w') ∧ ref15_Put_loop1 p_l p_s k1 m1 c1 i1 l1 = some r) ((Int.toNat ((p_l.length : Int) - 0) + 1)) ⟨false, 0, ([] : List (List UInt8)), none, 0, [], rl1, (Sub.all rfl), fun w' s => s, hm⟩ ?_ ?_
  ·
   rintro g' S' ⟨_, _, _, _, _, _, _, _, _, hm⟩
   exact none_some hm
  rintro m1 g' S' ⟨c1, i1, l1, ao3, cap3, xs1, rl2, hsub1, hS1, hm⟩
  refine WP.sub hsub1 (WP.weaken hS1 ?_)
  rw [ref15_Put_loop1] at hm
  refine WP.seq (WP.seq (WP.region (Vm rfl (Vm rfl (V rfl (ov_len_slice underlying36 rfl rfl) (V rfl (ov_lss rfl rfl rfl) (WL.nil (tn ?_))))))))
  refine WP.cond rfl (fun hc3 => ?_) (fun hc3 => ?_)
  ·
   replace hm := ite_t hc3 hm
   refine WP.skip (tn ?_)
   obtain ⟨k2, hk2, hm⟩ := joinK_some hm
   refine WP.seq_join (fun g' S' => ∃ (c4 : Bool) (l5 : (List (List UInt8))) (ao7 : Option Addr) (cap7 : Nat) (xs3 : List Value), RL H encStr l5 xs3 ∧ Sub [(0, (.slice ao1 p_l.length cap1)), (1, (mkS p_s)), (5, (.slice ao7 l5.length cap7)), (6, (.bool c4)), (7, (.int .i64 i1)), (1000000007, (.bool false))] g' ∧ (∀ w', S' w' → St w H [.row 9 (encStr).size l5.length (.slice ao7 l5.length cap7) xs3] H w') ∧ k2 c4 l5 = some r) ?_ ?_
   ·
    refine WP.block ?_
    obtain ⟨k3, hk3, hm⟩ := joinK_some hm
    refine WP.seq_join (fun g' S' => ∃ (c3 : Bool) (l3 : (List (List UInt8))) (ao5 : Option Addr) (cap5 : Nat) (xs2 : List Value), RL H encStr l3 xs2 ∧ Sub [(0, (.slice ao1 p_l.length cap1)), (1, (mkS p_s)), (5, (.slice ao5 l3.length cap5)), (6, (.bool c3)), (7, (.int .i64 i1)), (1000000007, (.bool false))] g' ∧ (∀ w', S' w' → St w H [.row 9 (encStr).size l3.length (.slice ao5 l3.length cap5) xs2] H w') ∧ k3 c3 l3 = some r) ?_ ?_
    ·
     refine WP.seq (WP.region (Vm rfl (V rfl (ov_not rfl rfl) (Vm rfl ?_))))
     obtain ⟨c2, e1, hm⟩ := bind_some hm
     refine WL.cut_bool 7 23 (x := c2) ?_ ?_
     ·
      rcases Bool.eq_false_or_eq_true (!c1) with hc4 | hc4
      ·
       replace hm := ite_t hc4 e1
       refine wy hc4 rfl (ov_move rfl rfl) ?_
       refine wy hc4 rfl (ov_move rfl rfl) ?_
       obtain ⟨x1, e2, hm⟩ := bind_some hm
       obtain ⟨h3, h4, h5, cs1, h6, h7⟩ := h1.get e2 (by decide)
       obtain rfl : cs1 = [(mkS x1)] := h6
       refine wy hc4 rfl (ov_indexAddr underlying36 sizeOf9 rfl rfl rfl h3 h4 h5) ?_
       refine wy hc4 rfl (ov_load_elem (v := (mkS x1)) isAgg9 rfl rfl h7) ?_
       refine wy hc4 rfl (ov_move rfl rfl) ?_
       refine wy hc4 rfl (ov_sgeq rfl rfl rfl) ?_
       refine V rfl (ov_pick_true rfl (guard_eq rfl hc4) rfl) ?_
       exact WL.nil ⟨Sub.cons' rfl (congrArg Value.bool (Option.some.inj hm)) (Sub.dropn 7 rfl), fun _ s => s⟩
      replace hm := ite_f hc4 e1
      refine Vi rfl (Idle.no rfl rfl rfl hc4) (Vi rfl (Idle.no rfl rfl rfl hc4) (Vi rfl (Idle.no rfl rfl rfl hc4) (Vi rfl (Idle.no rfl rfl rfl hc4) (Vi rfl (Idle.no rfl rfl rfl hc4) (Vi rfl (Idle.no rfl rfl rfl hc4) (V rfl (ov_pick_false rfl (guard_eq rfl hc4) rfl) ?_))))))
      exact WL.nil ⟨Sub.cons' rfl (congrArg Value.bool (Option.some.inj hm)) (Sub.dropn 7 rfl), fun _ s => s⟩
     refine WL.nil (tn ?_)
     refine WP.cond rfl (fun hc5 => ?_) (fun hc5 => ?_)
     ·
      replace hm := ite_t hc5 hm
      refine WP.seq (WP.region (Vm rfl (Vm rfl ?_)))
      have rl3 : RL H encStr ([p_s] : List (List UInt8)) [(mkS p_s)] := RL.cons (cs := [(mkS p_s)]) (xs := []) rfl (RL.nil _ _)
      refine ws rfl (os_buildSlice (cs := [(mkS p_s)]) (E := 9) (sz := 1) rfl rfl (fun _ => by kernel_rfl) rfl (by decide) (fun b1 => ?_))
      obtain ⟨l2, e3, hm⟩ := bind_some hm
      refine ws rfl (os_app (i := 1) (j := 0) (En := encStr) (xs := xs1) (ys := [(mkS p_s)]) underlying36 (by kernel_rfl : (prog.info? 9).map (fun i => (i.zero, i.size, i.bytes)) = some (some (mkS []), (encStr).size, 16)) rfl (by decide) rfl rfl rfl rfl rfl rfl rl2 rl3 e3 (fun ao4 cap4 rl4 => ?_))
      refine Va rfl (WL.nil (tn (WP.region (Va rfl (WL.nil (tn ?_))))))
      exact ⟨true, (l1 ++ ([p_s] : List (List UInt8))), ao4, cap4, (xs1 ++ [(mkS p_s)]), rl4, (Sub.all rfl), fun w' s => (s.select [1] (by decide) rfl), hm⟩
     replace hm := ite_f hc5 hm
     refine WP.skip (tn ?_)
     exact ⟨c1, l1, ao3, cap3, xs1, rl2, (Sub.all rfl), fun w' s => s, hm⟩
    rintro g' S' ⟨c3, l3, ao5, cap5, xs2, rl5, hsub2, hS2, hm⟩
    refine WP.sub hsub2 (WP.weaken hS2 ?_)
    replace hm := (congrFun (congrFun hk3 c3) l3).symm.trans hm
    refine WP.seq (WP.region (Vm rfl (Vm rfl ?_)))
    obtain ⟨x2, e4, hm⟩ := bind_some hm
    obtain ⟨h8, h9, h10, cs2, h11, h12⟩ := h1.get e4 (by decide)
    obtain rfl : cs2 = [(mkS x2)] := h11
    refine V rfl (ov_indexAddr underlying36 sizeOf9 rfl rfl rfl h8 h9 h10) (V rfl (ov_load_elem (v := (mkS x2)) isAgg9 rfl rfl h12) (Vm rfl (V rfl (ov_sneq rfl rfl rfl) (WL.nil (tn ?_)))))
    refine WP.cond rfl (fun hc6 => ?_) (fun hc6 => ?_)
    ·
     replace hm := ite_t hc6 hm
     refine WP.region (Vm rfl (Vm rfl (Vm rfl ?_)))
     obtain ⟨x3, e5, hm⟩ := bind_some hm
     obtain ⟨h13, h14, h15, cs3, h16, h17⟩ := h1.get e5 (by decide)
     obtain rfl : cs3 = [(mkS x3)] := h16
     refine V rfl (ov_indexAddr underlying36 sizeOf9 rfl rfl rfl h13 h14 h15) (V rfl (ov_load_elem (v := (mkS x3)) isAgg9 rfl rfl h17) ?_)
     have rl6 : RL H encStr ([x3] : List (List UInt8)) [(mkS x3)] := RL.cons (cs := [(mkS x3)]) (xs := []) rfl (RL.nil _ _)
     refine ws rfl (os_buildSlice (cs := [(mkS x3)]) (E := 9) (sz := 1) rfl rfl (fun _ => by kernel_rfl) rfl (by decide) (fun b2 => ?_))
     obtain ⟨l4, e6, hm⟩ := bind_some hm
     refine ws rfl (os_app (i := 1) (j := 0) (En := encStr) (xs := xs2) (ys := [(mkS x3)]) underlying36 (by kernel_rfl : (prog.info? 9).map (fun i => (i.zero, i.size, i.bytes)) = some (some (mkS []), (encStr).size, 16)) rfl (by decide) rfl rfl rfl rfl rfl rfl rl5 rl6 e6 (fun ao6 cap6 rl7 => ?_))
     refine Va rfl (WL.nil (bn (tn ?_)))
     exact ⟨c3, (l3 ++ ([x3] : List (List UInt8))), ao6, cap6, (xs2 ++ [(mkS x3)]), rl7, (Sub.all rfl), fun w' s => (s.select [1] (by decide) rfl), hm⟩
    replace hm := ite_f hc6 hm
    refine WP.skip (bn (tn ?_))
    exact ⟨c3, l3, ao5, cap5, xs2, rl5, (Sub.all rfl), fun w' s => s, hm⟩
   rintro g' S' ⟨c4, l5, ao7, cap7, xs3, rl8, hsub3, hS3, hm⟩
   refine WP.sub hsub3 (WP.weaken hS3 ?_)
   replace hm := (congrFun (congrFun hk2 c4) l5).symm.trans hm
   refine WP.region (Vm rfl (V rfl (ov_add rfl rfl rfl) (Va rfl (WL.nil (tn ?_)))))
   exact ⟨c4, (IntKind.wrap .i64 (i1 + 1)), l5, ao7, cap7, xs3, rl8, (Sub.all rfl), fun w' s => s, hm⟩
  replace hm := ite_f hc3 hm
  refine WP.exit (then_exit (then_exit (block_here (tn ?_))))
  exact ⟨c1, l1, ao3, cap3, xs1, rl2, (Sub.all rfl), fun w' s => s, hm⟩
 rintro g' S' ⟨c5, l6, ao8, cap8, xs4, rl9, hsub4, hS4, hm⟩
 refine WP.sub hsub4 (WP.weaken hS4 ?_)
 replace hm := (congrFun (congrFun hk1 c5) l6).symm.trans hm
 obtain ⟨k4, hk4, hm⟩ := joinK_some hm
 refine WP.seq_join (fun g' S' => ∃ (l8 : (List (List UInt8))) (ao10 : Option Addr) (cap10 : Nat) (xs5 : List Value), RL H encStr l8 xs5 ∧ Sub [(5, (.slice ao10 l8.length cap10)), (1000000007, (.bool false))] g' ∧ (∀ w', S' w' → St w H [.row 9 (encStr).size l8.length (.slice ao10 l8.length cap10) xs5] H w') ∧ k4 l8 = some r) ?_ ?_
 ·
  refine WP.seq (WP.region (Vm rfl (V rfl (ov_not rfl rfl) (WL.nil (tn ?_)))))
  refine WP.cond rfl (fun hc7 => ?_) (fun hc7 => ?_)
  ·
   replace hm := ite_t hc7 hm
   refine WP.region (Vm rfl (Vm rfl ?_))
   have rl10 : RL H encStr ([p_s] : List (List UInt8)) [(mkS p_s)] := RL.cons (cs := [(mkS p_s)]) (xs := []) rfl (RL.nil _ _)
   refine ws rfl (os_buildSlice (cs := [(mkS p_s)]) (E := 9) (sz := 1) rfl rfl (fun _ => by kernel_rfl) rfl (by decide) (fun b3 => ?_))
   obtain ⟨l7, e7, hm⟩ := bind_some hm
   refine ws rfl (os_app (i := 1) (j := 0) (En := encStr) (xs := xs4) (ys := [(mkS p_s)]) underlying36 (by kernel_rfl : (prog.info? 9).map (fun i => (i.zero, i.size, i.bytes)) = some (some (mkS []), (encStr).size, 16)) rfl (by decide) rfl rfl rfl rfl rfl rfl rl9 rl10 e7 (fun ao9 cap9 rl11 => ?_))
   refine Va rfl (WL.nil (tn ?_))
   exact ⟨(l6 ++ ([p_s] : List (List UInt8))), ao9, cap9, (xs4 ++ [(mkS p_s)]), rl11, (Sub.all rfl), fun w' s => (s.select [1] (by decide) rfl), hm⟩
  replace hm := ite_f hc7 hm
  refine WP.skip (tn ?_)
  exact ⟨l6, ao8, cap8, xs4, rl9, (Sub.all rfl), fun w' s => s, hm⟩
 rintro g' S' ⟨l8, ao10, cap10, xs5, rl12, hsub5, hS5, hm⟩
 refine WP.sub hsub5 (WP.weaken hS5 ?_)
 replace hm := (congrFun hk4 l8).symm.trans hm
 refine WP.seq (WP.region (Vm rfl (Va rfl (WL.nil (tn (WP.ret ?_))))))
 obtain rfl := Option.some.inj hm
 refine retQ_ret results108 (Res.tmp rfl Res.nil) rfl (fun w' s => ⟨s.below, ?_⟩)
 obtain ⟨h18, hc8⟩ := s.ret_row (i := 0) rfl rl12
 exact ⟨ao10, cap10, rfl, h18, hc8⟩
theorem ref15_Asked_body_con (self : Node → Option (List (List UInt8))) (hself : ∀ (p_x : Node) (ao1 : Option Addr) (cap1 : Nat) (ao2 : Option Addr) (cap2 : Nat) (w : World) (H : Heap) (hH : Le H (hp w)) (h1 : SL H encStroke ao1 p_x.step.strokes) (hc1 : p_x.step.strokes.length ≤ cap1) (h2 : SL H encNode ao2 p_x.nodes) (hc2 : p_x.nodes.length ≤ cap2) (hG : Glob H) (r : (List (List UInt8))) (hm : self p_x = some r), Con prog 67 [(.agg #[(.int .i64 p_x.kind), (.slice ao1 p_x.step.strokes.length cap1), (.int .i64 p_x.step.wait), (.int .i64 p_x.count), (mkS p_x.name), (.slice ao2 p_x.nodes.length cap2)])] w H (fun v H' => ∃ (ao3 : Option Addr) (cap3 : Nat), v = (.slice ao3 r.length cap3) ∧ SL H' encStr ao3 r ∧ r.length ≤ cap3)) (p_x : Node) (ao1 : Option Addr) (cap1 : Nat) (ao2 : Option Addr) (cap2 : Nat) (w : World) (H : Heap) (hH : Le H (hp w)) (h1 : SL H encStroke ao1 p_x.step.strokes) (hc1 : p_x.step.strokes.length ≤ cap1) (h2 : SL H encNode ao2 p_x.nodes) (hc2 : p_x.nodes.length ≤ cap2) (hG : Glob H) (r : (List (List UInt8))) (hm : ref15_Asked_body self p_x = some r) :
  Con prog 67 [(.agg #[(.int .i64 p_x.kind), (.slice ao1 p_x.step.strokes.length cap1), (.int .i64 p_x.step.wait), (.int .i64 p_x.count), (mkS p_x.name), (.slice ao2 p_x.nodes.length cap2)])] w H (fun v H' => ∃ (ao3 : Option Addr) (cap3 : Nat), v = (.slice ao3 r.length cap3) ∧ SL H' encStr ao3 r ∧ r.length ≤ cap3) := by
 unfold ref15_Asked_body at hm
 refine con_of hH func67 rfl 40 ntmps67 rfl ?_
 refine WP.seq (WP.region ?_)
 refine ws rfl (os_box (cs := [(.int .i64 p_x.kind), (.slice ao1 p_x.step.strokes.length cap1), (.int .i64 p_x.step.wait), (.int .i64 p_x.count), (mkS p_x.name), (.slice ao2 p_x.nodes.length cap2)]) rfl rfl rfl (fun b1 => ?_))
 refine Va rfl (WL.nil (tn (WP.seq (WP.region (Va rfl (WL.nil (tn ?_)))))))
 obtain ⟨k1, hk1, hm⟩ := joinK_some hm
 refine WP.seq_join (fun g' S' => ∃ (H2 : Heap) (l1 : (List (List UInt8))) (ao5 : Option Addr) (cap5 : Nat), Le H H2 ∧ SL H2 encStr ao5 l1 ∧ l1.length ≤ cap5 ∧ Sub [(1, (pB b1 0)), (3, (.slice ao5 l1.length cap5)), (1000000007, (.bool false))] g' ∧ (∀ w', S' w' → St w H [.blk b1 28 [(.int .i64 p_x.kind), (.slice ao1 p_x.step.strokes.length cap1), (.int .i64 p_x.step.wait), (.int .i64 p_x.count), (mkS p_x.name), (.slice ao2 p_x.nodes.length cap2)]] H2 w') ∧ k1 l1 = some r) ?_ ?_
 ·
  refine WP.seq (WP.region (V rfl (ov_fieldAddr underlying28 rfl rfl rfl sizeOf3 rfl rfl) (Vl 0 isAgg3 rfl (V rfl (ov_eql rfl rfl rfl) (WL.nil (tn ?_))))))
  refine WP.cond rfl (fun hc4 => ?_) (fun hc4 => ?_)
  ·
   replace hm := ite_t hc4 hm
   refine WP.region (Vm rfl (V rfl (ov_fieldAddr underlying28 rfl rfl rfl sizeOf9 rfl rfl) (Vl 0 isAgg9 rfl ?_)))
   obtain ⟨r1, e1, hm⟩ := bind_some hm
   refine ws rfl (os_con call108 rfl rfl (fun w' s => (ref15_Put_con [] p_x.name none 0  w' H s.hold (SL.nil _ _ _) (Nat.le_refl _) hG r1 e1)) (fun rr1 H1 hle1 hR1 => ?_))
   replace h2 := h2.mono hle1
   replace hG := hG.mono hle1
   obtain ⟨ao4, cap4, rfl, h4, hc5⟩ := hR1
   refine Va rfl (WL.nil (tn ?_))
   exact ⟨H1, r1, ao4, cap4, hle1, h4, hc5, (Sub.all rfl), fun w' s => s, hm⟩
  replace hm := ite_f hc4 hm
  refine WP.skip (tn ?_)
  exact ⟨H, [], none, 0, (Le.refl _), (SL.nil _ _ _), (Nat.le_refl _), (Sub.all rfl), fun w' s => s, hm⟩
 rintro g' S' ⟨H2, l1, ao5, cap5, hle2, h5, hc6, hsub1, hS1, hm⟩
 refine WP.sub hsub1 (WP.weaken hS1 ?_)
 replace hm := (congrFun hk1 l1).symm.trans hm
 replace h2 := h2.mono hle2
 replace hG := hG.mono hle2
 obtain ⟨k2, hk2, hm⟩ := joinK_some hm
 refine WP.seq_join (fun g' S' => ∃ (H8 : Heap) (l5 : (List (List UInt8))) (ao13 : Option Addr) (cap13 : Nat), Le H2 H8 ∧ SL H8 encStr ao13 l5 ∧ l5.length ≤ cap13 ∧ Sub [(3, (.slice ao13 l5.length cap13)), (1000000007, (.bool false))] g' ∧ (∀ w', S' w' → St w H [] H8 w') ∧ k2 l5 = some r) ?_ ?_
 ·
  refine WP.seq (WP.region (Va rfl (WL.nil (tn (WP.block ?_)))))
  refine WP.loop (fun m1 g' S' => ∃ (H3 : Heap) (l2 : (List (List UInt8))) (ao6 : Option Addr) (cap6 : Nat) (i1 : Int), Le H2 H3 ∧ SL H3 encStr ao6 l2 ∧ l2.length ≤ cap6 ∧ Sub [(1, (pB b1 0)), (3, (.slice ao6 l2.length cap6)), (4, (.int .i64 i1)), (1000000007, (.bool false))] g' ∧ (∀ w', S' w' → St w H [.blk b1 28 [(.int .i64 p_x.kind), (.slice ao1 p_x.step.strokes.length cap1), (.int .i64 p_x.step.wait), (.int .i64 p_x.count), (mkS p_x.name), (.slice ao2 p_x.nodes.length cap2)]] H3 w') ∧ ref15_Asked_loop1 p_x self k2 m1 l2 i1 = some r) ((Int.toNat ((p_x.nodes.length : Int) - 0) + 1)) ⟨H2, l1, ao5, cap5, 0, (Le.refl _), h5, hc6, (Sub.all rfl), fun w' s => s, hm⟩ ?_ ?_
  ·
   rintro g' S' ⟨_, _, _, _, _, _, _, _, _, _, hm⟩
   exact none_some hm
  rintro m1 g' S' ⟨H3, l2, ao6, cap6, i1, hle3, h6, hc7, hsub2, hS2, hm⟩
  refine WP.sub hsub2 (WP.weaken hS2 ?_)
  rw [ref15_Asked_loop1] at hm
  replace h2 := h2.mono hle3
  replace hG := hG.mono hle3
  refine WP.seq (WP.seq (WP.region (Vm rfl (V rfl (ov_fieldAddr underlying28 rfl rfl rfl sizeOf26 rfl rfl) (Vl 0 isAgg26 rfl (V rfl (ov_len_slice underlying26 rfl rfl) (V rfl (ov_lss rfl rfl rfl) (WL.nil (tn ?_)))))))))
  refine WP.cond rfl (fun hc8 => ?_) (fun hc8 => ?_)
  ·
   replace hm := ite_t hc8 hm
   refine WP.skip (tn ?_)
   obtain ⟨k3, hk3, hm⟩ := joinK_some hm
   refine WP.seq_join (fun g' S' => ∃ (H7 : Heap) (l4 : (List (List UInt8))) (ao12 : Option Addr) (cap12 : Nat), Le H3 H7 ∧ SL H7 encStr ao12 l4 ∧ l4.length ≤ cap12 ∧ Sub [(1, (pB b1 0)), (3, (.slice ao12 l4.length cap12)), (4, (.int .i64 i1)), (1000000007, (.bool false))] g' ∧ (∀ w', S' w' → St w H [.blk b1 28 [(.int .i64 p_x.kind), (.slice ao1 p_x.step.strokes.length cap1), (.int .i64 p_x.step.wait), (.int .i64 p_x.count), (mkS p_x.name), (.slice ao2 p_x.nodes.length cap2)]] H7 w') ∧ k3 l4 = some r) ?_ ?_
   ·
    refine WP.block (WP.seq (WP.region (V rfl (ov_fieldAddr underlying28 rfl rfl rfl sizeOf26 rfl rfl) (Vl 0 isAgg26 rfl (Vm rfl ?_)))))
    obtain ⟨x1, e2, hm⟩ := bind_some hm
    obtain ⟨h9, h10, h11, cs1, h12, h13⟩ := h2.get e2 (by decide)
    obtain ⟨ao7, cap7, ao8, cap8, rfl, h7, hc9, h8, hc10⟩ := (encNode_open h12)
    refine V rfl (ov_indexAddr underlying26 sizeOf28 rfl rfl rfl h9 h10 h11) (V rfl (ov_load_elems (vs := [(.int .i64 x1.kind), (.slice ao7 x1.step.strokes.length cap7), (.int .i64 x1.step.wait), (.int .i64 x1.count), (mkS x1.name), (.slice ao8 x1.nodes.length cap8)]) isAgg28 sizeOf28 rfl rfl rfl h13 h11) ?_)
    obtain ⟨r2, e3, hm⟩ := bind_some hm
    refine ws rfl (os_con call67 rfl rfl (fun w' s => (hself x1 ao7 cap7 ao8 cap8  w' H3 s.hold h7 hc9 h8 hc10 hG r2 e3)) (fun rr2 H4 hle4 hR2 => ?_))
    replace h6 := h6.mono hle4
    replace hG := hG.mono hle4
    obtain ⟨ao9, cap9, rfl, h14, hc11⟩ := hR2
    refine Va rfl (WL.nil (tn (WP.seq (WP.region (Va rfl (WL.nil (tn (WP.block ?_))))))))
    refine WP.loop (fun m2 g' S' => ∃ (H5 : Heap) (l3 : (List (List UInt8))) (ao10 : Option Addr) (cap10 : Nat) (i2 : Int), Le H4 H5 ∧ SL H5 encStr ao10 l3 ∧ l3.length ≤ cap10 ∧ Sub [(1, (pB b1 0)), (3, (.slice ao10 l3.length cap10)), (4, (.int .i64 i1)), (5, (.slice ao9 r2.length cap9)), (6, (.int .i64 i2)), (1000000007, (.bool false))] g' ∧ (∀ w', S' w' → St w H [.blk b1 28 [(.int .i64 p_x.kind), (.slice ao1 p_x.step.strokes.length cap1), (.int .i64 p_x.step.wait), (.int .i64 p_x.count), (mkS p_x.name), (.slice ao2 p_x.nodes.length cap2)]] H5 w') ∧ ref15_Asked_loop2 k3 r2 m2 l3 i2 = some r) ((Int.toNat ((r2.length : Int) - 0) + 1)) ⟨H4, l2, ao6, cap6, 0, (Le.refl _), h6, hc7, (Sub.all rfl), fun w' s => s, hm⟩ ?_ ?_
    ·
     rintro g' S' ⟨_, _, _, _, _, _, _, _, _, _, hm⟩
     exact none_some hm
    rintro m2 g' S' ⟨H5, l3, ao10, cap10, i2, hle5, h15, hc12, hsub3, hS3, hm⟩
    refine WP.sub hsub3 (WP.weaken hS3 ?_)
    rw [ref15_Asked_loop2] at hm
    replace h14 := h14.mono hle5
    replace hG := hG.mono hle5
    refine WP.seq (WP.seq (WP.region (Vm rfl (Vm rfl (V rfl (ov_len_slice underlying36 rfl rfl) (V rfl (ov_lss rfl rfl rfl) (WL.nil (tn ?_))))))))
    refine WP.cond rfl (fun hc13 => ?_) (fun hc13 => ?_)
    ·
     replace hm := ite_t hc13 hm
     refine WP.skip (tn (WP.seq (WP.block (WP.region (Vm rfl (Vm rfl (Vm rfl ?_)))))))
     obtain ⟨x2, e4, hm⟩ := bind_some hm
     obtain ⟨h16, h17, h18, cs2, h19, h20⟩ := h14.get e4 (by decide)
     obtain rfl : cs2 = [(mkS x2)] := h19
     refine V rfl (ov_indexAddr underlying36 sizeOf9 rfl rfl rfl h16 h17 h18) (V rfl (ov_load_elem (v := (mkS x2)) isAgg9 rfl rfl h20) ?_)
     obtain ⟨r3, e5, hm⟩ := bind_some hm
     refine ws rfl (os_con call108 rfl rfl (fun w' s => (ref15_Put_con l3 x2 ao10 cap10  w' H5 s.hold h15 hc12 hG r3 e5)) (fun rr3 H6 hle6 hR3 => ?_))
     replace h15 := h15.mono hle6
     obtain ⟨ao11, cap11, rfl, h21, hc14⟩ := hR3
     refine Va rfl (WL.nil (bn (tn (WP.region (Vm rfl (V rfl (ov_add rfl rfl rfl) (Va rfl (WL.nil (tn ?_)))))))))
     exact ⟨H6, r3, ao11, cap11, (IntKind.wrap .i64 (i2 + 1)), (hle5.trans hle6), h21, hc14, (Sub.all rfl), fun w' s => s, hm⟩
    replace hm := ite_f hc13 hm
    refine WP.exit (then_exit (then_exit (block_here (bn (tn ?_)))))
    exact ⟨H5, l3, ao10, cap10, (hle4.trans hle5), h15, hc12, (Sub.all rfl), fun w' s => s, hm⟩
   rintro g' S' ⟨H7, l4, ao12, cap12, hle7, h22, hc15, hsub4, hS4, hm⟩
   refine WP.sub hsub4 (WP.weaken hS4 ?_)
   replace hm := (congrFun hk3 l4).symm.trans hm
   refine WP.region (Vm rfl (V rfl (ov_add rfl rfl rfl) (Va rfl (WL.nil (tn ?_)))))
   exact ⟨H7, l4, ao12, cap12, (IntKind.wrap .i64 (i1 + 1)), (hle3.trans hle7), h22, hc15, (Sub.all rfl), fun w' s => s, hm⟩
  replace hm := ite_f hc8 hm
  refine WP.exit (then_exit (then_exit (block_here (tn ?_))))
  exact ⟨H3, l2, ao6, cap6, hle3, h6, hc7, (Sub.all rfl), fun w' s => (s.select [] (by decide) rfl), hm⟩
 rintro g' S' ⟨H8, l5, ao13, cap13, hle8, h23, hc16, hsub5, hS5, hm⟩
 refine WP.sub hsub5 (WP.weaken hS5 ?_)
 replace hm := (congrFun hk2 l5).symm.trans hm
 refine WP.seq (WP.region (Vm rfl (Va rfl (WL.nil (tn (WP.ret ?_))))))
 obtain rfl := Option.some.inj hm
 refine retQ_ret results67 (Res.tmp rfl Res.nil) rfl (fun w' s => ⟨s.below, ?_⟩)
 exact ⟨ao13, cap13, rfl, h23.mono s.le_newer, hc16⟩
theorem ref15_Asked_con (n : Nat) : ∀ (p_x : Node) (ao1 : Option Addr) (cap1 : Nat) (ao2 : Option Addr) (cap2 : Nat) (w : World) (H : Heap) (hH : Le H (hp w)) (h1 : SL H encStroke ao1 p_x.step.strokes) (hc1 : p_x.step.strokes.length ≤ cap1) (h2 : SL H encNode ao2 p_x.nodes) (hc2 : p_x.nodes.length ≤ cap2) (hG : Glob H) (r : (List (List UInt8))) (hm : ref15_Asked n p_x = some r),
  Con prog 67 [(.agg #[(.int .i64 p_x.kind), (.slice ao1 p_x.step.strokes.length cap1), (.int .i64 p_x.step.wait), (.int .i64 p_x.count), (mkS p_x.name), (.slice ao2 p_x.nodes.length cap2)])] w H (fun v H' => ∃ (ao3 : Option Addr) (cap3 : Nat), v = (.slice ao3 r.length cap3) ∧ SL H' encStr ao3 r ∧ r.length ≤ cap3) := by
 induction n with
 | zero => intro p_x ao1 cap1 ao2 cap2 w H hH h1 hc1 h2 hc2 hG r hm; exact (none_some hm).elim
 | succ n ih => intro p_x ao1 cap1 ao2 cap2 w H hH h1 hc1 h2 hc2 hG r hm; exact ref15_Asked_body_con (ref15_Asked n) ih p_x ao1 cap1 ao2 cap2 w H hH h1 hc1 h2 hc2 hG r hm
theorem ref15_Inputs_con (p_x : Node) (ao1 : Option Addr) (cap1 : Nat) (ao2 : Option Addr) (cap2 : Nat) (w : World) (H : Heap) (hH : Le H (hp w)) (h1 : SL H encStroke ao1 p_x.step.strokes) (hc1 : p_x.step.strokes.length ≤ cap1) (h2 : SL H encNode ao2 p_x.nodes) (hc2 : p_x.nodes.length ≤ cap2) (hG : Glob H) (r : ((List (List UInt8)) × Int)) (hm : ref15_Inputs p_x = some r) :
  Con prog 30 [(.agg #[(.int .i64 p_x.kind), (.slice ao1 p_x.step.strokes.length cap1), (.int .i64 p_x.step.wait), (.int .i64 p_x.count), (mkS p_x.name), (.slice ao2 p_x.nodes.length cap2)])] w H (fun v H' => ∃ (ao3 : Option Addr) (cap3 : Nat), v = (.tuple #[(.slice ao3 r.1.length cap3), (.int .i64 r.2)]) ∧ SL H' encStr ao3 r.1 ∧ r.1.length ≤ cap3) := by
 unfold ref15_Inputs at hm
 refine con_of hH func30 rfl 12 ntmps30 rfl ?_
 refine WP.seq (WP.region ?_)
 refine ws rfl (os_box (cs := [(.int .i64 p_x.kind), (.slice ao1 p_x.step.strokes.length cap1), (.int .i64 p_x.step.wait), (.int .i64 p_x.count), (mkS p_x.name), (.slice ao2 p_x.nodes.length cap2)]) rfl rfl rfl (fun b1 => ?_))
 refine Va rfl (Va rfl (WL.nil (tn (WP.seq (WP.seq (WP.region (V rfl (ov_load_whole (i := 0) isAgg28 sizeOf28 rfl rfl rfl rfl) ?_)))))))
 obtain ⟨r1, e1, hm⟩ := bind_some hm
 refine wo rfl (oq_con (r := (.int .i64 r1)) call32 rfl rfl (fun w' s => ⟨_, (ref15_Check_con p_x ao1 cap1 ao2 cap2  w' H s.hold h1 hc1 h2 hc2 hG r1 e1)⟩)) ?_
 refine Va rfl (WL.nil (tn (WP.seq (WP.region (Vm rfl (V rfl (ov_neq rfl rfl rfl) (WL.nil (tn ?_))))))))
 refine WP.cond rfl (fun hc4 => ?_) (fun hc4 => ?_)
 ·
  replace hm := ite_t hc4 hm
  refine WP.seq (WP.region (Vm rfl (Va rfl (Va rfl (WL.nil (tn (WP.ret (then_ret ?_))))))))
  obtain rfl := Option.some.inj hm
  refine retQ_ret results30 (Res.tmp rfl (Res.tmp rfl Res.nil)) rfl (fun w' s => ⟨s.below, ?_⟩)
  exact ⟨none, 0, rfl, SL.nil _ _ _, Nat.le_refl _⟩
 replace hm := ite_f hc4 hm
 refine WP.skip (tn (WP.seq (WP.region (V rfl (ov_load_whole (i := 0) isAgg28 sizeOf28 rfl rfl rfl rfl) ?_))))
 obtain ⟨r2, e2, hm⟩ := bind_some hm
 refine ws rfl (os_con call67 rfl rfl (fun w' s => (ref15_Asked_con 600 p_x ao1 cap1 ao2 cap2  w' H s.hold h1 hc1 h2 hc2 hG r2 e2)) (fun rr1 H1 hle1 hR1 => ?_))
 obtain ⟨ao4, cap4, rfl, h4, hc5⟩ := hR1
 refine Va rfl (Va rfl (WL.nil (tn (WP.ret ?_))))
 obtain rfl := Option.some.inj hm
 refine retQ_ret results30 (Res.tmp rfl (Res.tmp rfl Res.nil)) rfl (fun w' s => ⟨s.below, ?_⟩)
 exact ⟨ao4, cap4, rfl, h4.mono s.le_newer, hc5⟩
theorem ref15_Chosen_con (p_names : (List (List UInt8))) (p_k : Int) (ao1 : Option Addr) (cap1 : Nat) (w : World) (H : Heap) (hH : Le H (hp w)) (h1 : SL H encStr ao1 p_names) (hc1 : p_names.length ≤ cap1) (hG : Glob H) (r : (List (List UInt8))) (hm : ref15_Chosen p_names p_k = some r) :
  Con prog 73 [(.slice ao1 p_names.length cap1), (.int .i64 p_k)] w H (fun v H' => ∃ (ao2 : Option Addr) (cap2 : Nat), v = (.slice ao2 r.length cap2) ∧ SL H' encStr ao2 r ∧ r.length ≤ cap2) := by
 unfold ref15_Chosen at hm
 refine con_of hH func73 rfl 26 ntmps73 rfl ?_
 refine WP.seq (WP.region (Va rfl (WL.nil (tn (WP.seq (WP.region (Va rfl (WL.nil (tn ?_)))))))))
 obtain ⟨k1, hk1, hm⟩ := joinK_some hm
 refine WP.seq_join (fun g' S' => ∃ (l4 : (List (List UInt8))) (ao6 : Option Addr) (cap6 : Nat) (xs3 : List Value), RL H encStr l4 xs3 ∧ Sub [(5, (.slice ao6 l4.length cap6)), (1000000007, (.bool false))] g' ∧ (∀ w', S' w' → St w H [.row 9 (encStr).size l4.length (.slice ao6 l4.length cap6) xs3] H w') ∧ k1 l4 = some r) ?_ ?_
 ·
  refine WP.seq (WP.region (Va rfl (WL.nil (tn (WP.block ?_)))))
  have rl1 := RL.nil (α := (List UInt8)) H encStr
  refine WP.weaken (fun _ s => s.nilrow 9 (encStr).size) ?_
  refine WP.loop (fun m1 g' S' => ∃ (i1 : Int) (i2 : Int) (l1 : (List (List UInt8))) (ao3 : Option Addr) (cap3 : Nat) (xs1 : List Value), RL H encStr l1 xs1 ∧ Sub [(0, (.slice ao1 p_names.length cap1)), (1, (.int .i64 i1)), (5, (.slice ao3 l1.length cap3)), (6, (.int .i64 i2)), (1000000007, (.bool false))] g' ∧ (∀ w', S' w' → St w H [.row 9 (encStr).size l1.length (.slice ao3 l1.length cap3) xs1] H w') ∧ ref15_Chosen_loop1 p_names k1 m1 i1 i2 l1 = some r) ((Int.toNat ((p_names.length : Int) - 0) + 1)) ⟨p_k, 0, ([] : List (List UInt8)), none, 0, [], rl1, (Sub.all rfl), fun w' s => s, hm⟩ ?_ ?_
  ·
   rintro g' S' ⟨_, _, _, _, _, _, _, _, _, hm⟩
   exact none_some hm
  rintro m1 g' S' ⟨i1, i2, l1, ao3, cap3, xs1, rl2, hsub1, hS1, hm⟩
  refine WP.sub hsub1 (WP.weaken hS1 ?_)
  rw [ref15_Chosen_loop1] at hm
  refine WP.seq (WP.seq (WP.region (Vm rfl (Vm rfl (V rfl (ov_len_slice underlying36 rfl rfl) (V rfl (ov_lss rfl rfl rfl) (WL.nil (tn ?_))))))))
  refine WP.cond rfl (fun hc3 => ?_) (fun hc3 => ?_)
  ·
   replace hm := ite_t hc3 hm
   refine WP.skip (tn (WP.seq (WP.block ?_)))
   obtain ⟨k2, hk2, hm⟩ := joinK_some hm
   refine WP.seq_join (fun g' S' => ∃ (l3 : (List (List UInt8))) (ao5 : Option Addr) (cap5 : Nat) (xs2 : List Value), RL H encStr l3 xs2 ∧ Sub [(0, (.slice ao1 p_names.length cap1)), (1, (.int .i64 i1)), (5, (.slice ao5 l3.length cap5)), (6, (.int .i64 i2)), (1000000007, (.bool false))] g' ∧ (∀ w', S' w' → St w H [.row 9 (encStr).size l3.length (.slice ao5 l3.length cap5) xs2] H w') ∧ k2 l3 = some r) ?_ ?_
   ·
    refine WP.seq (WP.region (Vm rfl (V rfl (ov_rem rfl rfl rfl (by decide)) (V rfl (ov_eql rfl rfl rfl) (WL.nil (tn ?_))))))
    refine WP.cond rfl (fun hc4 => ?_) (fun hc4 => ?_)
    ·
     replace hm := ite_t hc4 hm
     refine WP.region (Vm rfl (Vm rfl (Vm rfl ?_)))
     obtain ⟨x1, e1, hm⟩ := bind_some hm
     obtain ⟨h3, h4, h5, cs1, h6, h7⟩ := h1.get e1 (by decide)
     obtain rfl : cs1 = [(mkS x1)] := h6
     refine V rfl (ov_indexAddr underlying36 sizeOf9 rfl rfl rfl h3 h4 h5) (V rfl (ov_load_elem (v := (mkS x1)) isAgg9 rfl rfl h7) ?_)
     have rl3 : RL H encStr ([x1] : List (List UInt8)) [(mkS x1)] := RL.cons (cs := [(mkS x1)]) (xs := []) rfl (RL.nil _ _)
     refine ws rfl (os_buildSlice (cs := [(mkS x1)]) (E := 9) (sz := 1) rfl rfl (fun _ => by kernel_rfl) rfl (by decide) (fun b1 => ?_))
     obtain ⟨l2, e2, hm⟩ := bind_some hm
     refine ws rfl (os_app (i := 1) (j := 0) (En := encStr) (xs := xs1) (ys := [(mkS x1)]) underlying36 (by kernel_rfl : (prog.info? 9).map (fun i => (i.zero, i.size, i.bytes)) = some (some (mkS []), (encStr).size, 16)) rfl (by decide) rfl rfl rfl rfl rfl rfl rl2 rl3 e2 (fun ao4 cap4 rl4 => ?_))
     refine Va rfl (WL.nil (tn ?_))
     exact ⟨(l1 ++ ([x1] : List (List UInt8))), ao4, cap4, (xs1 ++ [(mkS x1)]), rl4, (Sub.all rfl), fun w' s => (s.select [1] (by decide) rfl), hm⟩
    replace hm := ite_f hc4 hm
    refine WP.skip (tn ?_)
    exact ⟨l1, ao3, cap3, xs1, rl2, (Sub.all rfl), fun w' s => s, hm⟩
   rintro g' S' ⟨l3, ao5, cap5, xs2, rl5, hsub2, hS2, hm⟩
   refine WP.sub hsub2 (WP.weaken hS2 ?_)
   replace hm := (congrFun hk2 l3).symm.trans hm
   refine WP.region (Vm rfl (V rfl (ov_quo rfl rfl rfl (by decide)) (Va rfl (WL.nil (bn (tn (WP.region (Vm rfl (V rfl (ov_add rfl rfl rfl) (Va rfl (WL.nil (tn ?_))))))))))))
   exact ⟨(IntKind.wrap .i64 (Int.tdiv i1 2)), (IntKind.wrap .i64 (i2 + 1)), l3, ao5, cap5, xs2, rl5, (Sub.all rfl), fun w' s => s, hm⟩
  replace hm := ite_f hc3 hm
  refine WP.exit (then_exit (then_exit (block_here (tn ?_))))
  exact ⟨l1, ao3, cap3, xs1, rl2, (Sub.all rfl), fun w' s => s, hm⟩
 rintro g' S' ⟨l4, ao6, cap6, xs3, rl6, hsub3, hS3, hm⟩
 refine WP.sub hsub3 (WP.weaken hS3 ?_)
 replace hm := (congrFun hk1 l4).symm.trans hm
 refine WP.seq (WP.region (Vm rfl (Va rfl (WL.nil (tn (WP.ret ?_))))))
 obtain rfl := Option.some.inj hm
 refine retQ_ret results73 (Res.tmp rfl Res.nil) rfl (fun w' s => ⟨s.below, ?_⟩)
 obtain ⟨h8, hc5⟩ := s.ret_row (i := 0) rfl rl6
 exact ⟨ao6, cap6, rfl, h8, hc5⟩
theorem ref15_Faulty_con (p_x : Node) (ao1 : Option Addr) (cap1 : Nat) (ao2 : Option Addr) (cap2 : Nat) (w : World) (H : Heap) (hH : Le H (hp w)) (h1 : SL H encStroke ao1 p_x.step.strokes) (hc1 : p_x.step.strokes.length ≤ cap1) (h2 : SL H encNode ao2 p_x.nodes) (hc2 : p_x.nodes.length ≤ cap2) (hG : Glob H) (r : ((List (List UInt8)) × Int × Int)) (hm : ref15_Faulty p_x = some r) :
  Con prog 35 [(.agg #[(.int .i64 p_x.kind), (.slice ao1 p_x.step.strokes.length cap1), (.int .i64 p_x.step.wait), (.int .i64 p_x.count), (mkS p_x.name), (.slice ao2 p_x.nodes.length cap2)])] w H (fun v H' => ∃ (ao3 : Option Addr) (cap3 : Nat), v = (.tuple #[(.slice ao3 r.1.length cap3), (.int .i64 r.2.1), (.int .i64 r.2.2)]) ∧ SL H' encStr ao3 r.1 ∧ r.1.length ≤ cap3) := by
 unfold ref15_Faulty at hm
 refine con_of hH func35 rfl 42 ntmps35 rfl ?_
 refine WP.seq (WP.region ?_)
 refine ws rfl (os_box (cs := [(.int .i64 p_x.kind), (.slice ao1 p_x.step.strokes.length cap1), (.int .i64 p_x.step.wait), (.int .i64 p_x.count), (mkS p_x.name), (.slice ao2 p_x.nodes.length cap2)]) rfl rfl rfl (fun b1 => ?_))
 refine Va rfl (Va rfl (Va rfl (WL.nil (tn (WP.seq (WP.region (V rfl (ov_load_whole (i := 0) isAgg28 sizeOf28 rfl rfl rfl rfl) ?_)))))))
 obtain ⟨r1, e1, hm⟩ := bind_some hm
 refine ws rfl (os_con call30 rfl rfl (fun w' s => (ref15_Inputs_con p_x ao1 cap1 ao2 cap2  w' H s.hold h1 hc1 h2 hc2 hG r1 e1)) (fun rr1 H1 hle1 hR1 => ?_))
 replace h1 := h1.mono hle1
 replace h2 := h2.mono hle1
 replace hG := hG.mono hle1
 obtain ⟨ao4, cap4, rfl, h4, hc4⟩ := hR1
 refine Vm rfl (Ve rfl (Ve rfl (Va rfl (Va rfl (WL.nil (tn (WP.seq (WP.seq (WP.region (Vm rfl (V rfl (ov_neq rfl rfl rfl) (WL.nil (tn ?_)))))))))))))
 refine WP.cond rfl (fun hc5 => ?_) (fun hc5 => ?_)
 ·
  replace hm := ite_t hc5 hm
  refine WP.seq (WP.region (Vm rfl (Va rfl (Va rfl (Va rfl (WL.nil (tn (WP.ret (then_ret ?_)))))))))
  obtain rfl := Option.some.inj hm
  refine retQ_ret results35 (Res.tmp rfl (Res.tmp rfl (Res.tmp rfl Res.nil))) rfl (fun w' s => ⟨s.below, ?_⟩)
  exact ⟨none, 0, rfl, SL.nil _ _ _, Nat.le_refl _⟩
 replace hm := ite_f hc5 hm
 refine WP.skip (tn (WP.seq (WP.seq (WP.region (Vm rfl (V rfl (ov_len_slice underlying36 rfl rfl) (V rfl (ov_gtr rfl rfl rfl) (WL.nil (tn ?_)))))))))
 refine WP.cond rfl (fun hc6 => ?_) (fun hc6 => ?_)
 ·
  replace hm := ite_t hc6 hm
  refine WP.seq (WP.region (Va rfl (Va rfl (Va rfl (WL.nil (tn (WP.ret (then_ret ?_))))))))
  obtain rfl := Option.some.inj hm
  refine retQ_ret results35 (Res.tmp rfl (Res.tmp rfl (Res.tmp rfl Res.nil))) rfl (fun w' s => ⟨s.below, ?_⟩)
  exact ⟨none, 0, rfl, SL.nil _ _ _, Nat.le_refl _⟩
 replace hm := ite_f hc6 hm
 refine WP.skip (tn ?_)
 obtain ⟨k1, hk1, hm⟩ := joinK_some hm
 refine WP.seq_join (fun g' S' => ∃ (H7 : Heap), Le H1 H7 ∧ Sub [(1000000007, (.bool false))] g' ∧ (∀ w', S' w' → St w H [] H7 w') ∧ k1 = some r) ?_ ?_
 ·
  refine WP.seq (WP.region (Va rfl (WL.nil (tn (WP.block ?_)))))
  refine WP.loop (fun m1 g' S' => ∃ (H2 : Heap) (i1 : Int), Le H1 H2 ∧ Sub [(1, (pB b1 0)), (5, (.slice ao4 r1.1.length cap4)), (7, (.int .i64 i1)), (1000000007, (.bool false))] g' ∧ (∀ w', S' w' → St w H [.blk b1 28 [(.int .i64 p_x.kind), (.slice ao1 p_x.step.strokes.length cap1), (.int .i64 p_x.step.wait), (.int .i64 p_x.count), (mkS p_x.name), (.slice ao2 p_x.nodes.length cap2)]] H2 w') ∧ ref15_Faulty_loop1 p_x r1 k1 m1 i1 = some r) ((Int.toNat ((IntKind.wrap .i64 ((1 : Int) * 2 ^ Int.toNat (r1.1.length : Int))) - 0) + 1)) ⟨H1, 0, (Le.refl _), (Sub.all rfl), fun w' s => s, hm⟩ ?_ ?_
  ·
   rintro g' S' ⟨_, _, _, _, _, hm⟩
   exact none_some hm
  rintro m1 g' S' ⟨H2, i1, hle2, hsub1, hS1, hm⟩
  refine WP.sub hsub1 (WP.weaken hS1 ?_)
  rw [ref15_Faulty_loop1] at hm
  replace h4 := h4.mono hle2
  replace h1 := h1.mono hle2
  replace h2 := h2.mono hle2
  replace hG := hG.mono hle2
  refine WP.seq (WP.seq (WP.region (Vm rfl (Vm rfl (V rfl (ov_len_slice underlying36 rfl rfl) ?_)))))
  obtain ⟨u1, e2, hm⟩ := bind_some hm
  replace e2 := guardO_some e2
  refine V rfl (ov_shlG (b := 64) rfl e2 rfl rfl rfl) (V rfl (ov_lss rfl rfl rfl) (WL.nil (tn ?_)))
  refine WP.cond rfl (fun hc7 => ?_) (fun hc7 => ?_)
  ·
   replace hm := ite_t hc7 hm
   refine WP.skip (tn (WP.seq (WP.block ?_)))
   obtain ⟨k2, hk2, hm⟩ := joinK_some hm
   refine WP.seq_join (fun g' S' => ∃ (H5 : Heap) (i2 : Int), Le H2 H5 ∧ Sub [(1, (pB b1 0)), (5, (.slice ao4 r1.1.length cap4)), (7, (.int .i64 i1)), (9, (.int .i64 i2)), (1000000007, (.bool false))] g' ∧ (∀ w', S' w' → St w H [.blk b1 28 [(.int .i64 p_x.kind), (.slice ao1 p_x.step.strokes.length cap1), (.int .i64 p_x.step.wait), (.int .i64 p_x.count), (mkS p_x.name), (.slice ao2 p_x.nodes.length cap2)]] H5 w') ∧ k2 i2 = some r) ?_ ?_
   ·
    refine WP.region_any (S₀ := St w H [.blk b1 28 [(.int .i64 p_x.kind), (.slice ao1 p_x.step.strokes.length cap1), (.int .i64 p_x.step.wait), (.int .i64 p_x.count), (mkS p_x.name), (.slice ao2 p_x.nodes.length cap2)]] H2) 11 rfl (by kernel_rfl) (fun w' s => s) (fun _ s => s.drew) ?_
    refine TQ 0 (by kernel_rfl) rfl (ov_load_whole (i := 0) isAgg28 sizeOf28 rfl rfl rfl rfl) (TQ 1 (by kernel_rfl) rfl (ov_move rfl rfl) (TQ 2 (by kernel_rfl) rfl (ov_move rfl rfl) ?_))
    refine AL.any (rs := [3, 8]) (by kernel_rfl) (by decide) ?_
    refine ALs.cons (i := 3) rfl (Runs.free rfl) rfl rfl ?_ ?_
    ·
     obtain ⟨r2, e3, hm⟩ := bind_some hm
     refine os_con call73 rfl rfl (fun w' s => (ref15_Chosen_con r1.1 i1 ao4 cap4  w' H2 s.hold h4 hc4 hG r2 e3)) (fun rr2 H3 hle3 hR2 => ?_)
     replace h4 := h4.mono hle3
     replace h1 := h1.mono hle3
     replace h2 := h2.mono hle3
     replace hG := hG.mono hle3
     obtain ⟨ao5, cap5, rfl, h5, hc8⟩ := hR2
     refine ⟨fun w' s => (s.heap hle3), ?_⟩
     refine AL.any (rs := [4, 8]) (by kernel_rfl) (by decide) ?_
     refine ALs.cons (i := 4) rfl (Runs.free rfl) rfl rfl ?_ ?_
     ·
      obtain ⟨r3, e4, hm⟩ := bind_some hm
      refine os_con call21 rfl rfl (fun w' s => (ref15_Sequence_con p_x r2 ao1 cap1 ao2 cap2 ao5 cap5  w' H3 s.hold h1 hc1 h2 hc2 h5 hc8 hG r3 e4)) (fun rr3 H4 hle4 hR3 => ?_)
      replace h4 := h4.mono hle4
      replace h1 := h1.mono hle4
      replace h2 := h2.mono hle4
      replace h5 := h5.mono hle4
      replace hG := hG.mono hle4
      obtain ⟨ao6, cap6, rfl, h6, hc9⟩ := hR3
      refine ⟨fun w' s => (s.heap (hle3.trans hle4)), ?_⟩
      refine TQ 5 (by kernel_rfl) rfl (ov_move rfl rfl) (TQ 6 (by kernel_rfl) rfl (ov_extract rfl rfl rfl) (TQ 7 (by kernel_rfl) rfl (ov_extract rfl rfl rfl) ?_))
      refine AL.any (rs := [8]) (by kernel_rfl) (by decide) ?_
      refine ALs.cons (i := 8) rfl (Runs.free rfl) rfl rfl ?_ ?_
      ·
       refine os_alloc (cs := [(.int .i64 0), (.slice none 0 0)]) zeroValue48 rfl rfl (fun b2 => ?_)
       refine ⟨fun w' s => ((s.select [1] (by decide) rfl).heap (hle3.trans hle4)), ?_⟩
       refine AL.any (rs := [9]) (by kernel_rfl) (by decide) ?_
       refine ALs.cons0 (i := 9) rfl (Runs.free rfl) rfl ?_ ?_
       ·
        refine os_store (i := 0) (vs := [(.int .i64 r3.1.actuators), (.slice ao6 r3.1.steps.length cap6)]) (cs' := [(.int .i64 r3.1.actuators), (.slice ao6 r3.1.steps.length cap6)]) sizeOf48 rfl rfl rfl rfl rfl rfl rfl rfl rfl ?_
        refine ⟨fun w' s => ((s.select [1] (by decide) rfl).heap (hle3.trans hle4)), ?_⟩
        refine TQ 10 (by kernel_rfl) rfl (ov_assign rfl rfl) ?_
        refine AL.done (by kernel_rfl) ?_
        refine tn ?_
        exact ⟨H4, r3.2, (hle3.trans hle4), (Sub.all rfl), fun w' s => (s.select [1] (by decide) rfl), hm⟩
       exact ALs.nil
      exact ALs.nil
     refine ALs.cons (i := 8) rfl (Runs.free rfl) rfl rfl ?_ ?_
     ·
      refine os_alloc (cs := [(.int .i64 0), (.slice none 0 0)]) zeroValue48 rfl rfl (fun b2 => ?_)
      refine ⟨fun w' s => ((s.select [1] (by decide) rfl).heap hle3), ?_⟩
      refine AL.any (rs := [4]) (by kernel_rfl) (by decide) ?_
      refine ALs.cons (i := 4) rfl (Runs.free rfl) rfl rfl ?_ ?_
      ·
       obtain ⟨r3, e4, hm⟩ := bind_some hm
       refine os_con call21 rfl rfl (fun w' s => (ref15_Sequence_con p_x r2 ao1 cap1 ao2 cap2 ao5 cap5  w' H3 s.hold h1 hc1 h2 hc2 h5 hc8 hG r3 e4)) (fun rr3 H4 hle4 hR3 => ?_)
       replace h4 := h4.mono hle4
       replace h1 := h1.mono hle4
       replace h2 := h2.mono hle4
       replace h5 := h5.mono hle4
       replace hG := hG.mono hle4
       obtain ⟨ao6, cap6, rfl, h6, hc9⟩ := hR3
       refine ⟨fun w' s => ((s.select [1] (by decide) rfl).heap (hle3.trans hle4)), ?_⟩
       refine TQ 5 (by kernel_rfl) rfl (ov_move rfl rfl) (TQ 6 (by kernel_rfl) rfl (ov_extract rfl rfl rfl) (TQ 7 (by kernel_rfl) rfl (ov_extract rfl rfl rfl) ?_))
       refine AL.any (rs := [9]) (by kernel_rfl) (by decide) ?_
       refine ALs.cons0 (i := 9) rfl (Runs.free rfl) rfl ?_ ?_
       ·
        refine os_store (i := 0) (vs := [(.int .i64 r3.1.actuators), (.slice ao6 r3.1.steps.length cap6)]) (cs' := [(.int .i64 r3.1.actuators), (.slice ao6 r3.1.steps.length cap6)]) sizeOf48 rfl rfl rfl rfl rfl rfl rfl rfl rfl ?_
        refine ⟨fun w' s => ((s.select [1] (by decide) rfl).heap (hle3.trans hle4)), ?_⟩
        refine TQ 10 (by kernel_rfl) rfl (ov_assign rfl rfl) ?_
        refine AL.done (by kernel_rfl) ?_
        refine tn ?_
        exact ⟨H4, r3.2, (hle3.trans hle4), (Sub.all rfl), fun w' s => (s.select [1] (by decide) rfl), hm⟩
       exact ALs.nil
      exact ALs.nil
     exact ALs.nil
    refine ALs.cons (i := 8) rfl (Runs.free rfl) rfl rfl ?_ ?_
    ·
     refine os_alloc (cs := [(.int .i64 0), (.slice none 0 0)]) zeroValue48 rfl rfl (fun b2 => ?_)
     refine ⟨fun w' s => (s.select [1] (by decide) rfl), ?_⟩
     refine AL.any (rs := [3]) (by kernel_rfl) (by decide) ?_
     refine ALs.cons (i := 3) rfl (Runs.free rfl) rfl rfl ?_ ?_
     ·
      obtain ⟨r2, e3, hm⟩ := bind_some hm
      refine os_con call73 rfl rfl (fun w' s => (ref15_Chosen_con r1.1 i1 ao4 cap4  w' H2 s.hold h4 hc4 hG r2 e3)) (fun rr2 H3 hle3 hR2 => ?_)
      replace h4 := h4.mono hle3
      replace h1 := h1.mono hle3
      replace h2 := h2.mono hle3
      replace hG := hG.mono hle3
      obtain ⟨ao5, cap5, rfl, h5, hc8⟩ := hR2
      refine ⟨fun w' s => ((s.select [1] (by decide) rfl).heap hle3), ?_⟩
      refine AL.any (rs := [4]) (by kernel_rfl) (by decide) ?_
      refine ALs.cons (i := 4) rfl (Runs.free rfl) rfl rfl ?_ ?_
      ·
       obtain ⟨r3, e4, hm⟩ := bind_some hm
       refine os_con call21 rfl rfl (fun w' s => (ref15_Sequence_con p_x r2 ao1 cap1 ao2 cap2 ao5 cap5  w' H3 s.hold h1 hc1 h2 hc2 h5 hc8 hG r3 e4)) (fun rr3 H4 hle4 hR3 => ?_)
       replace h4 := h4.mono hle4
       replace hG := hG.mono hle4
       obtain ⟨ao6, cap6, rfl, h6, hc9⟩ := hR3
       refine ⟨fun w' s => ((s.select [1] (by decide) rfl).heap (hle3.trans hle4)), ?_⟩
       refine TQ 5 (by kernel_rfl) rfl (ov_move rfl rfl) (TQ 6 (by kernel_rfl) rfl (ov_extract rfl rfl rfl) (TQ 7 (by kernel_rfl) rfl (ov_extract rfl rfl rfl) ?_))
       refine AL.any (rs := [9]) (by kernel_rfl) (by decide) ?_
       refine ALs.cons0 (i := 9) rfl (Runs.free rfl) rfl ?_ ?_
       ·
        refine os_store (i := 0) (vs := [(.int .i64 r3.1.actuators), (.slice ao6 r3.1.steps.length cap6)]) (cs' := [(.int .i64 r3.1.actuators), (.slice ao6 r3.1.steps.length cap6)]) sizeOf48 rfl rfl rfl rfl rfl rfl rfl rfl rfl ?_
        refine ⟨fun w' s => ((s.select [1] (by decide) rfl).heap (hle3.trans hle4)), ?_⟩
        refine TQ 10 (by kernel_rfl) rfl (ov_assign rfl rfl) ?_
        refine AL.done (by kernel_rfl) ?_
        refine tn ?_
        exact ⟨H4, r3.2, (hle3.trans hle4), (Sub.all rfl), fun w' s => (s.select [1] (by decide) rfl), hm⟩
       exact ALs.nil
      exact ALs.nil
     exact ALs.nil
    exact ALs.nil
   rintro g' S' ⟨H5, i2, hle5, hsub2, hS2, hm⟩
   refine WP.sub hsub2 (WP.weaken hS2 ?_)
   replace hm := (congrFun hk2 i2).symm.trans hm
   replace h4 := h4.mono hle5
   replace hG := hG.mono hle5
   refine WP.seq (WP.region (Vm rfl (V rfl (ov_neq rfl rfl rfl) (WL.nil (tn ?_)))))
   refine WP.cond rfl (fun hc10 => ?_) (fun hc10 => ?_)
   ·
    replace hm := ite_t hc10 hm
    refine WP.seq (WP.region (Vm rfl (Vm rfl ?_)))
    obtain ⟨r4, e5, hm⟩ := bind_some hm
    refine ws rfl (os_con call73 rfl rfl (fun w' s => (ref15_Chosen_con r1.1 i1 ao4 cap4  w' H5 s.hold h4 hc4 hG r4 e5)) (fun rr4 H6 hle6 hR4 => ?_))
    obtain ⟨ao7, cap7, rfl, h7, hc11⟩ := hR4
    refine Vm rfl (Va rfl (Va rfl (Va rfl (WL.nil (tn (WP.ret (block_ret (then_ret (then_ret (block_ret (then_ret ?_)))))))))))
    obtain rfl := Option.some.inj hm
    refine retQ_ret results35 (Res.tmp rfl (Res.tmp rfl (Res.tmp rfl Res.nil))) rfl (fun w' s => ⟨s.below, ?_⟩)
    exact ⟨ao7, cap7, rfl, h7.mono s.le_newer, hc11⟩
   replace hm := ite_f hc10 hm
   refine WP.skip (bn (tn (WP.region (Vm rfl (V rfl (ov_add rfl rfl rfl) (Va rfl (WL.nil (tn ?_))))))))
   exact ⟨H5, (IntKind.wrap .i64 (i1 + 1)), (hle2.trans hle5), (Sub.all rfl), fun w' s => s, hm⟩
  replace hm := ite_f hc7 hm
  refine WP.exit (then_exit (then_exit (block_here (tn ?_))))
  exact ⟨H2, hle2, (Sub.all rfl), fun w' s => (s.select [] (by decide) rfl), hm⟩
 rintro g' S' ⟨H7, hle7, hsub3, hS3, hm⟩
 refine WP.sub hsub3 (WP.weaken hS3 ?_)
 replace hm := hk1.symm.trans hm
 refine WP.seq (WP.region (Va rfl (Va rfl (Va rfl (WL.nil (tn (WP.ret ?_)))))))
 obtain rfl := Option.some.inj hm
 refine retQ_ret results35 (Res.tmp rfl (Res.tmp rfl (Res.tmp rfl Res.nil))) rfl (fun w' s => ⟨s.below, ?_⟩)
 exact ⟨none, 0, rfl, SL.nil _ _ _, Nat.le_refl _⟩
theorem program_node_body_con (self : Motion → Option Node) (hself : ∀ (p_m : Motion) (t1 : TypeId) (c1 : Value) (w : World) (H : Heap) (hH : Le H (hp w)) (h1 : MotionRep H p_m (.iface t1 c1)) (hG : Glob H) (r : Node) (hm : self p_m = some r), Con prog 74 [(.iface t1 c1)] w H (fun v H' => ∃ (ao1 : Option Addr) (cap1 : Nat) (ao2 : Option Addr) (cap2 : Nat), v = (.agg #[(.int .i64 r.kind), (.slice ao1 r.step.strokes.length cap1), (.int .i64 r.step.wait), (.int .i64 r.count), (mkS r.name), (.slice ao2 r.nodes.length cap2)]) ∧ SL H' encStroke ao1 r.step.strokes ∧ r.step.strokes.length ≤ cap1 ∧ SL H' encNode ao2 r.nodes ∧ r.nodes.length ≤ cap2)) (p_m : Motion) (t1 : TypeId) (c1 : Value) (w : World) (H : Heap) (hH : Le H (hp w)) (h1 : MotionRep H p_m (.iface t1 c1)) (hG : Glob H) (r : Node) (hm : program_node_body self p_m = some r) :
  Con prog 74 [(.iface t1 c1)] w H (fun v H' => ∃ (ao1 : Option Addr) (cap1 : Nat) (ao2 : Option Addr) (cap2 : Nat), v = (.agg #[(.int .i64 r.kind), (.slice ao1 r.step.strokes.length cap1), (.int .i64 r.step.wait), (.int .i64 r.count), (mkS r.name), (.slice ao2 r.nodes.length cap2)]) ∧ SL H' encStroke ao1 r.step.strokes ∧ r.step.strokes.length ≤ cap1 ∧ SL H' encNode ao2 r.nodes ∧ r.nodes.length ≤ cap2) := by
 unfold program_node_body at hm
 refine con_of hH func74 rfl 67 ntmps74 rfl ?_
 refine WP.seq (WP.region ?_)
 refine ws rfl (os_alloc (cs := [(.int .i64 0), (.slice none 0 0), (.int .i64 0), (.int .i64 0), (mkS []), (.slice none 0 0)]) zeroValue28 rfl rfl (fun b1 => ?_))
 refine WL.nil (tn ?_)
 obtain ⟨k1, hk1, hm⟩ := joinK_some hm
 refine WP.seq_join (fun g' S' => Sub [(2, (pB b1 0)), (1000000007, (.bool false))] g' ∧ (∀ w', S' w' → St w H [.blk b1 28 [(.int .i64 0), (.slice none 0 0), (.int .i64 0), (.int .i64 0), (mkS []), (.slice none 0 0)]] H w') ∧ k1 = some r) ?_ ?_
 ·
  refine WP.seq (WP.region (Vm rfl (WL.nil (tn (WP.block (WP.seq (WP.region ?_)))))))
  rcases Bool.eq_false_or_eq_true p_m.isSingle with hc3 | hc3
  ·
   replace hm := ite_t hc3 hm
   obtain ⟨ao3, cap3, hv1, h4, hc4⟩ := MotionRep.open_isSingle h1 hc3
   refine V rfl (ov_typeAssert_yes (c := (.agg #[(.slice ao3 p_m.stp.strokes.length cap3), (.int .i64 p_m.stp.wait)])) underlying141 (fun _ h => by cases h) rfl rfl hv1) (Ve rfl (Ve rfl (WL.nil (tn (WP.cond_true rfl (WP.seq (WP.region ?_)))))))
   refine ws rfl (os_alloc (cs := [(.slice none 0 0), (.int .i64 0)]) zeroValue141 rfl rfl (fun b2 => ?_))
   refine ws0 rfl (os_store (i := 0) (vs := [(.slice ao3 p_m.stp.strokes.length cap3), (.int .i64 p_m.stp.wait)]) (cs' := [(.slice ao3 p_m.stp.strokes.length cap3), (.int .i64 p_m.stp.wait)]) sizeOf141 rfl rfl rfl rfl rfl rfl rfl rfl rfl ?_)
   refine WL.nil (tn (WP.seq ?_))
   refine WP.region_any (S₀ := St w H [.blk b2 141 [(.slice ao3 p_m.stp.strokes.length cap3), (.int .i64 p_m.stp.wait)]] H) 10 rfl (by kernel_rfl) (fun w' s => (s.select [0] (by decide) rfl)) (fun _ s => s.drew) ?_
   refine TQ 0 (by kernel_rfl) rfl (ov_fieldAddr underlying141 rfl rfl rfl sizeOf25 rfl rfl) (TQ 1 (by kernel_rfl) rfl (ov_fieldAddr underlying25 rfl rfl rfl sizeOf23 rfl rfl) (TQ 2 (by kernel_rfl) rfl (ov_load_box (i := 0) isAgg23 rfl rfl rfl rfl) (TQ 4 (by kernel_rfl) rfl (ov_fieldAddr underlying141 rfl rfl rfl sizeOf25 rfl rfl) (TQ 5 (by kernel_rfl) rfl (ov_fieldAddr underlying25 rfl rfl rfl sizeOf3 rfl rfl) (TQ 6 (by kernel_rfl) rfl (ov_load_box (i := 0) isAgg3 rfl rfl rfl rfl) ?_)))))
   refine AL.any (rs := [3]) (by kernel_rfl) (by decide) ?_
   refine ALs.cons (i := 3) rfl (Runs.free rfl) rfl rfl ?_ ?_
   ·
    obtain ⟨l1, e1, hm⟩ := bind_some hm
    refine os_cloneS rfl rfl h4 hc4 e1 (fun ao4 cap4 xs1 rl1 => ?_)
    refine ⟨fun w' s => (s.select [1] (by decide) rfl), ?_⟩
    refine TQ 7 (by kernel_rfl) rfl (ov_build (r := (.agg #[(.slice ao4 p_m.stp.strokes.length cap4), (.int .i64 p_m.stp.wait)])) rfl rfl (fun _ => by kernel_rfl)) (TQ 8 (by kernel_rfl) rfl (ov_build (r := (.agg #[(.int .i64 0), (.slice ao4 p_m.stp.strokes.length cap4), (.int .i64 p_m.stp.wait), (.int .i64 0), (mkS []), (.slice none 0 0)])) rfl rfl (fun _ => by kernel_rfl)) ?_)
    refine AL.any (rs := [9]) (by kernel_rfl) (by decide) ?_
    refine ALs.cons0 (i := 9) rfl (Runs.free rfl) rfl ?_ ?_
    ·
     refine os_store (i := 2) (vs := [(.int .i64 0), (.slice ao4 p_m.stp.strokes.length cap4), (.int .i64 p_m.stp.wait), (.int .i64 0), (mkS []), (.slice none 0 0)]) (cs' := [(.int .i64 0), (.slice ao4 p_m.stp.strokes.length cap4), (.int .i64 p_m.stp.wait), (.int .i64 0), (mkS []), (.slice none 0 0)]) sizeOf28 rfl rfl rfl rfl rfl rfl rfl rfl rfl ?_
     refine ⟨fun w' s => (s.select [1] (by decide) rfl), ?_⟩
     refine AL.done (by kernel_rfl) ?_
     refine tn (WP.ret (block_ret (then_ret ?_)))
     obtain rfl := Option.some.inj hm
     refine retQ_ret results74 (Res.cell rfl (box_loads (i := 2) isAgg28 sizeOf28 rfl rfl) Res.nil) rfl (fun w' s => ⟨s.below, ?_⟩)
     obtain ⟨h5, hc5⟩ := s.ret_row (i := 0) rfl rl1
     exact ⟨ao4, cap4, none, 0, rfl, h5, hc5, SL.nil _ _ _, Nat.le_refl _⟩
    exact ALs.nil
   exact ALs.nil
  replace hm := ite_f hc3 hm
  obtain ⟨t2, v1, hv2, hv3⟩ := MotionRep.not_isSingle h1 hc3
  refine V rfl (ov_typeAssert_no (z := (.agg #[(.slice none 0 0), (.int .i64 0)])) underlying141 (fun _ h => by cases h) zeroValue141 rfl rfl hv2 hv3) (Ve rfl (Ve rfl (WL.nil (tn (WP.cond_false rfl (WP.seq (WP.region ?_)))))))
  rcases Bool.eq_false_or_eq_true p_m.isList with hc6 | hc6
  ·
   replace hm := ite_t hc6 hm
   obtain ⟨ao5, cap5, hv4, h6, hc7⟩ := MotionRep.open_isList h1 hc6
   refine V rfl (ov_typeAssert_yes (c := (.agg #[(.slice ao5 p_m.prts.length cap5)])) underlying144 (fun _ h => by cases h) rfl rfl hv4) (Ve rfl (Ve rfl (WL.nil (tn (WP.cond_true rfl (WP.seq (WP.region ?_)))))))
   refine ws rfl (os_alloc (cs := [(.slice none 0 0)]) zeroValue144 rfl rfl (fun b3 => ?_))
   refine ws0 rfl (os_store (i := 0) (vs := [(.slice ao5 p_m.prts.length cap5)]) (cs' := [(.slice ao5 p_m.prts.length cap5)]) sizeOf144 rfl rfl rfl rfl rfl rfl rfl rfl rfl ?_)
   refine WL.nil (tn (WP.seq (WP.region (V rfl (ov_build (r := (.agg #[(.int .i64 1), (.slice none 0 0), (.int .i64 0), (.int .i64 0), (mkS []), (.slice none 0 0)])) rfl rfl (fun _ => by kernel_rfl)) ?_))))
   refine ws rfl (os_alloc (cs := [(.int .i64 0), (.slice none 0 0), (.int .i64 0), (.int .i64 0), (mkS []), (.slice none 0 0)]) zeroValue28 rfl rfl (fun b4 => ?_))
   refine ws0 rfl (os_store (i := 0) (vs := [(.int .i64 1), (.slice none 0 0), (.int .i64 0), (.int .i64 0), (mkS []), (.slice none 0 0)]) (cs' := [(.int .i64 1), (.slice none 0 0), (.int .i64 0), (.int .i64 0), (mkS []), (.slice none 0 0)]) sizeOf28 rfl rfl rfl rfl rfl rfl rfl rfl rfl ?_)
   refine WL.nil (tn ?_)
   obtain ⟨k2, hk2, hm⟩ := joinK_some hm
   refine WP.seq_join (fun g' S' => ∃ (H3 : Heap) (l4 : (List Node)) (ao10 : Option Addr) (cap10 : Nat) (xs3 : List Value), Le H H3 ∧ RL H3 encNode l4 xs3 ∧ Sub [(2, (pB b1 0)), (5, (pB b4 0)), (1000000007, (.bool false))] g' ∧ (∀ w', S' w' → St w H [.row 28 (encNode).size l4.length (.slice ao10 l4.length cap10) xs3, .blk b4 28 [(.int .i64 1), (.slice none 0 0), (.int .i64 0), (.int .i64 0), (mkS []), (.slice ao10 l4.length cap10)], .blk b1 28 [(.int .i64 0), (.slice none 0 0), (.int .i64 0), (.int .i64 0), (mkS []), (.slice none 0 0)]] H3 w') ∧ k2 l4 = some r) ?_ ?_
   ·
    refine WP.seq (WP.region (V rfl (ov_fieldAddr underlying144 rfl rfl rfl sizeOf142 rfl rfl) (Vl 1 isAgg142 rfl (V rfl (ov_len_slice underlying142 rfl rfl) (Vm rfl (WL.nil (tn (WP.block ?_))))))))
    have rl2 := RL.nil (α := Node) H encNode
    refine WP.weaken (fun _ s => s.nilrow 28 (encNode).size) ?_
    refine WP.loop (fun m1 g' S' => ∃ (H1 : Heap) (i1 : Int) (l2 : (List Node)) (ao6 : Option Addr) (cap6 : Nat) (xs2 : List Value), Le H H1 ∧ RL H1 encNode l2 xs2 ∧ Sub [(2, (pB b1 0)), (5, (pB b4 0)), (28, (.slice ao5 p_m.prts.length cap5)), (29, (.int .i64 (p_m.prts.length : Int))), (30, (.int .i64 i1)), (1000000007, (.bool false))] g' ∧ (∀ w', S' w' → St w H [.row 28 (encNode).size l2.length (.slice ao6 l2.length cap6) xs2, .blk b4 28 [(.int .i64 1), (.slice none 0 0), (.int .i64 0), (.int .i64 0), (mkS []), (.slice ao6 l2.length cap6)], .blk b1 28 [(.int .i64 0), (.slice none 0 0), (.int .i64 0), (.int .i64 0), (mkS []), (.slice none 0 0)]] H1 w') ∧ program_node_loop1 p_m self k2 m1 i1 l2 = some r) ((Int.toNat ((p_m.prts.length : Int) - 0) + 1)) ⟨H, 0, ([] : List Node), none, 0, [], (Le.refl _), rl2, (Sub.all rfl), fun w' s => (s.select [0, 1, 3] (by decide) rfl), hm⟩ ?_ ?_
    ·
     rintro g' S' ⟨_, _, _, _, _, _, _, _, _, _, hm⟩
     exact none_some hm
    rintro m1 g' S' ⟨H1, i1, l2, ao6, cap6, xs2, hle1, rl3, hsub1, hS1, hm⟩
    refine WP.sub hsub1 (WP.weaken hS1 ?_)
    rw [program_node_loop1] at hm
    replace h6 := h6.mono hle1
    replace hG := hG.mono hle1
    refine WP.seq (WP.region (V rfl (ov_lss rfl rfl rfl) (WL.nil (tn (WP.seq ?_)))))
    refine WP.cond rfl (fun hc8 => ?_) (fun hc8 => ?_)
    ·
     replace hm := ite_t hc8 hm
     refine WP.skip (tn (WP.seq (WP.block (WP.seq (WP.region ?_)))))
     obtain ⟨x1, e2, hm⟩ := bind_some hm
     obtain ⟨h8, h9, h10, cs1, h11, h12⟩ := h6.get e2 (by decide)
     obtain ⟨t3, c2, rfl, h7⟩ := h11
     refine V rfl (ov_indexAddr underlying142 sizeOf99 rfl rfl rfl h8 h9 h10) (V rfl (ov_load_elem (v := (.iface t3 c2)) isAgg99 rfl rfl h12) (Va rfl (WL.nil (tn ?_))))
     refine WP.region_any (S₀ := St w H [.blk b1 28 [(.int .i64 0), (.slice none 0 0), (.int .i64 0), (.int .i64 0), (mkS []), (.slice none 0 0)]] H1) 8 rfl (by kernel_rfl) (fun w' s => (s.select [2] (by decide) rfl)) (fun _ s => s.drew) ?_
     refine TQ 0 (by kernel_rfl) rfl (ov_fieldAddr underlying28 rfl rfl rfl sizeOf26 rfl rfl) (TQ 2 (by kernel_rfl) rfl (ov_move rfl rfl) ?_)
     refine AL.any (rs := [1, 3]) (by kernel_rfl) (by decide) ?_
     refine ALs.cons (i := 1) rfl (Runs.free rfl) rfl rfl ?_ ?_
     ·
      refine OQ.step (OV.quiet (ov_load_box (i := 1) isAgg26 rfl rfl rfl rfl)) ?_
      refine ⟨fun w' s => (s.select [2] (by decide) rfl), ?_⟩
      refine AL.any (rs := [3]) (by kernel_rfl) (by decide) ?_
      refine ALs.cons (i := 3) rfl (Runs.free rfl) rfl rfl ?_ ?_
      ·
       obtain ⟨r1, e3, hm⟩ := bind_some hm
       refine os_con call74 rfl rfl (fun w' s => (hself x1 t3 c2  w' H1 s.hold h7  hG r1 e3)) (fun rr1 H2 hle2 hR1 => ?_)
       replace h7 := h7.mono hle2
       replace rl3 := rl3.mono hle2
       replace hG := hG.mono hle2
       obtain ⟨ao7, cap7, ao8, cap8, rfl, h13, hc9, h14, hc10⟩ := hR1
       refine ⟨fun w' s => ((s.select [2] (by decide) rfl).heap hle2), ?_⟩
       refine AL.any (rs := [4]) (by kernel_rfl) (by decide) ?_
       refine ALs.cons (i := 4) rfl (Runs.free rfl) rfl rfl ?_ ?_
       ·
        have rl4 : RL H2 encNode ([r1] : List Node) [(.int .i64 r1.kind), (.slice ao7 r1.step.strokes.length cap7), (.int .i64 r1.step.wait), (.int .i64 r1.count), (mkS r1.name), (.slice ao8 r1.nodes.length cap8)] := RL.cons (cs := [(.int .i64 r1.kind), (.slice ao7 r1.step.strokes.length cap7), (.int .i64 r1.step.wait), (.int .i64 r1.count), (mkS r1.name), (.slice ao8 r1.nodes.length cap8)]) (xs := []) (encNode_make ⟨ao7, cap7, ao8, cap8, rfl, h13, hc9, h14, hc10⟩) (RL.nil _ _)
        refine os_buildSlice (cs := [(.int .i64 r1.kind), (.slice ao7 r1.step.strokes.length cap7), (.int .i64 r1.step.wait), (.int .i64 r1.count), (mkS r1.name), (.slice ao8 r1.nodes.length cap8)]) (E := 28) (sz := 6) rfl rfl (fun _ => by kernel_rfl) rfl (by decide) (fun b5 => ?_)
        refine ⟨fun w' s => ((s.select [3] (by decide) rfl).heap hle2), ?_⟩
        refine AL.any (rs := [5]) (by kernel_rfl) (by decide) ?_
        refine ALs.cons (i := 5) rfl (Runs.free rfl) rfl rfl ?_ ?_
        ·
         obtain ⟨l3, e4, hm⟩ := bind_some hm
         refine os_app (i := 1) (j := 0) (En := encNode) (xs := xs2) (ys := [(.int .i64 r1.kind), (.slice ao7 r1.step.strokes.length cap7), (.int .i64 r1.step.wait), (.int .i64 r1.count), (mkS r1.name), (.slice ao8 r1.nodes.length cap8)]) underlying26 (by kernel_rfl : (prog.info? 28).map (fun i => (i.zero, i.size, i.bytes)) = some (some (.agg #[(.int .i64 0), (.slice none 0 0), (.int .i64 0), (.int .i64 0), (mkS []), (.slice none 0 0)]), (encNode).size, 88)) rfl (by decide) rfl rfl rfl rfl rfl rfl rl3 rl4 e4 (fun ao9 cap9 rl5 => ?_)
         refine ⟨fun w' s => ((s.select [3] (by decide) rfl).heap hle2), ?_⟩
         refine TQ 6 (by kernel_rfl) rfl (ov_fieldAddr underlying28 rfl rfl rfl sizeOf26 rfl rfl) ?_
         refine AL.any (rs := [7]) (by kernel_rfl) (by decide) ?_
         refine ALs.cons0 (i := 7) rfl (Runs.free rfl) rfl ?_ ?_
         ·
          refine os_store (i := 2) (vs := [(.slice ao9 (l2 ++ ([r1] : List Node)).length cap9)]) (cs' := [(.int .i64 1), (.slice none 0 0), (.int .i64 0), (.int .i64 0), (mkS []), (.slice ao9 (l2 ++ ([r1] : List Node)).length cap9)]) sizeOf26 rfl rfl rfl rfl rfl rfl rfl rfl rfl ?_
          refine ⟨fun w' s => ((s.select [3] (by decide) rfl).heap hle2), ?_⟩
          refine AL.done (by kernel_rfl) ?_
          refine bn (tn (WP.region (V rfl (ov_add rfl rfl rfl) (Vm rfl (WL.nil (tn ?_))))))
          exact ⟨H2, (IntKind.wrap .i64 (i1 + 1)), (l2 ++ ([r1] : List Node)), ao9, cap9, (xs2 ++ [(.int .i64 r1.kind), (.slice ao7 r1.step.strokes.length cap7), (.int .i64 r1.step.wait), (.int .i64 r1.count), (mkS r1.name), (.slice ao8 r1.nodes.length cap8)]), (hle1.trans hle2), rl5, (Sub.all rfl), fun w' s => (s.select [1, 2, 3] (by decide) rfl), hm⟩
         exact ALs.nil
        exact ALs.nil
       exact ALs.nil
      exact ALs.nil
     refine ALs.cons (i := 3) rfl (Runs.free rfl) rfl rfl ?_ ?_
     ·
      obtain ⟨r1, e3, hm⟩ := bind_some hm
      refine os_con call74 rfl rfl (fun w' s => (hself x1 t3 c2  w' H1 s.hold h7  hG r1 e3)) (fun rr1 H2 hle2 hR1 => ?_)
      replace rl3 := rl3.mono hle2
      replace hG := hG.mono hle2
      obtain ⟨ao7, cap7, ao8, cap8, rfl, h13, hc9, h14, hc10⟩ := hR1
      refine ⟨fun w' s => ((s.select [2] (by decide) rfl).heap hle2), ?_⟩
      refine AL.any (rs := [1, 4]) (by kernel_rfl) (by decide) ?_
      refine ALs.cons (i := 1) rfl (Runs.free rfl) rfl rfl ?_ ?_
      ·
       refine OQ.step (OV.quiet (ov_load_box (i := 1) isAgg26 rfl rfl rfl rfl)) ?_
       refine ⟨fun w' s => ((s.select [2] (by decide) rfl).heap hle2), ?_⟩
       refine AL.any (rs := [4]) (by kernel_rfl) (by decide) ?_
       refine ALs.cons (i := 4) rfl (Runs.free rfl) rfl rfl ?_ ?_
       ·
        have rl4 : RL H2 encNode ([r1] : List Node) [(.int .i64 r1.kind), (.slice ao7 r1.step.strokes.length cap7), (.int .i64 r1.step.wait), (.int .i64 r1.count), (mkS r1.name), (.slice ao8 r1.nodes.length cap8)] := RL.cons (cs := [(.int .i64 r1.kind), (.slice ao7 r1.step.strokes.length cap7), (.int .i64 r1.step.wait), (.int .i64 r1.count), (mkS r1.name), (.slice ao8 r1.nodes.length cap8)]) (xs := []) (encNode_make ⟨ao7, cap7, ao8, cap8, rfl, h13, hc9, h14, hc10⟩) (RL.nil _ _)
        refine os_buildSlice (cs := [(.int .i64 r1.kind), (.slice ao7 r1.step.strokes.length cap7), (.int .i64 r1.step.wait), (.int .i64 r1.count), (mkS r1.name), (.slice ao8 r1.nodes.length cap8)]) (E := 28) (sz := 6) rfl rfl (fun _ => by kernel_rfl) rfl (by decide) (fun b5 => ?_)
        refine ⟨fun w' s => ((s.select [3] (by decide) rfl).heap hle2), ?_⟩
        refine AL.any (rs := [5]) (by kernel_rfl) (by decide) ?_
        refine ALs.cons (i := 5) rfl (Runs.free rfl) rfl rfl ?_ ?_
        ·
         obtain ⟨l3, e4, hm⟩ := bind_some hm
         refine os_app (i := 1) (j := 0) (En := encNode) (xs := xs2) (ys := [(.int .i64 r1.kind), (.slice ao7 r1.step.strokes.length cap7), (.int .i64 r1.step.wait), (.int .i64 r1.count), (mkS r1.name), (.slice ao8 r1.nodes.length cap8)]) underlying26 (by kernel_rfl : (prog.info? 28).map (fun i => (i.zero, i.size, i.bytes)) = some (some (.agg #[(.int .i64 0), (.slice none 0 0), (.int .i64 0), (.int .i64 0), (mkS []), (.slice none 0 0)]), (encNode).size, 88)) rfl (by decide) rfl rfl rfl rfl rfl rfl rl3 rl4 e4 (fun ao9 cap9 rl5 => ?_)
         refine ⟨fun w' s => ((s.select [3] (by decide) rfl).heap hle2), ?_⟩
         refine TQ 6 (by kernel_rfl) rfl (ov_fieldAddr underlying28 rfl rfl rfl sizeOf26 rfl rfl) ?_
         refine AL.any (rs := [7]) (by kernel_rfl) (by decide) ?_
         refine ALs.cons0 (i := 7) rfl (Runs.free rfl) rfl ?_ ?_
         ·
          refine os_store (i := 2) (vs := [(.slice ao9 (l2 ++ ([r1] : List Node)).length cap9)]) (cs' := [(.int .i64 1), (.slice none 0 0), (.int .i64 0), (.int .i64 0), (mkS []), (.slice ao9 (l2 ++ ([r1] : List Node)).length cap9)]) sizeOf26 rfl rfl rfl rfl rfl rfl rfl rfl rfl ?_
          refine ⟨fun w' s => ((s.select [3] (by decide) rfl).heap hle2), ?_⟩
          refine AL.done (by kernel_rfl) ?_
          refine bn (tn (WP.region (V rfl (ov_add rfl rfl rfl) (Vm rfl (WL.nil (tn ?_))))))
          exact ⟨H2, (IntKind.wrap .i64 (i1 + 1)), (l2 ++ ([r1] : List Node)), ao9, cap9, (xs2 ++ [(.int .i64 r1.kind), (.slice ao7 r1.step.strokes.length cap7), (.int .i64 r1.step.wait), (.int .i64 r1.count), (mkS r1.name), (.slice ao8 r1.nodes.length cap8)]), (hle1.trans hle2), rl5, (Sub.all rfl), fun w' s => (s.select [1, 2, 3] (by decide) rfl), hm⟩
         exact ALs.nil
        exact ALs.nil
       exact ALs.nil
      refine ALs.cons (i := 4) rfl (Runs.free rfl) rfl rfl ?_ ?_
      ·
       have rl4 : RL H2 encNode ([r1] : List Node) [(.int .i64 r1.kind), (.slice ao7 r1.step.strokes.length cap7), (.int .i64 r1.step.wait), (.int .i64 r1.count), (mkS r1.name), (.slice ao8 r1.nodes.length cap8)] := RL.cons (cs := [(.int .i64 r1.kind), (.slice ao7 r1.step.strokes.length cap7), (.int .i64 r1.step.wait), (.int .i64 r1.count), (mkS r1.name), (.slice ao8 r1.nodes.length cap8)]) (xs := []) (encNode_make ⟨ao7, cap7, ao8, cap8, rfl, h13, hc9, h14, hc10⟩) (RL.nil _ _)
       refine os_buildSlice (cs := [(.int .i64 r1.kind), (.slice ao7 r1.step.strokes.length cap7), (.int .i64 r1.step.wait), (.int .i64 r1.count), (mkS r1.name), (.slice ao8 r1.nodes.length cap8)]) (E := 28) (sz := 6) rfl rfl (fun _ => by kernel_rfl) rfl (by decide) (fun b5 => ?_)
       refine ⟨fun w' s => ((s.select [3] (by decide) rfl).heap hle2), ?_⟩
       refine AL.any (rs := [1]) (by kernel_rfl) (by decide) ?_
       refine ALs.cons (i := 1) rfl (Runs.free rfl) rfl rfl ?_ ?_
       ·
        refine OQ.step (OV.quiet (ov_load_box (i := 2) isAgg26 rfl rfl rfl rfl)) ?_
        refine ⟨fun w' s => ((s.select [3] (by decide) rfl).heap hle2), ?_⟩
        refine AL.any (rs := [5]) (by kernel_rfl) (by decide) ?_
        refine ALs.cons (i := 5) rfl (Runs.free rfl) rfl rfl ?_ ?_
        ·
         obtain ⟨l3, e4, hm⟩ := bind_some hm
         refine os_app (i := 1) (j := 0) (En := encNode) (xs := xs2) (ys := [(.int .i64 r1.kind), (.slice ao7 r1.step.strokes.length cap7), (.int .i64 r1.step.wait), (.int .i64 r1.count), (mkS r1.name), (.slice ao8 r1.nodes.length cap8)]) underlying26 (by kernel_rfl : (prog.info? 28).map (fun i => (i.zero, i.size, i.bytes)) = some (some (.agg #[(.int .i64 0), (.slice none 0 0), (.int .i64 0), (.int .i64 0), (mkS []), (.slice none 0 0)]), (encNode).size, 88)) rfl (by decide) rfl rfl rfl rfl rfl rfl rl3 rl4 e4 (fun ao9 cap9 rl5 => ?_)
         refine ⟨fun w' s => ((s.select [3] (by decide) rfl).heap hle2), ?_⟩
         refine TQ 6 (by kernel_rfl) rfl (ov_fieldAddr underlying28 rfl rfl rfl sizeOf26 rfl rfl) ?_
         refine AL.any (rs := [7]) (by kernel_rfl) (by decide) ?_
         refine ALs.cons0 (i := 7) rfl (Runs.free rfl) rfl ?_ ?_
         ·
          refine os_store (i := 2) (vs := [(.slice ao9 (l2 ++ ([r1] : List Node)).length cap9)]) (cs' := [(.int .i64 1), (.slice none 0 0), (.int .i64 0), (.int .i64 0), (mkS []), (.slice ao9 (l2 ++ ([r1] : List Node)).length cap9)]) sizeOf26 rfl rfl rfl rfl rfl rfl rfl rfl rfl ?_
          refine ⟨fun w' s => ((s.select [3] (by decide) rfl).heap hle2), ?_⟩
          refine AL.done (by kernel_rfl) ?_
          refine bn (tn (WP.region (V rfl (ov_add rfl rfl rfl) (Vm rfl (WL.nil (tn ?_))))))
          exact ⟨H2, (IntKind.wrap .i64 (i1 + 1)), (l2 ++ ([r1] : List Node)), ao9, cap9, (xs2 ++ [(.int .i64 r1.kind), (.slice ao7 r1.step.strokes.length cap7), (.int .i64 r1.step.wait), (.int .i64 r1.count), (mkS r1.name), (.slice ao8 r1.nodes.length cap8)]), (hle1.trans hle2), rl5, (Sub.all rfl), fun w' s => (s.select [1, 2, 3] (by decide) rfl), hm⟩
         exact ALs.nil
        exact ALs.nil
       exact ALs.nil
      exact ALs.nil
     exact ALs.nil
    replace hm := ite_f hc8 hm
    refine WP.exit (then_exit (then_exit (block_here (tn ?_))))
    exact ⟨H1, l2, ao6, cap6, xs2, hle1, rl3, (Sub.all rfl), fun w' s => s, hm⟩
   rintro g' S' ⟨H3, l4, ao10, cap10, xs3, hle3, rl6, hsub2, hS2, hm⟩
   refine WP.sub hsub2 (WP.weaken hS2 ?_)
   replace hm := (congrFun hk2 l4).symm.trans hm
   replace hG := hG.mono hle3
   refine WP.seq (WP.region (V rfl (ov_load_whole (i := 1) isAgg28 sizeOf28 rfl rfl rfl rfl) ?_))
   refine ws0 rfl (os_store (i := 2) (vs := [(.int .i64 1), (.slice none 0 0), (.int .i64 0), (.int .i64 0), (mkS []), (.slice ao10 l4.length cap10)]) (cs' := [(.int .i64 1), (.slice none 0 0), (.int .i64 0), (.int .i64 0), (mkS []), (.slice ao10 l4.length cap10)]) sizeOf28 rfl rfl rfl rfl rfl rfl rfl rfl rfl ?_)
   refine WL.nil (tn (WP.ret (block_ret (then_ret ?_))))
   obtain rfl := Option.some.inj hm
   refine retQ_ret results74 (Res.cell rfl (box_loads (i := 2) isAgg28 sizeOf28 rfl rfl) Res.nil) rfl (fun w' s => ⟨s.below, ?_⟩)
   obtain ⟨h15, hc11⟩ := s.ret_row (i := 0) rfl rl6
   exact ⟨none, 0, ao10, cap10, rfl, SL.nil _ _ _, Nat.le_refl _, h15, hc11⟩
  replace hm := ite_f hc6 hm
  obtain ⟨t4, v2, hv5, hv6⟩ := MotionRep.not_isList h1 hc6
  refine V rfl (ov_typeAssert_no (z := (.agg #[(.slice none 0 0)])) underlying144 (fun _ h => by cases h) zeroValue144 rfl rfl hv5 hv6) (Ve rfl (Ve rfl (WL.nil (tn (WP.cond_false rfl (WP.seq (WP.region ?_)))))))
  rcases Bool.eq_false_or_eq_true p_m.isRepeat with hc12 | hc12
  ·
   replace hm := ite_t hc12 hm
   obtain ⟨t5, c3, hv7, h16⟩ := MotionRep.open_isRepeat h1 hc12
   refine V rfl (ov_typeAssert_yes (c := (.agg #[(.int .i64 p_m.cnt), (.iface t5 c3)])) underlying146 (fun _ h => by cases h) rfl rfl hv7) (Ve rfl (Ve rfl (WL.nil (tn (WP.cond_true rfl (WP.seq (WP.region ?_)))))))
   refine ws rfl (os_alloc (cs := [(.int .i64 0), .nilIface]) zeroValue146 rfl rfl (fun b6 => ?_))
   refine ws0 rfl (os_store (i := 0) (vs := [(.int .i64 p_m.cnt), (.iface t5 c3)]) (cs' := [(.int .i64 p_m.cnt), (.iface t5 c3)]) sizeOf146 rfl rfl rfl rfl rfl rfl rfl rfl rfl ?_)
   refine WL.nil (tn (WP.seq ?_))
   refine WP.region_any (S₀ := St w H [.blk b6 146 [(.int .i64 p_m.cnt), (.iface t5 c3)]] H) 8 rfl (by kernel_rfl) (fun w' s => (s.select [0] (by decide) rfl)) (fun _ s => s.drew) ?_
   refine TQ 0 (by kernel_rfl) rfl (ov_fieldAddr underlying146 rfl rfl rfl sizeOf3 rfl rfl) (TQ 1 (by kernel_rfl) rfl (ov_load_box (i := 0) isAgg3 rfl rfl rfl rfl) (TQ 2 (by kernel_rfl) rfl (ov_fieldAddr underlying146 rfl rfl rfl sizeOf99 rfl rfl) (TQ 3 (by kernel_rfl) rfl (ov_load_box (i := 0) isAgg99 rfl rfl rfl rfl) ?_)))
   refine AL.any (rs := [4]) (by kernel_rfl) (by decide) ?_
   refine ALs.cons (i := 4) rfl (Runs.free rfl) rfl rfl ?_ ?_
   ·
    obtain ⟨r2, e5, hm⟩ := bind_some hm
    refine os_con call74 rfl rfl (fun w' s => (hself p_m.prt t5 c3  w' H s.hold h16  hG r2 e5)) (fun rr2 H4 hle4 hR2 => ?_)
    replace h1 := h1.mono hle4
    replace hG := hG.mono hle4
    obtain ⟨ao11, cap11, ao12, cap12, rfl, h17, hc13, h18, hc14⟩ := hR2
    refine ⟨fun w' s => ((s.select [0] (by decide) rfl).heap hle4), ?_⟩
    refine AL.any (rs := [5]) (by kernel_rfl) (by decide) ?_
    refine ALs.cons (i := 5) rfl (Runs.free rfl) rfl rfl ?_ ?_
    ·
     have rl7 : RL H4 encNode ([r2] : List Node) [(.int .i64 r2.kind), (.slice ao11 r2.step.strokes.length cap11), (.int .i64 r2.step.wait), (.int .i64 r2.count), (mkS r2.name), (.slice ao12 r2.nodes.length cap12)] := RL.cons (cs := [(.int .i64 r2.kind), (.slice ao11 r2.step.strokes.length cap11), (.int .i64 r2.step.wait), (.int .i64 r2.count), (mkS r2.name), (.slice ao12 r2.nodes.length cap12)]) (xs := []) (encNode_make ⟨ao11, cap11, ao12, cap12, rfl, h17, hc13, h18, hc14⟩) (RL.nil _ _)
     refine os_buildSlice (cs := [(.int .i64 r2.kind), (.slice ao11 r2.step.strokes.length cap11), (.int .i64 r2.step.wait), (.int .i64 r2.count), (mkS r2.name), (.slice ao12 r2.nodes.length cap12)]) (E := 28) (sz := 6) rfl rfl (fun _ => by kernel_rfl) rfl (by decide) (fun b7 => ?_)
     refine ⟨fun w' s => ((s.select [1] (by decide) rfl).heap hle4), ?_⟩
     refine TQ 6 (by kernel_rfl) rfl (ov_build (r := (.agg #[(.int .i64 2), (.slice none 0 0), (.int .i64 0), (.int .i64 p_m.cnt), (mkS []), (.slice (some ⟨b7, 0, none⟩) ([r2] : List Node).length 1)])) rfl rfl (fun _ => by kernel_rfl)) ?_
     refine AL.any (rs := [7]) (by kernel_rfl) (by decide) ?_
     refine ALs.cons0 (i := 7) rfl (Runs.free rfl) rfl ?_ ?_
     ·
      refine os_store (i := 2) (vs := [(.int .i64 2), (.slice none 0 0), (.int .i64 0), (.int .i64 p_m.cnt), (mkS []), (.slice (some ⟨b7, 0, none⟩) ([r2] : List Node).length 1)]) (cs' := [(.int .i64 2), (.slice none 0 0), (.int .i64 0), (.int .i64 p_m.cnt), (mkS []), (.slice (some ⟨b7, 0, none⟩) ([r2] : List Node).length 1)]) sizeOf28 rfl rfl rfl rfl rfl rfl rfl rfl rfl ?_
      refine ⟨fun w' s => ((s.select [1] (by decide) rfl).heap hle4), ?_⟩
      refine AL.done (by kernel_rfl) ?_
      refine tn (WP.ret (block_ret (then_ret ?_)))
      obtain rfl := Option.some.inj hm
      refine retQ_ret results74 (Res.cell rfl (box_loads (i := 2) isAgg28 sizeOf28 rfl rfl) Res.nil) rfl (fun w' s => ⟨s.below, ?_⟩)
      obtain ⟨h19, hc15⟩ := s.ret_row (i := 0) rfl rl7
      exact ⟨none, 0, (some ⟨b7, 0, none⟩), 1, rfl, SL.nil _ _ _, Nat.le_refl _, h19, hc15⟩
     exact ALs.nil
    exact ALs.nil
   exact ALs.nil
  replace hm := ite_f hc12 hm
  obtain ⟨t6, v3, hv8, hv9⟩ := MotionRep.not_isRepeat h1 hc12
  refine V rfl (ov_typeAssert_no (z := (.agg #[(.int .i64 0), .nilIface])) underlying146 (fun _ h => by cases h) zeroValue146 rfl rfl hv8 hv9) (Ve rfl (Ve rfl (WL.nil (tn (WP.cond_false rfl (WP.seq (WP.region ?_)))))))
  rcases Bool.eq_false_or_eq_true p_m.isChoice with hc16 | hc16
  ·
   replace hm := ite_t hc16 hm
   obtain ⟨t7, c4, t8, c5, hv10, h20, h21⟩ := MotionRep.open_isChoice h1 hc16
   refine V rfl (ov_typeAssert_yes (c := (.agg #[(mkS p_m.nm), (.iface t7 c4), (.iface t8 c5)])) underlying148 (fun _ h => by cases h) rfl rfl hv10) (Ve rfl (Ve rfl (WL.nil (tn (WP.cond_true rfl (WP.seq (WP.region ?_)))))))
   refine ws rfl (os_alloc (cs := [(mkS []), .nilIface, .nilIface]) zeroValue148 rfl rfl (fun b8 => ?_))
   refine ws0 rfl (os_store (i := 0) (vs := [(mkS p_m.nm), (.iface t7 c4), (.iface t8 c5)]) (cs' := [(mkS p_m.nm), (.iface t7 c4), (.iface t8 c5)]) sizeOf148 rfl rfl rfl rfl rfl rfl rfl rfl rfl ?_)
   refine WL.nil (tn (WP.seq ?_))
   refine WP.region_any (S₀ := St w H [.blk b8 148 [(mkS p_m.nm), (.iface t7 c4), (.iface t8 c5)]] H) 11 rfl (by kernel_rfl) (fun w' s => (s.select [0] (by decide) rfl)) (fun _ s => s.drew) ?_
   refine TQ 0 (by kernel_rfl) rfl (ov_fieldAddr underlying148 rfl rfl rfl sizeOf9 rfl rfl) (TQ 1 (by kernel_rfl) rfl (ov_load_box (i := 0) isAgg9 rfl rfl rfl rfl) (TQ 2 (by kernel_rfl) rfl (ov_fieldAddr underlying148 rfl rfl rfl sizeOf99 rfl rfl) (TQ 3 (by kernel_rfl) rfl (ov_load_box (i := 0) isAgg99 rfl rfl rfl rfl) (TQ 5 (by kernel_rfl) rfl (ov_fieldAddr underlying148 rfl rfl rfl sizeOf99 rfl rfl) (TQ 6 (by kernel_rfl) rfl (ov_load_box (i := 0) isAgg99 rfl rfl rfl rfl) ?_)))))
   refine AL.any (rs := [4]) (by kernel_rfl) (by decide) ?_
   refine ALs.cons (i := 4) rfl (Runs.free rfl) rfl rfl ?_ ?_
   ·
    obtain ⟨r3, e6, hm⟩ := bind_some hm
    refine os_con call74 rfl rfl (fun w' s => (hself p_m.thn t7 c4  w' H s.hold h20  hG r3 e6)) (fun rr3 H5 hle5 hR3 => ?_)
    replace h1 := h1.mono hle5
    replace h21 := h21.mono hle5
    replace hG := hG.mono hle5
    obtain ⟨ao13, cap13, ao14, cap14, rfl, h22, hc17, h23, hc18⟩ := hR3
    refine ⟨fun w' s => ((s.select [0] (by decide) rfl).heap hle5), ?_⟩
    refine AL.any (rs := [7]) (by kernel_rfl) (by decide) ?_
    refine ALs.cons (i := 7) rfl (Runs.free rfl) rfl rfl ?_ ?_
    ·
     obtain ⟨r4, e7, hm⟩ := bind_some hm
     refine os_con call74 rfl rfl (fun w' s => (hself p_m.oth t8 c5  w' H5 s.hold h21  hG r4 e7)) (fun rr4 H6 hle6 hR4 => ?_)
     replace h1 := h1.mono hle6
     replace h22 := h22.mono hle6
     replace h23 := h23.mono hle6
     obtain ⟨ao15, cap15, ao16, cap16, rfl, h24, hc19, h25, hc20⟩ := hR4
     refine ⟨fun w' s => ((s.select [0] (by decide) rfl).heap (hle5.trans hle6)), ?_⟩
     refine AL.any (rs := [8]) (by kernel_rfl) (by decide) ?_
     refine ALs.cons (i := 8) rfl (Runs.free rfl) rfl rfl ?_ ?_
     ·
      have rl8 : RL H6 encNode ([r3, r4] : List Node) [(.int .i64 r3.kind), (.slice ao13 r3.step.strokes.length cap13), (.int .i64 r3.step.wait), (.int .i64 r3.count), (mkS r3.name), (.slice ao14 r3.nodes.length cap14), (.int .i64 r4.kind), (.slice ao15 r4.step.strokes.length cap15), (.int .i64 r4.step.wait), (.int .i64 r4.count), (mkS r4.name), (.slice ao16 r4.nodes.length cap16)] := RL.cons (cs := [(.int .i64 r3.kind), (.slice ao13 r3.step.strokes.length cap13), (.int .i64 r3.step.wait), (.int .i64 r3.count), (mkS r3.name), (.slice ao14 r3.nodes.length cap14)]) (xs := [(.int .i64 r4.kind), (.slice ao15 r4.step.strokes.length cap15), (.int .i64 r4.step.wait), (.int .i64 r4.count), (mkS r4.name), (.slice ao16 r4.nodes.length cap16)]) (encNode_make ⟨ao13, cap13, ao14, cap14, rfl, h22, hc17, h23, hc18⟩) (RL.cons (cs := [(.int .i64 r4.kind), (.slice ao15 r4.step.strokes.length cap15), (.int .i64 r4.step.wait), (.int .i64 r4.count), (mkS r4.name), (.slice ao16 r4.nodes.length cap16)]) (xs := []) (encNode_make ⟨ao15, cap15, ao16, cap16, rfl, h24, hc19, h25, hc20⟩) (RL.nil _ _))
      refine os_buildSlice (cs := [(.int .i64 r3.kind), (.slice ao13 r3.step.strokes.length cap13), (.int .i64 r3.step.wait), (.int .i64 r3.count), (mkS r3.name), (.slice ao14 r3.nodes.length cap14), (.int .i64 r4.kind), (.slice ao15 r4.step.strokes.length cap15), (.int .i64 r4.step.wait), (.int .i64 r4.count), (mkS r4.name), (.slice ao16 r4.nodes.length cap16)]) (E := 28) (sz := 6) rfl rfl (fun _ => by kernel_rfl) rfl (by decide) (fun b9 => ?_)
      refine ⟨fun w' s => ((s.select [1] (by decide) rfl).heap (hle5.trans hle6)), ?_⟩
      refine TQ 9 (by kernel_rfl) rfl (ov_build (r := (.agg #[(.int .i64 3), (.slice none 0 0), (.int .i64 0), (.int .i64 0), (mkS p_m.nm), (.slice (some ⟨b9, 0, none⟩) ([r3, r4] : List Node).length 2)])) rfl rfl (fun _ => by kernel_rfl)) ?_
      refine AL.any (rs := [10]) (by kernel_rfl) (by decide) ?_
      refine ALs.cons0 (i := 10) rfl (Runs.free rfl) rfl ?_ ?_
      ·
       refine os_store (i := 2) (vs := [(.int .i64 3), (.slice none 0 0), (.int .i64 0), (.int .i64 0), (mkS p_m.nm), (.slice (some ⟨b9, 0, none⟩) ([r3, r4] : List Node).length 2)]) (cs' := [(.int .i64 3), (.slice none 0 0), (.int .i64 0), (.int .i64 0), (mkS p_m.nm), (.slice (some ⟨b9, 0, none⟩) ([r3, r4] : List Node).length 2)]) sizeOf28 rfl rfl rfl rfl rfl rfl rfl rfl rfl ?_
       refine ⟨fun w' s => ((s.select [1] (by decide) rfl).heap (hle5.trans hle6)), ?_⟩
       refine AL.done (by kernel_rfl) ?_
       refine tn (WP.ret (block_ret (then_ret ?_)))
       obtain rfl := Option.some.inj hm
       refine retQ_ret results74 (Res.cell rfl (box_loads (i := 2) isAgg28 sizeOf28 rfl rfl) Res.nil) rfl (fun w' s => ⟨s.below, ?_⟩)
       obtain ⟨h26, hc21⟩ := s.ret_row (i := 0) rfl rl8
       exact ⟨none, 0, (some ⟨b9, 0, none⟩), 2, rfl, SL.nil _ _ _, Nat.le_refl _, h26, hc21⟩
      exact ALs.nil
     exact ALs.nil
    exact ALs.nil
   exact ALs.nil
  replace hm := ite_f hc16 hm
  obtain ⟨t9, v4, hv11, hv12⟩ := MotionRep.not_isChoice h1 hc16
  refine V rfl (ov_typeAssert_no (z := (.agg #[(mkS []), .nilIface, .nilIface])) underlying148 (fun _ h => by cases h) zeroValue148 rfl rfl hv11 hv12) (Ve rfl (Ve rfl (WL.nil (tn (WP.cond_false rfl (WP.skip (bn (tn ?_))))))))
  exact ⟨(Sub.all rfl), fun w' s => s, hm⟩
 rintro g' S' ⟨hsub3, hS3, hm⟩
 refine WP.sub hsub3 (WP.weaken hS3 ?_)
 replace hm := hk1.symm.trans hm
 refine WP.seq (WP.region (V rfl (ov_build (r := (.agg #[(.int .i64 0), (.slice none 0 0), (.int .i64 0), (.int .i64 0), (mkS []), (.slice none 0 0)])) rfl rfl (fun _ => by kernel_rfl)) ?_))
 refine ws0 rfl (os_store (i := 0) (vs := [(.int .i64 0), (.slice none 0 0), (.int .i64 0), (.int .i64 0), (mkS []), (.slice none 0 0)]) (cs' := [(.int .i64 0), (.slice none 0 0), (.int .i64 0), (.int .i64 0), (mkS []), (.slice none 0 0)]) sizeOf28 rfl rfl rfl rfl rfl rfl rfl rfl rfl ?_)
 refine WL.nil (tn (WP.ret ?_))
 obtain rfl := Option.some.inj hm
 refine retQ_ret results74 (Res.cell rfl (box_loads (i := 0) isAgg28 sizeOf28 rfl rfl) Res.nil) rfl (fun w' s => ⟨s.below, ?_⟩)
 exact ⟨none, 0, none, 0, rfl, SL.nil _ _ _, Nat.le_refl _, SL.nil _ _ _, Nat.le_refl _⟩
theorem program_node_con (n : Nat) : ∀ (p_m : Motion) (t1 : TypeId) (c1 : Value) (w : World) (H : Heap) (hH : Le H (hp w)) (h1 : MotionRep H p_m (.iface t1 c1)) (hG : Glob H) (r : Node) (hm : program_node n p_m = some r),
  Con prog 74 [(.iface t1 c1)] w H (fun v H' => ∃ (ao1 : Option Addr) (cap1 : Nat) (ao2 : Option Addr) (cap2 : Nat), v = (.agg #[(.int .i64 r.kind), (.slice ao1 r.step.strokes.length cap1), (.int .i64 r.step.wait), (.int .i64 r.count), (mkS r.name), (.slice ao2 r.nodes.length cap2)]) ∧ SL H' encStroke ao1 r.step.strokes ∧ r.step.strokes.length ≤ cap1 ∧ SL H' encNode ao2 r.nodes ∧ r.nodes.length ≤ cap2) := by
 induction n with
 | zero => intro p_m t1 c1 w H hH h1 hG r hm; exact (none_some hm).elim
 | succ n ih => intro p_m t1 c1 w H hH h1 hG r hm; exact program_node_body_con (program_node n) ih p_m t1 c1 w H hH h1 hG r hm
theorem program_normal_body_con (self : Motion → Option Motion) (hself : ∀ (p_m : Motion) (t1 : TypeId) (c1 : Value) (w : World) (H : Heap) (hH : Le H (hp w)) (h1 : MotionRep H p_m (.iface t1 c1)) (hG : Glob H) (r : Motion) (hm : self p_m = some r), Con prog 75 [(.iface t1 c1)] w H (fun v H' => ∃ (t2 : TypeId) (c2 : Value), v = (.iface t2 c2) ∧ MotionRep H' r (.iface t2 c2))) (p_m : Motion) (t1 : TypeId) (c1 : Value) (w : World) (H : Heap) (hH : Le H (hp w)) (h1 : MotionRep H p_m (.iface t1 c1)) (hG : Glob H) (r : Motion) (hm : program_normal_body self p_m = some r) :
  Con prog 75 [(.iface t1 c1)] w H (fun v H' => ∃ (t2 : TypeId) (c2 : Value), v = (.iface t2 c2) ∧ MotionRep H' r (.iface t2 c2)) := by
 unfold program_normal_body at hm
 refine con_of hH func75 rfl 75 ntmps75 rfl ?_
 refine WP.seq (WP.region (Va rfl (WL.nil (tn ?_))))
 obtain ⟨k1, hk1, hm⟩ := joinK_some hm
 refine WP.seq_join (fun g' S' => Sub [(0, (.iface t1 c1)), (1000000007, (.bool false))] g' ∧ (∀ w', S' w' → St w H [] H w') ∧ k1 = some r) ?_ ?_
 ·
  refine WP.seq (WP.region (Vm rfl (WL.nil (tn (WP.block (WP.seq (WP.region ?_)))))))
  rcases Bool.eq_false_or_eq_true p_m.isList with hc1 | hc1
  ·
   replace hm := ite_t hc1 hm
   obtain ⟨ao1, cap1, hv1, h3, hc2⟩ := MotionRep.open_isList h1 hc1
   refine V rfl (ov_typeAssert_yes (c := (.agg #[(.slice ao1 p_m.prts.length cap1)])) underlying144 (fun _ h => by cases h) rfl rfl hv1) (Ve rfl (Ve rfl (WL.nil (tn (WP.cond_true rfl (WP.seq (WP.region ?_)))))))
   refine ws rfl (os_alloc (cs := [(.slice none 0 0)]) zeroValue144 rfl rfl (fun b1 => ?_))
   refine ws0 rfl (os_store (i := 0) (vs := [(.slice ao1 p_m.prts.length cap1)]) (cs' := [(.slice ao1 p_m.prts.length cap1)]) sizeOf144 rfl rfl rfl rfl rfl rfl rfl rfl rfl ?_)
   refine WL.nil (tn (WP.seq (WP.region (Va rfl (WL.nil (tn ?_))))))
   obtain ⟨k2, hk2, hm⟩ := joinK_some hm
   refine WP.seq_join (fun g' S' => ∃ (H4 : Heap) (l5 : (List Motion)) (ao7 : Option Addr) (cap7 : Nat) (xs3 : List Value), Le H H4 ∧ RL H4 encMotion l5 xs3 ∧ Sub [(4, (.slice ao7 l5.length cap7)), (1000000007, (.bool false))] g' ∧ (∀ w', S' w' → St w H [.row 99 (encMotion).size l5.length (.slice ao7 l5.length cap7) xs3] H4 w') ∧ k2 l5 = some r) ?_ ?_
   ·
    refine WP.seq (WP.region (V rfl (ov_fieldAddr underlying144 rfl rfl rfl sizeOf142 rfl rfl) (Vl 0 isAgg142 rfl (V rfl (ov_len_slice underlying142 rfl rfl) (Vm rfl (WL.nil (tn (WP.block ?_))))))))
    have rl1 := RL.nil (α := Motion) H encMotion
    refine WP.weaken (fun _ s => s.nilrow 99 (encMotion).size) ?_
    refine WP.loop (fun m1 g' S' => ∃ (H1 : Heap) (i1 : Int) (l1 : (List Motion)) (ao2 : Option Addr) (cap2 : Nat) (xs1 : List Value), Le H H1 ∧ RL H1 encMotion l1 xs1 ∧ Sub [(4, (.slice ao2 l1.length cap2)), (17, (.slice ao1 p_m.prts.length cap1)), (18, (.int .i64 (p_m.prts.length : Int))), (19, (.int .i64 i1)), (1000000007, (.bool false))] g' ∧ (∀ w', S' w' → St w H [.row 99 (encMotion).size l1.length (.slice ao2 l1.length cap2) xs1] H1 w') ∧ program_normal_loop1 p_m self k2 m1 i1 l1 = some r) ((Int.toNat ((p_m.prts.length : Int) - 0) + 1)) ⟨H, 0, ([] : List Motion), none, 0, [], (Le.refl _), rl1, (Sub.all rfl), fun w' s => (s.select [0] (by decide) rfl), hm⟩ ?_ ?_
    ·
     rintro g' S' ⟨_, _, _, _, _, _, _, _, _, _, hm⟩
     exact none_some hm
    rintro m1 g' S' ⟨H1, i1, l1, ao2, cap2, xs1, hle1, rl2, hsub1, hS1, hm⟩
    refine WP.sub hsub1 (WP.weaken hS1 ?_)
    rw [program_normal_loop1] at hm
    replace h3 := h3.mono hle1
    replace hG := hG.mono hle1
    refine WP.seq (WP.region (V rfl (ov_lss rfl rfl rfl) (WL.nil (tn (WP.seq ?_)))))
    refine WP.cond rfl (fun hc3 => ?_) (fun hc3 => ?_)
    ·
     replace hm := ite_t hc3 hm
     refine WP.skip (tn ?_)
     obtain ⟨k3, hk3, hm⟩ := joinK_some hm
     refine WP.seq_join (fun g' S' => ∃ (H3 : Heap) (l4 : (List Motion)) (ao6 : Option Addr) (cap6 : Nat) (xs2 : List Value), Le H1 H3 ∧ RL H3 encMotion l4 xs2 ∧ Sub [(4, (.slice ao6 l4.length cap6)), (17, (.slice ao1 p_m.prts.length cap1)), (18, (.int .i64 (p_m.prts.length : Int))), (19, (.int .i64 i1)), (1000000007, (.bool false))] g' ∧ (∀ w', S' w' → St w H [.row 99 (encMotion).size l4.length (.slice ao6 l4.length cap6) xs2] H3 w') ∧ k3 l4 = some r) ?_ ?_
     ·
      refine WP.block (WP.seq (WP.region ?_))
      obtain ⟨x1, e1, hm⟩ := bind_some hm
      obtain ⟨h5, h6, h7, cs1, h8, h9⟩ := h3.get e1 (by decide)
      obtain ⟨t3, c3, rfl, h4⟩ := h8
      refine V rfl (ov_indexAddr underlying142 sizeOf99 rfl rfl rfl h5 h6 h7) (V rfl (ov_load_elem (v := (.iface t3 c3)) isAgg99 rfl rfl h9) (Va rfl (WL.nil (tn (WP.seq (WP.region (Vm rfl ?_)))))))
      obtain ⟨r1, e2, hm⟩ := bind_some hm
      refine ws rfl (os_con call75 rfl rfl (fun w' s => (hself x1 t3 c3  w' H1 s.hold h4  hG r1 e2)) (fun rr1 H2 hle2 hR1 => ?_))
      replace rl2 := rl2.mono hle2
      replace hG := hG.mono hle2
      obtain ⟨t4, c4, rfl, h10⟩ := hR1
      refine WL.nil (tn (WP.block (WP.seq (WP.region ?_))))
      rcases Bool.eq_false_or_eq_true r1.isList with hc4 | hc4
      ·
       replace hm := ite_t hc4 hm
       obtain ⟨ao3, cap3, hv2, h11, hc5⟩ := MotionRep.open_isList h10 hc4
       refine V rfl (ov_typeAssert_yes (c := (.agg #[(.slice ao3 r1.prts.length cap3)])) underlying144 (fun _ h => by cases h) rfl rfl hv2) (Ve rfl (Ve rfl (WL.nil (tn (WP.cond_true rfl (WP.seq (WP.region ?_)))))))
       refine ws rfl (os_alloc (cs := [(.slice none 0 0)]) zeroValue144 rfl rfl (fun b2 => ?_))
       refine ws0 rfl (os_store (i := 0) (vs := [(.slice ao3 r1.prts.length cap3)]) (cs' := [(.slice ao3 r1.prts.length cap3)]) sizeOf144 rfl rfl rfl rfl rfl rfl rfl rfl rfl ?_)
       refine WL.nil (tn (WP.region (Vm rfl (V rfl (ov_fieldAddr underlying144 rfl rfl rfl sizeOf142 rfl rfl) (Vl 0 isAgg142 rfl ?_)))))
       obtain ⟨l2, e3, hm⟩ := bind_some hm
       refine ws rfl (os_app_sl (i := 1) (En := encMotion) (xs := xs1) underlying142 (by kernel_rfl : (prog.info? 99).map (fun i => (i.zero, i.size, i.bytes)) = some (some .nilIface, (encMotion).size, 16)) rfl (by decide) one_encMotion rfl rfl rfl rfl h11 hc5 rl2 e3 (fun ao4 cap4 ys1 rl3 => ?_))
       refine Va rfl (WL.nil (bn (bn (tn ?_))))
       exact ⟨H2, (l1 ++ r1.prts), ao4, cap4, (xs1 ++ ys1), hle2, rl3, (Sub.all rfl), fun w' s => (s.select [1] (by decide) rfl), hm⟩
      replace hm := ite_f hc4 hm
      obtain ⟨t5, v1, hv3, hv4⟩ := MotionRep.not_isList h10 hc4
      refine V rfl (ov_typeAssert_no (z := (.agg #[(.slice none 0 0)])) underlying144 (fun _ h => by cases h) zeroValue144 rfl rfl hv3 hv4) (Ve rfl (Ve rfl (WL.nil (tn (WP.cond_false rfl (WP.seq (WP.region (Va rfl (WL.nil (tn (WP.region (Vm rfl (Vm rfl ?_)))))))))))))
      have rl4 : RL H2 encMotion ([r1] : List Motion) [(.iface t4 c4)] := RL.cons (cs := [(.iface t4 c4)]) (xs := []) ⟨t4, c4, rfl, h10⟩ (RL.nil _ _)
      refine ws rfl (os_buildSlice (cs := [(.iface t4 c4)]) (E := 99) (sz := 1) rfl rfl (fun _ => by kernel_rfl) rfl (by decide) (fun b3 => ?_))
      obtain ⟨l3, e4, hm⟩ := bind_some hm
      refine ws rfl (os_app (i := 1) (j := 0) (En := encMotion) (xs := xs1) (ys := [(.iface t4 c4)]) underlying142 (by kernel_rfl : (prog.info? 99).map (fun i => (i.zero, i.size, i.bytes)) = some (some .nilIface, (encMotion).size, 16)) rfl (by decide) rfl rfl rfl rfl rfl rfl rl2 rl4 e4 (fun ao5 cap5 rl5 => ?_))
      refine Va rfl (WL.nil (bn (bn (tn ?_))))
      exact ⟨H2, (l1 ++ ([r1] : List Motion)), ao5, cap5, (xs1 ++ [(.iface t4 c4)]), hle2, rl5, (Sub.all rfl), fun w' s => (s.select [1] (by decide) rfl), hm⟩
     rintro g' S' ⟨H3, l4, ao6, cap6, xs2, hle3, rl6, hsub2, hS2, hm⟩
     refine WP.sub hsub2 (WP.weaken hS2 ?_)
     replace hm := (congrFun hk3 l4).symm.trans hm
     replace hG := hG.mono hle3
     refine WP.region (V rfl (ov_add rfl rfl rfl) (Vm rfl (WL.nil (tn ?_))))
     exact ⟨H3, (IntKind.wrap .i64 (i1 + 1)), l4, ao6, cap6, xs2, (hle1.trans hle3), rl6, (Sub.all rfl), fun w' s => s, hm⟩
    replace hm := ite_f hc3 hm
    refine WP.exit (then_exit (then_exit (block_here (tn ?_))))
    exact ⟨H1, l1, ao2, cap2, xs1, hle1, rl2, (Sub.all rfl), fun w' s => s, hm⟩
   rintro g' S' ⟨H4, l5, ao7, cap7, xs3, hle4, rl7, hsub3, hS3, hm⟩
   refine WP.sub hsub3 (WP.weaken hS3 ?_)
   replace hm := (congrFun hk2 l5).symm.trans hm
   replace hG := hG.mono hle4
   refine WP.seq (WP.seq (WP.region (Vm rfl (V rfl (ov_len_slice underlying142 rfl rfl) (V rfl (ov_eql rfl rfl rfl) (WL.nil (tn ?_)))))))
   refine WP.cond rfl (fun hc6 => ?_) (fun hc6 => ?_)
   ·
    replace hm := ite_t hc6 hm
    refine WP.seq (WP.region (Vm rfl ?_))
    refine WL.held rl7 (fun H5 hc7 hle5 h12 => ?_)
    replace hG := hG.mono hle5
    obtain ⟨x2, e5, hm⟩ := bind_some hm
    obtain ⟨h14, h15, h16, cs2, h17, h18⟩ := h12.get e5 (by decide)
    obtain ⟨t6, c5, rfl, h13⟩ := h17
    refine V rfl (ov_indexAddr underlying142 sizeOf99 rfl rfl rfl h14 h15 h16) (V rfl (ov_load_elem (v := (.iface t6 c5)) isAgg99 rfl rfl h18) (Va rfl (WL.nil (tn (WP.ret (then_ret (block_ret (then_ret ?_))))))))
    obtain rfl := Option.some.inj hm
    refine retQ_ret results75 (Res.tmp rfl Res.nil) rfl (fun w' s => ⟨s.below, ?_⟩)
    exact ⟨t6, c5, rfl, h13.mono s.le_newer⟩
   replace hm := ite_f hc6 hm
   refine WP.skip (tn (WP.seq (WP.region (Vm rfl (V rfl (ov_build (r := (.agg #[(.slice ao7 l5.length cap7)])) rfl rfl (fun _ => by kernel_rfl)) ?_)))))
   refine WL.held rl7 (fun H6 hc8 hle6 h19 => ?_)
   replace hG := hG.mono hle6
   have h20 : MotionRep H6 (Motion.list l5) (.iface 144 (.agg #[(.slice ao7 l5.length cap7)])) := MotionRep.mk_list h19 hc8
   refine V rfl (ov_makeIface underlying144 (fun _ h => by cases h) rfl rfl) (Va rfl (WL.nil (tn (WP.ret (block_ret (then_ret ?_))))))
   obtain rfl := Option.some.inj hm
   refine retQ_ret results75 (Res.tmp rfl Res.nil) rfl (fun w' s => ⟨s.below, ?_⟩)
   exact ⟨144, (.agg #[(.slice ao7 l5.length cap7)]), rfl, h20.mono s.le_newer⟩
  replace hm := ite_f hc1 hm
  obtain ⟨t7, v2, hv5, hv6⟩ := MotionRep.not_isList h1 hc1
  refine V rfl (ov_typeAssert_no (z := (.agg #[(.slice none 0 0)])) underlying144 (fun _ h => by cases h) zeroValue144 rfl rfl hv5 hv6) (Ve rfl (Ve rfl (WL.nil (tn (WP.cond_false rfl (WP.seq (WP.region ?_)))))))
  rcases Bool.eq_false_or_eq_true p_m.isRepeat with hc9 | hc9
  ·
   replace hm := ite_t hc9 hm
   obtain ⟨t8, c6, hv7, h21⟩ := MotionRep.open_isRepeat h1 hc9
   refine V rfl (ov_typeAssert_yes (c := (.agg #[(.int .i64 p_m.cnt), (.iface t8 c6)])) underlying146 (fun _ h => by cases h) rfl rfl hv7) (Ve rfl (Ve rfl (WL.nil (tn (WP.cond_true rfl (WP.seq (WP.region ?_)))))))
   refine ws rfl (os_alloc (cs := [(.int .i64 0), .nilIface]) zeroValue146 rfl rfl (fun b4 => ?_))
   refine ws0 rfl (os_store (i := 0) (vs := [(.int .i64 p_m.cnt), (.iface t8 c6)]) (cs' := [(.int .i64 p_m.cnt), (.iface t8 c6)]) sizeOf146 rfl rfl rfl rfl rfl rfl rfl rfl rfl ?_)
   refine WL.nil (tn (WP.seq (WP.region (V rfl (ov_fieldAddr underlying146 rfl rfl rfl sizeOf99 rfl rfl) (Vl 0 isAgg99 rfl ?_)))))
   obtain ⟨r2, e6, hm⟩ := bind_some hm
   refine ws rfl (os_con call75 rfl rfl (fun w' s => (hself p_m.prt t8 c6  w' H s.hold h21  hG r2 e6)) (fun rr2 H7 hle7 hR2 => ?_))
   replace h1 := h1.mono hle7
   replace hG := hG.mono hle7
   obtain ⟨t9, c7, rfl, h22⟩ := hR2
   refine Va rfl (WL.nil (tn (WP.seq (WP.seq (WP.region (V rfl (ov_fieldAddr underlying146 rfl rfl rfl sizeOf3 rfl rfl) (Vl 0 isAgg3 rfl (V rfl (ov_eql rfl rfl rfl) (WL.nil (tn ?_))))))))))
   refine WP.cond rfl (fun hc10 => ?_) (fun hc10 => ?_)
   ·
    replace hm := ite_t hc10 hm
    refine WP.seq (WP.region (Vm rfl (Va rfl (WL.nil (tn (WP.ret (then_ret (block_ret (then_ret ?_)))))))))
    obtain rfl := Option.some.inj hm
    refine retQ_ret results75 (Res.tmp rfl Res.nil) rfl (fun w' s => ⟨s.below, ?_⟩)
    exact ⟨t9, c7, rfl, h22.mono s.le_newer⟩
   replace hm := ite_f hc10 hm
   refine WP.skip (tn (WP.seq (WP.region (V rfl (ov_fieldAddr underlying146 rfl rfl rfl sizeOf3 rfl rfl) (Vl 0 isAgg3 rfl (Vm rfl (V rfl (ov_build (r := (.agg #[(.int .i64 p_m.cnt), (.iface t9 c7)])) rfl rfl (fun _ => by kernel_rfl)) ?_)))))))
   have h23 : MotionRep H7 (Motion.repeat_ p_m.cnt r2) (.iface 146 (.agg #[(.int .i64 p_m.cnt), (.iface t9 c7)])) := MotionRep.mk_repeat h22
   refine V rfl (ov_makeIface underlying146 (fun _ h => by cases h) rfl rfl) (Va rfl (WL.nil (tn (WP.ret (block_ret (then_ret ?_))))))
   obtain rfl := Option.some.inj hm
   refine retQ_ret results75 (Res.tmp rfl Res.nil) rfl (fun w' s => ⟨s.below, ?_⟩)
   exact ⟨146, (.agg #[(.int .i64 p_m.cnt), (.iface t9 c7)]), rfl, h23.mono s.le_newer⟩
  replace hm := ite_f hc9 hm
  obtain ⟨t10, v3, hv8, hv9⟩ := MotionRep.not_isRepeat h1 hc9
  refine V rfl (ov_typeAssert_no (z := (.agg #[(.int .i64 0), .nilIface])) underlying146 (fun _ h => by cases h) zeroValue146 rfl rfl hv8 hv9) (Ve rfl (Ve rfl (WL.nil (tn (WP.cond_false rfl (WP.seq (WP.region ?_)))))))
  rcases Bool.eq_false_or_eq_true p_m.isChoice with hc11 | hc11
  ·
   replace hm := ite_t hc11 hm
   obtain ⟨t11, c8, t12, c9, hv10, h24, h25⟩ := MotionRep.open_isChoice h1 hc11
   refine V rfl (ov_typeAssert_yes (c := (.agg #[(mkS p_m.nm), (.iface t11 c8), (.iface t12 c9)])) underlying148 (fun _ h => by cases h) rfl rfl hv10) (Ve rfl (Ve rfl (WL.nil (tn (WP.cond_true rfl (WP.seq (WP.region ?_)))))))
   refine ws rfl (os_alloc (cs := [(mkS []), .nilIface, .nilIface]) zeroValue148 rfl rfl (fun b5 => ?_))
   refine ws0 rfl (os_store (i := 0) (vs := [(mkS p_m.nm), (.iface t11 c8), (.iface t12 c9)]) (cs' := [(mkS p_m.nm), (.iface t11 c8), (.iface t12 c9)]) sizeOf148 rfl rfl rfl rfl rfl rfl rfl rfl rfl ?_)
   refine WL.nil (tn (WP.seq ?_))
   refine WP.region_any (S₀ := St w H [.blk b5 148 [(mkS p_m.nm), (.iface t11 c8), (.iface t12 c9)]] H) 11 rfl (by kernel_rfl) (fun w' s => s) (fun _ s => s.drew) ?_
   refine TQ 0 (by kernel_rfl) rfl (ov_fieldAddr underlying148 rfl rfl rfl sizeOf9 rfl rfl) (TQ 1 (by kernel_rfl) rfl (ov_load_box (i := 0) isAgg9 rfl rfl rfl rfl) (TQ 2 (by kernel_rfl) rfl (ov_fieldAddr underlying148 rfl rfl rfl sizeOf99 rfl rfl) (TQ 3 (by kernel_rfl) rfl (ov_load_box (i := 0) isAgg99 rfl rfl rfl rfl) (TQ 5 (by kernel_rfl) rfl (ov_fieldAddr underlying148 rfl rfl rfl sizeOf99 rfl rfl) (TQ 6 (by kernel_rfl) rfl (ov_load_box (i := 0) isAgg99 rfl rfl rfl rfl) ?_)))))
   refine AL.any (rs := [4]) (by kernel_rfl) (by decide) ?_
   refine ALs.cons (i := 4) rfl (Runs.free rfl) rfl rfl ?_ ?_
   ·
    obtain ⟨r3, e7, hm⟩ := bind_some hm
    refine os_con call75 rfl rfl (fun w' s => (hself p_m.thn t11 c8  w' H s.hold h24  hG r3 e7)) (fun rr3 H8 hle8 hR3 => ?_)
    replace h1 := h1.mono hle8
    replace h25 := h25.mono hle8
    replace hG := hG.mono hle8
    obtain ⟨t13, c10, rfl, h26⟩ := hR3
    refine ⟨fun w' s => (s.heap hle8), ?_⟩
    refine AL.any (rs := [7]) (by kernel_rfl) (by decide) ?_
    refine ALs.cons (i := 7) rfl (Runs.free rfl) rfl rfl ?_ ?_
    ·
     obtain ⟨r4, e8, hm⟩ := bind_some hm
     refine os_con call75 rfl rfl (fun w' s => (hself p_m.oth t12 c9  w' H8 s.hold h25  hG r4 e8)) (fun rr4 H9 hle9 hR4 => ?_)
     replace h1 := h1.mono hle9
     replace h26 := h26.mono hle9
     obtain ⟨t14, c11, rfl, h27⟩ := hR4
     refine ⟨fun w' s => (s.heap (hle8.trans hle9)), ?_⟩
     refine TQ 8 (by kernel_rfl) rfl (ov_build (r := (.agg #[(mkS p_m.nm), (.iface t13 c10), (.iface t14 c11)])) rfl rfl (fun _ => by kernel_rfl)) ?_
     refine AL.any (rs := [9]) (by kernel_rfl) (by decide) ?_
     refine ALs.cons (i := 9) rfl (Runs.free rfl) rfl rfl ?_ ?_
     ·
      have h28 : MotionRep H9 (Motion.choice p_m.nm r3 r4) (.iface 148 (.agg #[(mkS p_m.nm), (.iface t13 c10), (.iface t14 c11)])) := MotionRep.mk_choice h26 h27
      refine OQ.step (OV.quiet (ov_makeIface underlying148 (fun _ h => by cases h) rfl rfl)) ?_
      refine ⟨fun w' s => (s.heap (hle8.trans hle9)), ?_⟩
      refine TQ 10 (by kernel_rfl) rfl (ov_assign rfl rfl) ?_
      refine AL.done (by kernel_rfl) ?_
      refine tn (WP.ret (block_ret (then_ret ?_)))
      obtain rfl := Option.some.inj hm
      refine retQ_ret results75 (Res.tmp rfl Res.nil) rfl (fun w' s => ⟨s.below, ?_⟩)
      exact ⟨148, (.agg #[(mkS p_m.nm), (.iface t13 c10), (.iface t14 c11)]), rfl, h28.mono s.le_newer⟩
     exact ALs.nil
    exact ALs.nil
   exact ALs.nil
  replace hm := ite_f hc11 hm
  obtain ⟨t15, v4, hv11, hv12⟩ := MotionRep.not_isChoice h1 hc11
  refine V rfl (ov_typeAssert_no (z := (.agg #[(mkS []), .nilIface, .nilIface])) underlying148 (fun _ h => by cases h) zeroValue148 rfl rfl hv11 hv12) (Ve rfl (Ve rfl (WL.nil (tn (WP.cond_false rfl (WP.skip (bn (tn ?_))))))))
  exact ⟨(Sub.all rfl), fun w' s => s, hm⟩
 rintro g' S' ⟨hsub4, hS4, hm⟩
 refine WP.sub hsub4 (WP.weaken hS4 ?_)
 replace hm := hk1.symm.trans hm
 refine WP.seq (WP.region (Vm rfl (Va rfl (WL.nil (tn (WP.ret ?_))))))
 obtain rfl := Option.some.inj hm
 refine retQ_ret results75 (Res.tmp rfl Res.nil) rfl (fun w' s => ⟨s.below, ?_⟩)
 exact ⟨t1, c1, rfl, h1.mono s.le_newer⟩
theorem program_normal_con (n : Nat) : ∀ (p_m : Motion) (t1 : TypeId) (c1 : Value) (w : World) (H : Heap) (hH : Le H (hp w)) (h1 : MotionRep H p_m (.iface t1 c1)) (hG : Glob H) (r : Motion) (hm : program_normal n p_m = some r),
  Con prog 75 [(.iface t1 c1)] w H (fun v H' => ∃ (t2 : TypeId) (c2 : Value), v = (.iface t2 c2) ∧ MotionRep H' r (.iface t2 c2)) := by
 induction n with
 | zero => intro p_m t1 c1 w H hH h1 hG r hm; exact (none_some hm).elim
 | succ n ih => intro p_m t1 c1 w H hH h1 hG r hm; exact program_normal_body_con (program_normal n) ih p_m t1 c1 w H hH h1 hG r hm
theorem program_Normal_con (p_n : Node) (ao1 : Option Addr) (cap1 : Nat) (ao2 : Option Addr) (cap2 : Nat) (w : World) (H : Heap) (hH : Le H (hp w)) (h1 : SL H encStroke ao1 p_n.step.strokes) (hc1 : p_n.step.strokes.length ≤ cap1) (h2 : SL H encNode ao2 p_n.nodes) (hc2 : p_n.nodes.length ≤ cap2) (hG : Glob H) (r : (Node × Int)) (hm : program_Normal p_n = some r) :
  Con prog 36 [(.agg #[(.int .i64 p_n.kind), (.slice ao1 p_n.step.strokes.length cap1), (.int .i64 p_n.step.wait), (.int .i64 p_n.count), (mkS p_n.name), (.slice ao2 p_n.nodes.length cap2)])] w H (fun v H' => ∃ (ao3 : Option Addr) (cap3 : Nat) (ao4 : Option Addr) (cap4 : Nat), v = (.tuple #[(.agg #[(.int .i64 r.1.kind), (.slice ao3 r.1.step.strokes.length cap3), (.int .i64 r.1.step.wait), (.int .i64 r.1.count), (mkS r.1.name), (.slice ao4 r.1.nodes.length cap4)]), (.int .i64 r.2)]) ∧ SL H' encStroke ao3 r.1.step.strokes ∧ r.1.step.strokes.length ≤ cap3 ∧ SL H' encNode ao4 r.1.nodes ∧ r.1.nodes.length ≤ cap4) := by
 unfold program_Normal at hm
 refine con_of hH func36 rfl 15 ntmps36 rfl ?_
 refine WP.seq (WP.region ?_)
 refine ws rfl (os_box (cs := [(.int .i64 p_n.kind), (.slice ao1 p_n.step.strokes.length cap1), (.int .i64 p_n.step.wait), (.int .i64 p_n.count), (mkS p_n.name), (.slice ao2 p_n.nodes.length cap2)]) rfl rfl rfl (fun b1 => ?_))
 refine ws rfl (os_alloc (cs := [(.int .i64 0), (.slice none 0 0), (.int .i64 0), (.int .i64 0), (mkS []), (.slice none 0 0)]) zeroValue28 rfl rfl (fun b2 => ?_))
 refine Va rfl (WL.nil (tn (WP.seq (WP.seq (WP.region (V rfl (ov_load_whole (i := 1) isAgg28 sizeOf28 rfl rfl rfl rfl) ?_))))))
 obtain ⟨r1, e1, hm⟩ := bind_some hm
 refine wo rfl (oq_con (r := (.int .i64 r1)) call31 rfl rfl (fun w' s => ⟨_, (program_Check_con p_n ao1 cap1 ao2 cap2  w' H s.hold h1 hc1 h2 hc2 hG r1 e1)⟩)) ?_
 refine Va rfl (WL.nil (tn (WP.seq (WP.region (Vm rfl (V rfl (ov_neq rfl rfl rfl) (WL.nil (tn ?_))))))))
 refine WP.cond rfl (fun hc5 => ?_) (fun hc5 => ?_)
 ·
  replace hm := ite_t hc5 hm
  refine WP.seq (WP.region (V rfl (ov_build (r := (.agg #[(.int .i64 0), (.slice none 0 0), (.int .i64 0), (.int .i64 0), (mkS []), (.slice none 0 0)])) rfl rfl (fun _ => by kernel_rfl)) (Vm rfl ?_)))
  refine ws0 rfl (os_store (i := 0) (vs := [(.int .i64 0), (.slice none 0 0), (.int .i64 0), (.int .i64 0), (mkS []), (.slice none 0 0)]) (cs' := [(.int .i64 0), (.slice none 0 0), (.int .i64 0), (.int .i64 0), (mkS []), (.slice none 0 0)]) sizeOf28 rfl rfl rfl rfl rfl rfl rfl rfl rfl ?_)
  refine Va rfl (WL.nil (tn (WP.ret (then_ret ?_))))
  obtain rfl := Option.some.inj hm
  refine retQ_ret results36 (Res.cell rfl (box_loads (i := 0) isAgg28 sizeOf28 rfl rfl) (Res.tmp rfl Res.nil)) rfl (fun w' s => ⟨s.below, ?_⟩)
  exact ⟨none, 0, none, 0, rfl, SL.nil _ _ _, Nat.le_refl _, SL.nil _ _ _, Nat.le_refl _⟩
 replace hm := ite_f hc5 hm
 refine WP.skip (tn (WP.seq (WP.region (V rfl (ov_load_whole (i := 1) isAgg28 sizeOf28 rfl rfl rfl rfl) ?_))))
 obtain ⟨r2, e2, hm⟩ := bind_some hm
 refine ws rfl (os_con call53 rfl rfl (fun w' s => (program_of_con 600 p_n ao1 cap1 ao2 cap2  w' H s.hold h1 hc1 h2 hc2 hG r2 e2)) (fun rr1 H1 hle1 hR1 => ?_))
 replace hG := hG.mono hle1
 obtain ⟨t1, c1, rfl, h5⟩ := hR1
 obtain ⟨r3, e3, hm⟩ := bind_some hm
 refine ws rfl (os_con call75 rfl rfl (fun w' s => (program_normal_con 600 r2 t1 c1  w' H1 s.hold h5  hG r3 e3)) (fun rr2 H2 hle2 hR2 => ?_))
 replace hG := hG.mono hle2
 obtain ⟨t2, c2, rfl, h6⟩ := hR2
 obtain ⟨r4, e4, hm⟩ := bind_some hm
 refine ws rfl (os_con call74 rfl rfl (fun w' s => (program_node_con 600 r3 t2 c2  w' H2 s.hold h6  hG r4 e4)) (fun rr3 H3 hle3 hR3 => ?_))
 obtain ⟨ao5, cap5, ao6, cap6, rfl, h7, hc6, h8, hc7⟩ := hR3
 refine ws0 rfl (os_store (i := 0) (vs := [(.int .i64 r4.kind), (.slice ao5 r4.step.strokes.length cap5), (.int .i64 r4.step.wait), (.int .i64 r4.count), (mkS r4.name), (.slice ao6 r4.nodes.length cap6)]) (cs' := [(.int .i64 r4.kind), (.slice ao5 r4.step.strokes.length cap5), (.int .i64 r4.step.wait), (.int .i64 r4.count), (mkS r4.name), (.slice ao6 r4.nodes.length cap6)]) sizeOf28 rfl rfl rfl rfl rfl rfl rfl rfl rfl ?_)
 refine Va rfl (WL.nil (tn (WP.ret ?_)))
 obtain rfl := Option.some.inj hm
 refine retQ_ret results36 (Res.cell rfl (box_loads (i := 0) isAgg28 sizeOf28 rfl rfl) (Res.tmp rfl Res.nil)) rfl (fun w' s => ⟨s.below, ?_⟩)
 exact ⟨ao5, cap5, ao6, cap6, rfl, h7.mono s.le_newer, hc6, h8.mono s.le_newer, hc7⟩
theorem ref15_Plain_body_con (self : Node → Option Node) (hself : ∀ (p_x : Node) (ao1 : Option Addr) (cap1 : Nat) (ao2 : Option Addr) (cap2 : Nat) (w : World) (H : Heap) (hH : Le H (hp w)) (h1 : SL H encStroke ao1 p_x.step.strokes) (hc1 : p_x.step.strokes.length ≤ cap1) (h2 : SL H encNode ao2 p_x.nodes) (hc2 : p_x.nodes.length ≤ cap2) (hG : Glob H) (r : Node) (hm : self p_x = some r), Con prog 76 [(.agg #[(.int .i64 p_x.kind), (.slice ao1 p_x.step.strokes.length cap1), (.int .i64 p_x.step.wait), (.int .i64 p_x.count), (mkS p_x.name), (.slice ao2 p_x.nodes.length cap2)])] w H (fun v H' => ∃ (ao3 : Option Addr) (cap3 : Nat) (ao4 : Option Addr) (cap4 : Nat), v = (.agg #[(.int .i64 r.kind), (.slice ao3 r.step.strokes.length cap3), (.int .i64 r.step.wait), (.int .i64 r.count), (mkS r.name), (.slice ao4 r.nodes.length cap4)]) ∧ SL H' encStroke ao3 r.step.strokes ∧ r.step.strokes.length ≤ cap3 ∧ SL H' encNode ao4 r.nodes ∧ r.nodes.length ≤ cap4)) (p_x : Node) (ao1 : Option Addr) (cap1 : Nat) (ao2 : Option Addr) (cap2 : Nat) (w : World) (H : Heap) (hH : Le H (hp w)) (h1 : SL H encStroke ao1 p_x.step.strokes) (hc1 : p_x.step.strokes.length ≤ cap1) (h2 : SL H encNode ao2 p_x.nodes) (hc2 : p_x.nodes.length ≤ cap2) (hG : Glob H) (r : Node) (hm : ref15_Plain_body self p_x = some r) :
  Con prog 76 [(.agg #[(.int .i64 p_x.kind), (.slice ao1 p_x.step.strokes.length cap1), (.int .i64 p_x.step.wait), (.int .i64 p_x.count), (mkS p_x.name), (.slice ao2 p_x.nodes.length cap2)])] w H (fun v H' => ∃ (ao3 : Option Addr) (cap3 : Nat) (ao4 : Option Addr) (cap4 : Nat), v = (.agg #[(.int .i64 r.kind), (.slice ao3 r.step.strokes.length cap3), (.int .i64 r.step.wait), (.int .i64 r.count), (mkS r.name), (.slice ao4 r.nodes.length cap4)]) ∧ SL H' encStroke ao3 r.step.strokes ∧ r.step.strokes.length ≤ cap3 ∧ SL H' encNode ao4 r.nodes ∧ r.nodes.length ≤ cap4) := by
 unfold ref15_Plain_body at hm
 refine con_of hH func76 rfl 84 ntmps76 rfl ?_
 refine WP.seq (WP.region ?_)
 refine ws rfl (os_box (cs := [(.int .i64 p_x.kind), (.slice ao1 p_x.step.strokes.length cap1), (.int .i64 p_x.step.wait), (.int .i64 p_x.count), (mkS p_x.name), (.slice ao2 p_x.nodes.length cap2)]) rfl rfl rfl (fun b1 => ?_))
 refine ws rfl (os_alloc (cs := [(.int .i64 0), (.slice none 0 0), (.int .i64 0), (.int .i64 0), (mkS []), (.slice none 0 0)]) zeroValue28 rfl rfl (fun b2 => ?_))
 refine WL.nil (tn (WP.seq (WP.region (V rfl (ov_fieldAddr underlying28 rfl rfl rfl sizeOf3 rfl rfl) (Vl 1 isAgg3 rfl (V rfl (ov_fieldAddr underlying28 rfl rfl rfl sizeOf3 rfl rfl) (Vl 1 isAgg3 rfl (V rfl (ov_fieldAddr underlying28 rfl rfl rfl sizeOf9 rfl rfl) (Vl 1 isAgg9 rfl (V rfl (ov_build (r := (.agg #[(.int .i64 p_x.kind), (.slice none 0 0), (.int .i64 0), (.int .i64 p_x.count), (mkS p_x.name), (.slice none 0 0)])) rfl rfl (fun _ => by kernel_rfl)) ?_))))))))))
 refine ws rfl (os_alloc (cs := [(.int .i64 0), (.slice none 0 0), (.int .i64 0), (.int .i64 0), (mkS []), (.slice none 0 0)]) zeroValue28 rfl rfl (fun b3 => ?_))
 refine ws0 rfl (os_store (i := 0) (vs := [(.int .i64 p_x.kind), (.slice none 0 0), (.int .i64 0), (.int .i64 p_x.count), (mkS p_x.name), (.slice none 0 0)]) (cs' := [(.int .i64 p_x.kind), (.slice none 0 0), (.int .i64 0), (.int .i64 p_x.count), (mkS p_x.name), (.slice none 0 0)]) sizeOf28 rfl rfl rfl rfl rfl rfl rfl rfl rfl ?_)
 refine WL.nil (tn (WP.seq (WP.region (V rfl (ov_fieldAddr underlying28 rfl rfl rfl sizeOf25 rfl rfl) (V rfl (ov_fieldAddr underlying25 rfl rfl rfl sizeOf3 rfl rfl) (Vl 2 isAgg3 rfl (V rfl (ov_fieldAddr underlying28 rfl rfl rfl sizeOf25 rfl rfl) (V rfl (ov_fieldAddr underlying25 rfl rfl rfl sizeOf3 rfl rfl) ?_))))))))
 refine ws0 rfl (os_store (i := 0) (vs := [(.int .i64 p_x.step.wait)]) (cs' := [(.int .i64 p_x.kind), (.slice none 0 0), (.int .i64 p_x.step.wait), (.int .i64 p_x.count), (mkS p_x.name), (.slice none 0 0)]) sizeOf3 rfl rfl rfl rfl rfl rfl rfl rfl rfl ?_)
 refine WL.nil (tn (WP.seq (WP.region (V rfl (ov_fieldAddr underlying28 rfl rfl rfl sizeOf25 rfl rfl) (V rfl (ov_fieldAddr underlying25 rfl rfl rfl sizeOf23 rfl rfl) (Vl 0 isAgg23 rfl (V rfl (ov_fieldAddr underlying28 rfl rfl rfl sizeOf25 rfl rfl) (V rfl (ov_fieldAddr underlying25 rfl rfl rfl sizeOf23 rfl rfl) (Vl 2 isAgg23 rfl ?_)))))))))
 have rl1 := RL.nil (α := Stroke) H encStroke
 refine WL.weaken (fun _ s => s.nilrow 112 (encStroke).size) ?_
 obtain ⟨l1, e1, hm⟩ := bind_some hm
 refine ws rfl (os_app_sl (i := 0) (En := encStroke) (xs := []) underlying23 (by kernel_rfl : (prog.info? 112).map (fun i => (i.zero, i.size, i.bytes)) = some (some (.agg #[(.int .i64 0), (.bool false)]), (encStroke).size, 16)) rfl (by decide) one_encStroke rfl rfl rfl rfl h1 hc1 rl1 e1 (fun ao5 cap5 ys1 rl2 => ?_))
 refine V rfl (ov_fieldAddr underlying28 rfl rfl rfl sizeOf25 rfl rfl) (V rfl (ov_fieldAddr underlying25 rfl rfl rfl sizeOf23 rfl rfl) ?_)
 refine ws0 rfl (os_store (i := 1) (vs := [(.slice ao5 (([] : List Stroke) ++ p_x.step.strokes).length cap5)]) (cs' := [(.int .i64 p_x.kind), (.slice ao5 (([] : List Stroke) ++ p_x.step.strokes).length cap5), (.int .i64 p_x.step.wait), (.int .i64 p_x.count), (mkS p_x.name), (.slice none 0 0)]) sizeOf23 rfl rfl rfl rfl rfl rfl rfl rfl rfl ?_)
 refine WL.nil (tn ?_)
 obtain ⟨k1, hk1, hm⟩ := joinK_some hm
 refine WP.seq_join (fun g' S' => ∃ (H4 : Heap) (l6 : (List Node)) (ao14 : Option Addr) (cap14 : Nat) (xs3 : List Value), Le H H4 ∧ RL H4 encNode l6 xs3 ∧ Sub [(2, (pB b2 0)), (3, (pB b3 0)), (1000000007, (.bool false))] g' ∧ (∀ w', S' w' → St w H [.row 28 (encNode).size l6.length (.slice ao14 l6.length cap14) xs3, .row 112 (encStroke).size (([] : List Stroke) ++ p_x.step.strokes).length (.slice ao5 (([] : List Stroke) ++ p_x.step.strokes).length cap5) ([] ++ ys1), .blk b3 28 [(.int .i64 p_x.kind), (.slice ao5 (([] : List Stroke) ++ p_x.step.strokes).length cap5), (.int .i64 p_x.step.wait), (.int .i64 p_x.count), (mkS p_x.name), (.slice ao14 l6.length cap14)], .blk b2 28 [(.int .i64 0), (.slice none 0 0), (.int .i64 0), (.int .i64 0), (mkS []), (.slice none 0 0)]] H4 w') ∧ k1 l6 = some r) ?_ ?_
 ·
  refine WP.seq (WP.region (Va rfl (WL.nil (tn (WP.block ?_)))))
  have rl3 := RL.nil (α := Node) H encNode
  refine WP.weaken (fun _ s => s.nilrow 28 (encNode).size) ?_
  refine WP.loop (fun m1 g' S' => ∃ (H1 : Heap) (i1 : Int) (l2 : (List Node)) (ao6 : Option Addr) (cap6 : Nat) (xs1 : List Value), Le H H1 ∧ RL H1 encNode l2 xs1 ∧ Sub [(1, (pB b1 0)), (2, (pB b2 0)), (3, (pB b3 0)), (4, (.int .i64 i1)), (1000000007, (.bool false))] g' ∧ (∀ w', S' w' → St w H [.row 28 (encNode).size l2.length (.slice ao6 l2.length cap6) xs1, .row 112 (encStroke).size (([] : List Stroke) ++ p_x.step.strokes).length (.slice ao5 (([] : List Stroke) ++ p_x.step.strokes).length cap5) ([] ++ ys1), .blk b3 28 [(.int .i64 p_x.kind), (.slice ao5 (([] : List Stroke) ++ p_x.step.strokes).length cap5), (.int .i64 p_x.step.wait), (.int .i64 p_x.count), (mkS p_x.name), (.slice ao6 l2.length cap6)], .blk b2 28 [(.int .i64 0), (.slice none 0 0), (.int .i64 0), (.int .i64 0), (mkS []), (.slice none 0 0)], .blk b1 28 [(.int .i64 p_x.kind), (.slice ao1 p_x.step.strokes.length cap1), (.int .i64 p_x.step.wait), (.int .i64 p_x.count), (mkS p_x.name), (.slice ao2 p_x.nodes.length cap2)]] H1 w') ∧ ref15_Plain_loop1 p_x self k1 m1 i1 l2 = some r) ((Int.toNat ((p_x.nodes.length : Int) - 0) + 1)) ⟨H, 0, ([] : List Node), none, 0, [], (Le.refl _), rl3, (Sub.all rfl), fun w' s => s, hm⟩ ?_ ?_
  ·
   rintro g' S' ⟨_, _, _, _, _, _, _, _, _, _, hm⟩
   exact none_some hm
  rintro m1 g' S' ⟨H1, i1, l2, ao6, cap6, xs1, hle1, rl4, hsub1, hS1, hm⟩
  refine WP.sub hsub1 (WP.weaken hS1 ?_)
  rw [ref15_Plain_loop1] at hm
  replace rl2 := rl2.mono hle1
  replace h2 := h2.mono hle1
  replace hG := hG.mono hle1
  refine WP.seq (WP.seq (WP.region (Vm rfl (V rfl (ov_fieldAddr underlying28 rfl rfl rfl sizeOf26 rfl rfl) (Vl 4 isAgg26 rfl (V rfl (ov_len_slice underlying26 rfl rfl) (V rfl (ov_lss rfl rfl rfl) (WL.nil (tn ?_)))))))))
  refine WP.cond rfl (fun hc5 => ?_) (fun hc5 => ?_)
  ·
   replace hm := ite_t hc5 hm
   refine WP.skip (tn ?_)
   obtain ⟨k2, hk2, hm⟩ := joinK_some hm
   refine WP.seq_join (fun g' S' => ∃ (H3 : Heap) (l5 : (List Node)) (ao13 : Option Addr) (cap13 : Nat) (xs2 : List Value), Le H1 H3 ∧ RL H3 encNode l5 xs2 ∧ Sub [(1, (pB b1 0)), (2, (pB b2 0)), (3, (pB b3 0)), (4, (.int .i64 i1)), (1000000007, (.bool false))] g' ∧ (∀ w', S' w' → St w H [.row 28 (encNode).size l5.length (.slice ao13 l5.length cap13) xs2, .row 112 (encStroke).size (([] : List Stroke) ++ p_x.step.strokes).length (.slice ao5 (([] : List Stroke) ++ p_x.step.strokes).length cap5) ([] ++ ys1), .blk b3 28 [(.int .i64 p_x.kind), (.slice ao5 (([] : List Stroke) ++ p_x.step.strokes).length cap5), (.int .i64 p_x.step.wait), (.int .i64 p_x.count), (mkS p_x.name), (.slice ao13 l5.length cap13)], .blk b2 28 [(.int .i64 0), (.slice none 0 0), (.int .i64 0), (.int .i64 0), (mkS []), (.slice none 0 0)], .blk b1 28 [(.int .i64 p_x.kind), (.slice ao1 p_x.step.strokes.length cap1), (.int .i64 p_x.step.wait), (.int .i64 p_x.count), (mkS p_x.name), (.slice ao2 p_x.nodes.length cap2)]] H3 w') ∧ k2 l5 = some r) ?_ ?_
   ·
    refine WP.block (WP.seq (WP.region (V rfl (ov_fieldAddr underlying28 rfl rfl rfl sizeOf26 rfl rfl) (Vl 4 isAgg26 rfl (Vm rfl ?_)))))
    obtain ⟨x1, e2, hm⟩ := bind_some hm
    obtain ⟨h7, h8, h9, cs1, h10, h11⟩ := h2.get e2 (by decide)
    obtain ⟨ao7, cap7, ao8, cap8, rfl, h5, hc6, h6, hc7⟩ := (encNode_open h10)
    refine V rfl (ov_indexAddr underlying26 sizeOf28 rfl rfl rfl h7 h8 h9) (V rfl (ov_load_elems (vs := [(.int .i64 x1.kind), (.slice ao7 x1.step.strokes.length cap7), (.int .i64 x1.step.wait), (.int .i64 x1.count), (mkS x1.name), (.slice ao8 x1.nodes.length cap8)]) isAgg28 sizeOf28 rfl rfl rfl h11 h9) ?_)
    obtain ⟨r1, e3, hm⟩ := bind_some hm
    refine ws rfl (os_con call76 rfl rfl (fun w' s => (hself x1 ao7 cap7 ao8 cap8  w' H1 s.hold h5 hc6 h6 hc7 hG r1 e3)) (fun rr1 H2 hle2 hR1 => ?_))
    replace rl4 := rl4.mono hle2
    replace rl2 := rl2.mono hle2
    obtain ⟨ao9, cap9, ao10, cap10, rfl, h12, hc8, h13, hc9⟩ := hR1
    refine ws rfl (os_alloc (cs := [(.int .i64 0), (.slice none 0 0), (.int .i64 0), (.int .i64 0), (mkS []), (.slice none 0 0)]) zeroValue28 rfl rfl (fun b4 => ?_))
    refine ws0 rfl (os_store (i := 0) (vs := [(.int .i64 r1.kind), (.slice ao9 r1.step.strokes.length cap9), (.int .i64 r1.step.wait), (.int .i64 r1.count), (mkS r1.name), (.slice ao10 r1.nodes.length cap10)]) (cs' := [(.int .i64 r1.kind), (.slice ao9 r1.step.strokes.length cap9), (.int .i64 r1.step.wait), (.int .i64 r1.count), (mkS r1.name), (.slice ao10 r1.nodes.length cap10)]) sizeOf28 rfl rfl rfl rfl rfl rfl rfl rfl rfl ?_)
    refine WL.nil (tn (WP.seq (WP.region (V rfl (ov_fieldAddr underlying28 rfl rfl rfl sizeOf3 rfl rfl) (Vl 5 isAgg3 rfl (V rfl (ov_eql rfl rfl rfl) (Vm rfl ?_)))))))
    refine WL.cut_bool 4 47 (x := ((p_x.kind == 1) && (r1.kind == 1))) ?_ ?_
    ·
     rcases Bool.eq_false_or_eq_true (p_x.kind == 1) with hc10 | hc10
     ·
      refine wy hc10 rfl (ov_fieldAddr underlying28 rfl rfl rfl sizeOf3 rfl rfl) ?_
      refine wy hc10 rfl (ov_load_box (i := 0) isAgg3 rfl rfl rfl rfl) ?_
      refine wy hc10 rfl (ov_eql rfl rfl rfl) ?_
      refine V rfl (ov_pick_true rfl (guard_eq rfl hc10) rfl) ?_
      exact WL.nil ⟨Sub.cons' rfl (congrArg Value.bool (andT hc10)) (Sub.dropn 4 rfl), fun _ s => s⟩
     refine Vi rfl (Idle.no rfl rfl rfl hc10) (Vi rfl (Idle.no rfl rfl rfl hc10) (Vi rfl (Idle.no rfl rfl rfl hc10) (V rfl (ov_pick_false rfl (guard_eq rfl hc10) rfl) ?_)))
     exact WL.nil ⟨Sub.cons' rfl (congrArg Value.bool (andF hc10)) (Sub.dropn 4 rfl), fun _ s => s⟩
    refine WL.nil (tn ?_)
    refine WP.cond rfl (fun hc11 => ?_) (fun hc11 => ?_)
    ·
     replace hm := ite_t hc11 hm
     refine WP.region (V rfl (ov_fieldAddr underlying28 rfl rfl rfl sizeOf26 rfl rfl) (Vl 3 isAgg26 rfl (V rfl (ov_fieldAddr underlying28 rfl rfl rfl sizeOf26 rfl rfl) (Vl 0 isAgg26 rfl ?_))))
     obtain ⟨l3, e4, hm⟩ := bind_some hm
     refine ws rfl (os_app_sl (i := 1) (En := encNode) (xs := xs1) underlying26 (by kernel_rfl : (prog.info? 28).map (fun i => (i.zero, i.size, i.bytes)) = some (some (.agg #[(.int .i64 0), (.slice none 0 0), (.int .i64 0), (.int .i64 0), (mkS []), (.slice none 0 0)]), (encNode).size, 88)) rfl (by decide) one_encNode rfl rfl rfl rfl h13 hc9 rl4 e4 (fun ao11 cap11 ys2 rl5 => ?_))
     refine V rfl (ov_fieldAddr underlying28 rfl rfl rfl sizeOf26 rfl rfl) ?_
     refine ws0 rfl (os_store (i := 3) (vs := [(.slice ao11 (l2 ++ r1.nodes).length cap11)]) (cs' := [(.int .i64 p_x.kind), (.slice ao5 (([] : List Stroke) ++ p_x.step.strokes).length cap5), (.int .i64 p_x.step.wait), (.int .i64 p_x.count), (mkS p_x.name), (.slice ao11 (l2 ++ r1.nodes).length cap11)]) sizeOf26 rfl rfl rfl rfl rfl rfl rfl rfl rfl ?_)
     refine WL.nil (bn (tn ?_))
     exact ⟨H2, (l2 ++ r1.nodes), ao11, cap11, (xs1 ++ ys2), hle2, rl5, (Sub.all rfl), fun w' s => (s.select [1, 2, 3, 4, 5] (by decide) rfl), hm⟩
    replace hm := ite_f hc11 hm
    refine WP.region (V rfl (ov_fieldAddr underlying28 rfl rfl rfl sizeOf26 rfl rfl) (Vl 3 isAgg26 rfl (V rfl (ov_load_whole (i := 0) isAgg28 sizeOf28 rfl rfl rfl rfl) ?_)))
    have rl6 : RL H2 encNode ([r1] : List Node) [(.int .i64 r1.kind), (.slice ao9 r1.step.strokes.length cap9), (.int .i64 r1.step.wait), (.int .i64 r1.count), (mkS r1.name), (.slice ao10 r1.nodes.length cap10)] := RL.cons (cs := [(.int .i64 r1.kind), (.slice ao9 r1.step.strokes.length cap9), (.int .i64 r1.step.wait), (.int .i64 r1.count), (mkS r1.name), (.slice ao10 r1.nodes.length cap10)]) (xs := []) (encNode_make ⟨ao9, cap9, ao10, cap10, rfl, h12, hc8, h13, hc9⟩) (RL.nil _ _)
    refine ws rfl (os_buildSlice (cs := [(.int .i64 r1.kind), (.slice ao9 r1.step.strokes.length cap9), (.int .i64 r1.step.wait), (.int .i64 r1.count), (mkS r1.name), (.slice ao10 r1.nodes.length cap10)]) (E := 28) (sz := 6) rfl rfl (fun _ => by kernel_rfl) rfl (by decide) (fun b5 => ?_))
    obtain ⟨l4, e5, hm⟩ := bind_some hm
    refine ws rfl (os_app (i := 2) (j := 0) (En := encNode) (xs := xs1) (ys := [(.int .i64 r1.kind), (.slice ao9 r1.step.strokes.length cap9), (.int .i64 r1.step.wait), (.int .i64 r1.count), (mkS r1.name), (.slice ao10 r1.nodes.length cap10)]) underlying26 (by kernel_rfl : (prog.info? 28).map (fun i => (i.zero, i.size, i.bytes)) = some (some (.agg #[(.int .i64 0), (.slice none 0 0), (.int .i64 0), (.int .i64 0), (mkS []), (.slice none 0 0)]), (encNode).size, 88)) rfl (by decide) rfl rfl rfl rfl rfl rfl rl4 rl6 e5 (fun ao12 cap12 rl7 => ?_))
    refine V rfl (ov_fieldAddr underlying28 rfl rfl rfl sizeOf26 rfl rfl) ?_
    refine ws0 rfl (os_store (i := 4) (vs := [(.slice ao12 (l2 ++ ([r1] : List Node)).length cap12)]) (cs' := [(.int .i64 p_x.kind), (.slice ao5 (([] : List Stroke) ++ p_x.step.strokes).length cap5), (.int .i64 p_x.step.wait), (.int .i64 p_x.count), (mkS p_x.name), (.slice ao12 (l2 ++ ([r1] : List Node)).length cap12)]) sizeOf26 rfl rfl rfl rfl rfl rfl rfl rfl rfl ?_)
    refine WL.nil (bn (tn ?_))
    exact ⟨H2, (l2 ++ ([r1] : List Node)), ao12, cap12, (xs1 ++ [(.int .i64 r1.kind), (.slice ao9 r1.step.strokes.length cap9), (.int .i64 r1.step.wait), (.int .i64 r1.count), (mkS r1.name), (.slice ao10 r1.nodes.length cap10)]), hle2, rl7, (Sub.all rfl), fun w' s => (s.select [2, 3, 4, 5, 6] (by decide) rfl), hm⟩
   rintro g' S' ⟨H3, l5, ao13, cap13, xs2, hle3, rl8, hsub2, hS2, hm⟩
   refine WP.sub hsub2 (WP.weaken hS2 ?_)
   replace hm := (congrFun hk2 l5).symm.trans hm
   replace rl2 := rl2.mono hle3
   refine WP.region (Vm rfl (V rfl (ov_add rfl rfl rfl) (Va rfl (WL.nil (tn ?_)))))
   exact ⟨H3, (IntKind.wrap .i64 (i1 + 1)), l5, ao13, cap13, xs2, (hle1.trans hle3), rl8, (Sub.all rfl), fun w' s => s, hm⟩
  replace hm := ite_f hc5 hm
  refine WP.exit (then_exit (then_exit (block_here (tn ?_))))
  exact ⟨H1, l2, ao6, cap6, xs1, hle1, rl4, (Sub.all rfl), fun w' s => (s.select [0, 1, 2, 3] (by decide) rfl), hm⟩
 rintro g' S' ⟨H4, l6, ao14, cap14, xs3, hle4, rl9, hsub3, hS3, hm⟩
 refine WP.sub hsub3 (WP.weaken hS3 ?_)
 replace hm := (congrFun hk1 l6).symm.trans hm
 replace rl2 := rl2.mono hle4
 refine WP.seq (WP.seq (WP.region (V rfl (ov_fieldAddr underlying28 rfl rfl rfl sizeOf3 rfl rfl) (Vl 2 isAgg3 rfl (V rfl (ov_eql rfl rfl rfl) (Vm rfl ?_))))))
 refine WL.cut_bool 5 68 (x := ((p_x.kind == 1) && ((l6.length : Int) == 1))) ?_ ?_
 ·
  rcases Bool.eq_false_or_eq_true (p_x.kind == 1) with hc12 | hc12
  ·
   refine wy hc12 rfl (ov_fieldAddr underlying28 rfl rfl rfl sizeOf26 rfl rfl) ?_
   refine wy hc12 rfl (ov_load_box (i := 2) isAgg26 rfl rfl rfl rfl) ?_
   refine wy hc12 rfl (ov_len_slice underlying26 rfl rfl) ?_
   refine wy hc12 rfl (ov_eql rfl rfl rfl) ?_
   refine V rfl (ov_pick_true rfl (guard_eq rfl hc12) rfl) ?_
   exact WL.nil ⟨Sub.cons' rfl (congrArg Value.bool (andT hc12)) (Sub.dropn 5 rfl), fun _ s => s⟩
  refine Vi rfl (Idle.no rfl rfl rfl hc12) (Vi rfl (Idle.no rfl rfl rfl hc12) (Vi rfl (Idle.no rfl rfl rfl hc12) (Vi rfl (Idle.no rfl rfl rfl hc12) (V rfl (ov_pick_false rfl (guard_eq rfl hc12) rfl) ?_))))
  exact WL.nil ⟨Sub.cons' rfl (congrArg Value.bool (andF hc12)) (Sub.dropn 5 rfl), fun _ s => s⟩
 refine Vm rfl ?_
 refine WL.cut_bool 9 78 (x := (((p_x.kind == 1) && ((l6.length : Int) == 1)) || ((p_x.kind == 2) && (p_x.count == 1)))) ?_ ?_
 ·
  rcases Bool.eq_false_or_eq_true ((p_x.kind == 1) && ((l6.length : Int) == 1)) with hc13 | hc13
  ·
   refine Vi rfl (Idle.no rfl rfl rfl hc13) (Vi rfl (Idle.no rfl rfl rfl hc13) (Vi rfl (Idle.no rfl rfl rfl hc13) (Vi rfl (Idle.no rfl rfl rfl hc13) (Vi rfl (Idle.undef rfl rfl rfl) (Vi rfl (Idle.undef rfl rfl rfl) (Vi rfl (Idle.undef rfl rfl rfl) (Vi rfl (Idle.no rfl rfl rfl hc13) (V rfl (ov_pick_true rfl (guard_eq rfl hc13) rfl) ?_))))))))
   exact WL.nil ⟨Sub.cons' rfl (congrArg Value.bool (orT hc13)) (Sub.dropn 9 rfl), fun _ s => s⟩
  refine wy hc13 rfl (ov_fieldAddr underlying28 rfl rfl rfl sizeOf3 rfl rfl) ?_
  refine wy hc13 rfl (ov_load_box (i := 2) isAgg3 rfl rfl rfl rfl) ?_
  refine wy hc13 rfl (ov_eql rfl rfl rfl) ?_
  refine wy hc13 rfl (ov_move rfl rfl) ?_
  refine WL.cut_bool 4 77 (x := ((p_x.kind == 2) && (p_x.count == 1))) ?_ ?_
  ·
   rcases Bool.eq_false_or_eq_true (p_x.kind == 2) with hc14 | hc14
   ·
    refine wy hc14 rfl (ov_fieldAddr underlying28 rfl rfl rfl sizeOf3 rfl rfl) ?_
    refine wy hc14 rfl (ov_load_box (i := 2) isAgg3 rfl rfl rfl rfl) ?_
    refine wy hc14 rfl (ov_eql rfl rfl rfl) ?_
    refine wy hc13 rfl (ov_pick_true rfl (guard_eq rfl hc14) rfl) ?_
    exact WL.nil ⟨Sub.cons' rfl (congrArg Value.bool (andT hc14)) (Sub.dropn 4 rfl), fun _ s => s⟩
   refine Vi rfl (Idle.no rfl rfl rfl hc14) (Vi rfl (Idle.no rfl rfl rfl hc14) (Vi rfl (Idle.no rfl rfl rfl hc14) ?_))
   refine wy hc13 rfl (ov_pick_false rfl (guard_eq rfl hc14) rfl) ?_
   exact WL.nil ⟨Sub.cons' rfl (congrArg Value.bool (andF hc14)) (Sub.dropn 4 rfl), fun _ s => s⟩
  refine V rfl (ov_pick_false rfl (guard_eq rfl hc13) rfl) ?_
  exact WL.nil ⟨Sub.cons' rfl (congrArg Value.bool (orF hc13)) (Sub.dropn 6 rfl), fun _ s => s⟩
 refine WL.nil (tn ?_)
 refine WP.cond rfl (fun hc15 => ?_) (fun hc15 => ?_)
 ·
  replace hm := ite_t hc15 hm
  refine WP.seq (WP.region (V rfl (ov_fieldAddr underlying28 rfl rfl rfl sizeOf26 rfl rfl) (Vl 2 isAgg26 rfl ?_)))
  refine WL.held rl9 (fun H5 hc16 hle5 h14 => ?_)
  replace rl2 := rl2.mono hle5
  obtain ⟨x2, e6, hm⟩ := bind_some hm
  obtain ⟨h17, h18, h19, cs2, h20, h21⟩ := h14.get e6 (by decide)
  obtain ⟨ao15, cap15, ao16, cap16, rfl, h15, hc17, h16, hc18⟩ := (encNode_open h20)
  refine V rfl (ov_indexAddr underlying26 sizeOf28 rfl rfl rfl h17 h18 h19) (V rfl (ov_load_elems (vs := [(.int .i64 x2.kind), (.slice ao15 x2.step.strokes.length cap15), (.int .i64 x2.step.wait), (.int .i64 x2.count), (mkS x2.name), (.slice ao16 x2.nodes.length cap16)]) isAgg28 sizeOf28 rfl rfl rfl h21 h19) ?_)
  refine ws0 rfl (os_store (i := 2) (vs := [(.int .i64 x2.kind), (.slice ao15 x2.step.strokes.length cap15), (.int .i64 x2.step.wait), (.int .i64 x2.count), (mkS x2.name), (.slice ao16 x2.nodes.length cap16)]) (cs' := [(.int .i64 x2.kind), (.slice ao15 x2.step.strokes.length cap15), (.int .i64 x2.step.wait), (.int .i64 x2.count), (mkS x2.name), (.slice ao16 x2.nodes.length cap16)]) sizeOf28 rfl rfl rfl rfl rfl rfl rfl rfl rfl ?_)
  refine WL.nil (tn (WP.ret (then_ret ?_)))
  obtain rfl := Option.some.inj hm
  refine retQ_ret results76 (Res.cell rfl (box_loads (i := 2) isAgg28 sizeOf28 rfl rfl) Res.nil) rfl (fun w' s => ⟨s.below, ?_⟩)
  exact ⟨ao15, cap15, ao16, cap16, rfl, h15.mono s.le_newer, hc17, h16.mono s.le_newer, hc18⟩
 replace hm := ite_f hc15 hm
 refine WP.skip (tn (WP.seq (WP.region (V rfl (ov_load_whole (i := 2) isAgg28 sizeOf28 rfl rfl rfl rfl) ?_))))
 refine ws0 rfl (os_store (i := 3) (vs := [(.int .i64 p_x.kind), (.slice ao5 (([] : List Stroke) ++ p_x.step.strokes).length cap5), (.int .i64 p_x.step.wait), (.int .i64 p_x.count), (mkS p_x.name), (.slice ao14 l6.length cap14)]) (cs' := [(.int .i64 p_x.kind), (.slice ao5 (([] : List Stroke) ++ p_x.step.strokes).length cap5), (.int .i64 p_x.step.wait), (.int .i64 p_x.count), (mkS p_x.name), (.slice ao14 l6.length cap14)]) sizeOf28 rfl rfl rfl rfl rfl rfl rfl rfl rfl ?_)
 refine WL.nil (tn (WP.ret ?_))
 obtain rfl := Option.some.inj hm
 refine retQ_ret results76 (Res.cell rfl (box_loads (i := 3) isAgg28 sizeOf28 rfl rfl) Res.nil) rfl (fun w' s => ⟨s.below, ?_⟩)
 obtain ⟨h22, hc19⟩ := s.ret_row (i := 1) rfl rl2
 obtain ⟨h23, hc20⟩ := s.ret_row (i := 0) rfl rl9
 exact ⟨ao5, cap5, ao14, cap14, rfl, h22, hc19, h23, hc20⟩
theorem ref15_Plain_con (n : Nat) : ∀ (p_x : Node) (ao1 : Option Addr) (cap1 : Nat) (ao2 : Option Addr) (cap2 : Nat) (w : World) (H : Heap) (hH : Le H (hp w)) (h1 : SL H encStroke ao1 p_x.step.strokes) (hc1 : p_x.step.strokes.length ≤ cap1) (h2 : SL H encNode ao2 p_x.nodes) (hc2 : p_x.nodes.length ≤ cap2) (hG : Glob H) (r : Node) (hm : ref15_Plain n p_x = some r),
  Con prog 76 [(.agg #[(.int .i64 p_x.kind), (.slice ao1 p_x.step.strokes.length cap1), (.int .i64 p_x.step.wait), (.int .i64 p_x.count), (mkS p_x.name), (.slice ao2 p_x.nodes.length cap2)])] w H (fun v H' => ∃ (ao3 : Option Addr) (cap3 : Nat) (ao4 : Option Addr) (cap4 : Nat), v = (.agg #[(.int .i64 r.kind), (.slice ao3 r.step.strokes.length cap3), (.int .i64 r.step.wait), (.int .i64 r.count), (mkS r.name), (.slice ao4 r.nodes.length cap4)]) ∧ SL H' encStroke ao3 r.step.strokes ∧ r.step.strokes.length ≤ cap3 ∧ SL H' encNode ao4 r.nodes ∧ r.nodes.length ≤ cap4) := by
 induction n with
 | zero => intro p_x ao1 cap1 ao2 cap2 w H hH h1 hc1 h2 hc2 hG r hm; exact (none_some hm).elim
 | succ n ih => intro p_x ao1 cap1 ao2 cap2 w H hH h1 hc1 h2 hc2 hG r hm; exact ref15_Plain_body_con (ref15_Plain n) ih p_x ao1 cap1 ao2 cap2 w H hH h1 hc1 h2 hc2 hG r hm
end Go.Proofs.YtgpfgnpdbmbknaaGreatDoor.W
