import Derived.Test.YtkgijoddkibapaaGreatDoorPlain
import Derived.Test.YtkgijoddkibapaaGreatDoorEqs
import Derived.Test.YtkgijoddkibapaaGreatDoorProg
import Derived.Test.YtkgijoddkibapaaGreatDoorExt
import Derived.Test.YtkgijoddkibapaaGreatDoorBuild
import Derived.Test.YtkgijoddkibapaaGreatDoorClone
import Derived.Test.YtkgijoddkibapaaGreatDoorCells
import Derived.Test.YtkgijoddkibapaaGreatDoorWalk2
import Derived.Test.YtkgijoddkibapaaGreatDoorWalk4
import Derived.Test.YtkgijoddkibapaaGreatDoorWalk9
set_option linter.unusedVariables false
set_option maxRecDepth 100000
set_option maxHeartbeats 4000000
namespace Go.Proofs.YtkgijoddkibapaaGreatDoor.W
open Go Go.RowKit Go.Proofs.Tryz
theorem schedule_most_int_schedule_Run_1_con (p_l : (List Int)) (ao1 : Option Addr) (cap1 : Nat) (w : World) (H : Heap) (hH : Le H (hp w)) (h1 : SL H (encInt .i64) ao1 p_l) (hc1 : p_l.length ≤ cap1) (hG : Glob H) (r : Int) (hm : schedule_most_int_schedule_Run_1 p_l = some r) :
  Con prog 24 [(.slice ao1 p_l.length cap1), (.func (.func 25) #[] #[])] w H (fun v _ => v = (.int .i64 r)) := by
 unfold schedule_most_int_schedule_Run_1 at hm
 refine con_of hH func24 rfl 21 ntmps24 rfl ?_
 refine WP.seq (WP.region (Va rfl (WL.nil (tn (WP.seq (WP.region (Va rfl (WL.nil (tn ?_)))))))))
 obtain ⟨k1, hk1, hm⟩ := joinK_some hm
 refine WP.seq_join (fun g' S' => ∃ (i3 : Int), Sub [(5, (.int .i64 i3)), (1000000007, (.bool false))] g' ∧ (∀ w', S' w' → St w H [] H w') ∧ k1 i3 = some r) ?_ ?_
 ·
  refine WP.seq (WP.region (Vm rfl (V rfl (ov_len_slice underlying33 rfl rfl) (Vm rfl (WL.nil (tn (WP.block ?_)))))))
  refine WP.loop (fun m1 g' S' => ∃ (i1 : Int) (i2 : Int), Sub [(1, (.func (.func 25) #[] #[])), (5, (.int .i64 i1)), (8, (.slice ao1 p_l.length cap1)), (9, (.int .i64 (p_l.length : Int))), (10, (.int .i64 i2)), (1000000007, (.bool false))] g' ∧ (∀ w', S' w' → St w H [] H w') ∧ schedule_most_int_schedule_Run_1_loop1 p_l k1 m1 i1 i2 = some r) ((Int.toNat ((p_l.length : Int) - 0) + 1)) ⟨0, 0, (Sub.all rfl), fun w' s => s, hm⟩ ?_ ?_
  ·
   rintro g' S' ⟨_, _, _, _, hm⟩
   exact none_some hm
  rintro m1 g' S' ⟨i1, i2, hsub1, hS1, hm⟩
  refine WP.sub hsub1 (WP.weaken hS1 ?_)
  rw [schedule_most_int_schedule_Run_1_loop1] at hm
  refine WP.seq (WP.region (V rfl (ov_lss rfl rfl rfl) (WL.nil (tn (WP.seq ?_)))))
  refine WP.cond rfl (fun hc2 => ?_) (fun hc2 => ?_)
  ·
   replace hm := ite_t hc2 hm
   refine WP.skip (tn (WP.seq (WP.block (WP.seq (WP.region ?_)))))
   obtain ⟨x1, e1, hm⟩ := bind_some hm
   obtain ⟨h2, h3, h4, cs1, h5, h6⟩ := h1.get e1 (by decide)
   obtain rfl : cs1 = [(.int .i64 x1)] := h5
   refine V rfl (ov_indexAddr underlying33 sizeOf3 rfl rfl rfl h2 h3 h4) (V rfl (ov_load_elem (v := (.int .i64 x1)) isAgg3 rfl rfl h6) (Va rfl (WL.nil (tn (WP.region (Vm rfl (Vm rfl (Vm rfl ?_))))))))
   refine ws rfl (os_inline (cap := []) (vs := [(.int .i64 x1)]) call25 rfl rfl rfl func25 rfl 4 ntmps25 rfl (fun w' s => ?_))
   refine WP.seq (WP.region (Va rfl (WL.nil (tn (WP.seq (WP.region (Vm rfl (Va rfl (WL.nil (tn (WP.ret ?_)))))))))))
   refine retQ_ret (v := (.int .i64 x1)) results25 (Res.tmp rfl Res.nil) rfl (fun w' s => ⟨_, ?_, s⟩)
   refine V rfl (ov_max rfl rfl rfl) (Va rfl (WL.nil (bn (tn (WP.region (V rfl (ov_add rfl rfl rfl) (Vm rfl (WL.nil (tn ?_)))))))))
   exact ⟨(if x1 > i1 then x1 else i1), (IntKind.wrap .i64 (i2 + 1)), (Sub.all rfl), fun w' s => s, hm⟩
  replace hm := ite_f hc2 hm
  refine WP.exit (then_exit (then_exit (block_here (tn ?_))))
  exact ⟨i1, (Sub.all rfl), fun w' s => s, hm⟩
 rintro g' S' ⟨i3, hsub2, hS2, hm⟩
 refine WP.sub hsub2 (WP.weaken hS2 ?_)
 replace hm := (congrFun hk1 i3).symm.trans hm
 refine WP.seq (WP.region (Vm rfl (Va rfl (WL.nil (tn (WP.ret ?_))))))
 obtain rfl := Option.some.inj hm
 refine retQ_ret results24 (Res.tmp rfl Res.nil) rfl (fun w' s => ⟨s.below, ?_⟩)
 exact rfl
theorem schedule_Run_con (p_s : Sequence) (p_p : Plant) (p_times : (List (List Int))) (ao1 : Option Addr) (cap1 : Nat) (ao2 : Option Addr) (cap2 : Nat) (ao3 : Option Addr) (cap3 : Nat) (w : World) (H : Heap) (hH : Le H (hp w)) (h1 : SL H encStep ao1 p_s.steps) (hc1 : p_s.steps.length ≤ cap1) (h2 : SL H encTravel ao2 p_p.travels) (hc2 : p_p.travels.length ≤ cap2) (h3 : SL H (encSl (encInt .i64)) ao3 p_times) (hc3 : p_times.length ≤ cap3) (hG : Glob H) (r : ((List Int) × Int)) (hm : schedule_Run p_s p_p p_times = some r) :
  Con prog 8 [(.agg #[(.int .i64 p_s.actuators), (.slice ao1 p_s.steps.length cap1)]), (.agg #[(.slice ao2 p_p.travels.length cap2)]), (.slice ao3 p_times.length cap3)] w H (fun v H' => ∃ (ao4 : Option Addr) (cap4 : Nat), v = (.tuple #[(.slice ao4 r.1.length cap4), (.int .i64 r.2)]) ∧ SL H' (encInt .i64) ao4 r.1 ∧ r.1.length ≤ cap4) := by
 unfold schedule_Run at hm
 refine con_of hH func8 rfl 89 ntmps8 rfl ?_
 refine WP.seq (WP.region ?_)
 refine ws rfl (os_box (cs := [(.int .i64 p_s.actuators), (.slice ao1 p_s.steps.length cap1)]) rfl rfl rfl (fun b1 => ?_))
 refine ws rfl (os_box (cs := [(.slice ao2 p_p.travels.length cap2)]) rfl rfl rfl (fun b2 => ?_))
 refine Va rfl (Va rfl (WL.nil (tn (WP.seq (WP.seq (WP.region (V rfl (ov_load_whole (i := 1) isAgg24 sizeOf24 rfl rfl rfl rfl) (V rfl (ov_load_whole (i := 0) isAgg27 sizeOf27 rfl rfl rfl rfl) ?_))))))))
 obtain ⟨r1, e1, hm⟩ := bind_some hm
 refine wo rfl (oq_con (r := (.int .i64 r1)) call22 rfl rfl (fun w' s => ⟨_, (schedule_Check_con p_s p_p ao1 cap1 ao2 cap2  w' H s.hold h1 hc1 h2 hc2 hG r1 e1)⟩)) ?_
 refine Va rfl (WL.nil (tn (WP.seq (WP.region (Vm rfl (V rfl (ov_neq rfl rfl rfl) (WL.nil (tn ?_))))))))
 refine WP.cond rfl (fun hc5 => ?_) (fun hc5 => ?_)
 ·
  replace hm := ite_t hc5 hm
  refine WP.seq (WP.region (Vm rfl (Va rfl (Va rfl (WL.nil (tn (WP.ret (then_ret ?_))))))))
  obtain rfl := Option.some.inj hm
  refine retQ_ret results8 (Res.tmp rfl (Res.tmp rfl Res.nil)) rfl (fun w' s => ⟨s.below, ?_⟩)
  exact ⟨none, 0, rfl, SL.nil _ _ _, Nat.le_refl _⟩
 replace hm := ite_f hc5 hm
 refine WP.skip (tn (WP.seq (WP.seq (WP.region (Vm rfl (V rfl (ov_len_slice underlying28 rfl rfl) (V rfl (ov_fieldAddr underlying24 rfl rfl rfl sizeOf22 rfl rfl) (Vl 1 isAgg22 rfl (V rfl (ov_len_slice underlying22 rfl rfl) (V rfl (ov_neq rfl rfl rfl) (WL.nil (tn ?_))))))))))))
 refine WP.cond rfl (fun hc6 => ?_) (fun hc6 => ?_)
 ·
  replace hm := ite_t hc6 hm
  refine WP.seq (WP.region (Va rfl (Va rfl (WL.nil (tn (WP.ret (then_ret ?_)))))))
  obtain rfl := Option.some.inj hm
  refine retQ_ret results8 (Res.tmp rfl (Res.tmp rfl Res.nil)) rfl (fun w' s => ⟨s.below, ?_⟩)
  exact ⟨none, 0, rfl, SL.nil _ _ _, Nat.le_refl _⟩
 replace hm := ite_f hc6 hm
 refine WP.skip (tn (WP.seq (WP.region (Va rfl (WL.nil (tn (WP.seq (WP.region (Va rfl (WL.nil (tn ?_)))))))))))
 obtain ⟨k1, hk1, hm⟩ := joinK_some hm
 refine WP.seq_join (fun g' S' => ∃ (l4 : (List Int)) (ao12 : Option Addr) (cap12 : Nat) (xs3 : List Value), RL H (encInt .i64) l4 xs3 ∧ Sub [(9, (.slice ao12 l4.length cap12)), (1000000007, (.bool false))] g' ∧ (∀ w', S' w' → St w H [.row 3 ((encInt .i64)).size l4.length (.slice ao12 l4.length cap12) xs3] H w') ∧ k1 l4 = some r) ?_ ?_
 ·
  refine WP.seq (WP.region (V rfl (ov_fieldAddr underlying24 rfl rfl rfl sizeOf22 rfl rfl) (Vl 1 isAgg22 rfl (V rfl (ov_len_slice underlying22 rfl rfl) (Vm rfl (WL.nil (tn (WP.block ?_))))))))
  have rl1 := RL.nil (α := Int) H (encInt .i64)
  refine WP.weaken (fun _ s => s.nilrow 3 ((encInt .i64)).size) ?_
  refine WP.loop (fun m1 g' S' => ∃ (i1 : Int) (i2 : Int) (l1 : (List Int)) (ao5 : Option Addr) (cap5 : Nat) (xs1 : List Value), RL H (encInt .i64) l1 xs1 ∧ Sub [(2, (.slice ao3 p_times.length cap3)), (4, (pB b2 0)), (9, (.slice ao5 l1.length cap5)), (10, (.int .i64 i1)), (29, (.slice ao1 p_s.steps.length cap1)), (30, (.int .i64 (p_s.steps.length : Int))), (31, (.int .i64 i2)), (1000000007, (.bool false))] g' ∧ (∀ w', S' w' → St w H [.row 3 ((encInt .i64)).size l1.length (.slice ao5 l1.length cap5) xs1, .blk b2 27 [(.slice ao2 p_p.travels.length cap2)]] H w') ∧ schedule_Run_loop1 p_s p_times k1 p_p m1 i1 i2 l1 = some r) ((Int.toNat ((p_s.steps.length : Int) - 0) + 1)) ⟨0, 0, ([] : List Int), none, 0, [], rl1, (Sub.all rfl), fun w' s => (s.select [0, 1] (by decide) rfl), hm⟩ ?_ ?_
  ·
   rintro g' S' ⟨_, _, _, _, _, _, _, _, _, hm⟩
   exact none_some hm
  rintro m1 g' S' ⟨i1, i2, l1, ao5, cap5, xs1, rl2, hsub1, hS1, hm⟩
  refine WP.sub hsub1 (WP.weaken hS1 ?_)
  rw [schedule_Run_loop1] at hm
  refine WP.seq (WP.region (V rfl (ov_lss rfl rfl rfl) (WL.nil (tn (WP.seq ?_)))))
  refine WP.cond rfl (fun hc7 => ?_) (fun hc7 => ?_)
  ·
   replace hm := ite_t hc7 hm
   refine WP.skip (tn ?_)
   obtain ⟨k2, hk2, hm⟩ := joinK_some hm
   refine WP.seq_join (fun g' S' => ∃ (i6 : Int) (l3 : (List Int)) (ao11 : Option Addr) (cap11 : Nat) (xs2 : List Value), RL H (encInt .i64) l3 xs2 ∧ Sub [(2, (.slice ao3 p_times.length cap3)), (4, (pB b2 0)), (9, (.slice ao11 l3.length cap11)), (10, (.int .i64 i6)), (29, (.slice ao1 p_s.steps.length cap1)), (30, (.int .i64 (p_s.steps.length : Int))), (31, (.int .i64 i2)), (1000000007, (.bool false))] g' ∧ (∀ w', S' w' → St w H [.row 3 ((encInt .i64)).size l3.length (.slice ao11 l3.length cap11) xs2, .blk b2 27 [(.slice ao2 p_p.travels.length cap2)]] H w') ∧ k2 i6 l3 = some r) ?_ ?_
   ·
    refine WP.block (WP.seq (WP.region (Vm rfl ?_)))
    obtain ⟨x1, e2, hm⟩ := bind_some hm
    obtain ⟨h6, h7, h8, cs1, h9, h10⟩ := h1.get e2 (by decide)
    obtain ⟨ao6, cap6, rfl, h5, hc8⟩ := h9
    refine V rfl (ov_indexAddr underlying22 sizeOf55 rfl rfl rfl h6 h7 h8) (V rfl (ov_load_elems (vs := [(.slice ao6 x1.strokes.length cap6), (.int .i64 x1.wait)]) isAgg55 sizeOf55 rfl rfl rfl h10 h8) ?_)
    refine ws rfl (os_alloc (cs := [(.slice none 0 0), (.int .i64 0)]) zeroValue55 rfl rfl (fun b3 => ?_))
    refine Va rfl ?_
    refine ws0 rfl (os_store (i := 0) (vs := [(.slice ao6 x1.strokes.length cap6), (.int .i64 x1.wait)]) (cs' := [(.slice ao6 x1.strokes.length cap6), (.int .i64 x1.wait)]) sizeOf55 rfl rfl rfl rfl rfl rfl rfl rfl rfl ?_)
    refine WL.nil (tn (WP.seq (WP.seq ?_)))
    refine WP.region_draws (by kernel_rfl) (by kernel_rfl) (fun _ s => s.drew) ?_
    refine qf rfl (ov_move rfl rfl) ?_
    refine qf rfl (ov_move rfl rfl) ?_
    obtain ⟨x2, e3, hm⟩ := bind_some hm
    obtain ⟨h12, h13, h14, cs2, h15, h16⟩ := h3.get e3 (by decide)
    obtain ⟨ao7, cap7, rfl, h11, hc9⟩ := h15
    refine qf rfl (ov_indexAddr underlying28 sizeOf33 rfl rfl rfl h12 h13 h14) ?_
    refine qf rfl (ov_load_elem (v := (.slice ao7 x2.length cap7)) isAgg33 rfl rfl h16) ?_
    refine qf rfl (ov_len_slice underlying33 rfl rfl) ?_
    refine qf rfl (ov_fieldAddr underlying55 rfl rfl rfl sizeOf53 rfl rfl) ?_
    refine qf rfl (ov_load_box (i := 0) isAgg53 rfl rfl rfl rfl) ?_
    refine qf rfl (ov_len_slice underlying53 rfl rfl) ?_
    refine qf rfl (ov_neq rfl rfl rfl) ?_
    refine QL.nil ?_
    refine tn ?_
    refine WP.cond rfl (fun hc10 => ?_) (fun hc10 => ?_)
    ·
     replace hm := ite_t hc10 hm
     refine WP.seq (WP.region (Va rfl (Va rfl (WL.nil (tn (WP.ret (then_ret (block_ret (then_ret (then_ret (block_ret (then_ret ?_))))))))))))
     obtain rfl := Option.some.inj hm
     refine retQ_ret results8 (Res.tmp rfl (Res.tmp rfl Res.nil)) rfl (fun w' s => ⟨s.below, ?_⟩)
     exact ⟨none, 0, rfl, SL.nil _ _ _, Nat.le_refl _⟩
    replace hm := ite_f hc10 hm
    refine WP.skip (tn ?_)
    obtain ⟨k3, hk3, hm⟩ := joinK_some hm
    refine WP.seq_join (fun g' S' => Sub [(2, (.slice ao3 p_times.length cap3)), (4, (pB b2 0)), (9, (.slice ao5 l1.length cap5)), (10, (.int .i64 i1)), (11, (.int .i64 i2)), (12, (pB b3 0)), (29, (.slice ao1 p_s.steps.length cap1)), (30, (.int .i64 (p_s.steps.length : Int))), (31, (.int .i64 i2)), (1000000007, (.bool false))] g' ∧ (∀ w', S' w' → St w H [.blk b3 55 [(.slice ao6 x1.strokes.length cap6), (.int .i64 x1.wait)], .row 3 ((encInt .i64)).size l1.length (.slice ao5 l1.length cap5) xs1, .blk b2 27 [(.slice ao2 p_p.travels.length cap2)]] H w') ∧ k3 = some r) ?_ ?_
    ·
     refine WP.seq (WP.region (Vm rfl (Vm rfl ?_)))
     obtain ⟨x3, e4, hm⟩ := bind_some hm
     obtain ⟨h18, h19, h20, cs3, h21, h22⟩ := h3.get e4 (by decide)
     obtain ⟨ao8, cap8, rfl, h17, hc11⟩ := h21
     refine V rfl (ov_indexAddr underlying28 sizeOf33 rfl rfl rfl h18 h19 h20) (V rfl (ov_load_elem (v := (.slice ao8 x3.length cap8)) isAgg33 rfl rfl h22) (V rfl (ov_len_slice underlying33 rfl rfl) (Vm rfl (WL.nil (tn (WP.block ?_))))))
     refine WP.loop (fun m2 g' S' => ∃ (i3 : Int), Sub [(2, (.slice ao3 p_times.length cap3)), (4, (pB b2 0)), (9, (.slice ao5 l1.length cap5)), (10, (.int .i64 i1)), (11, (.int .i64 i2)), (12, (pB b3 0)), (29, (.slice ao1 p_s.steps.length cap1)), (30, (.int .i64 (p_s.steps.length : Int))), (31, (.int .i64 i2)), (48, (.slice ao8 x3.length cap8)), (49, (.int .i64 (x3.length : Int))), (50, (.int .i64 i3)), (1000000007, (.bool false))] g' ∧ (∀ w', S' w' → St w H [.blk b3 55 [(.slice ao6 x1.strokes.length cap6), (.int .i64 x1.wait)], .row 3 ((encInt .i64)).size l1.length (.slice ao5 l1.length cap5) xs1, .blk b2 27 [(.slice ao2 p_p.travels.length cap2)]] H w') ∧ schedule_Run_loop2 p_p x1 k3 x3 m2 i3 = some r) ((Int.toNat ((x3.length : Int) - 0) + 1)) ⟨0, (Sub.all rfl), fun w' s => s, hm⟩ ?_ ?_
     ·
      rintro g' S' ⟨_, _, _, hm⟩
      exact none_some hm
     rintro m2 g' S' ⟨i3, hsub2, hS2, hm⟩
     refine WP.sub hsub2 (WP.weaken hS2 ?_)
     rw [schedule_Run_loop2] at hm
     refine WP.seq (WP.region (V rfl (ov_lss rfl rfl rfl) (WL.nil (tn (WP.seq ?_)))))
     refine WP.cond rfl (fun hc12 => ?_) (fun hc12 => ?_)
     ·
      replace hm := ite_t hc12 hm
      refine WP.skip (tn (WP.seq (WP.block (WP.seq (WP.region (Vm rfl ?_))))))
      obtain ⟨x4, e5, hm⟩ := bind_some hm
      obtain ⟨h23, h24, h25, cs4, h26, h27⟩ := h17.get e5 (by decide)
      obtain rfl : cs4 = [(.int .i64 x4)] := h26
      refine V rfl (ov_indexAddr underlying33 sizeOf3 rfl rfl rfl h23 h24 h25) (V rfl (ov_load_elem (v := (.int .i64 x4)) isAgg3 rfl rfl h27) (Va rfl (Va rfl (WL.nil (tn ?_)))))
      obtain ⟨k4, hk4, hm⟩ := joinK_some hm
      refine WP.seq_join (fun g' S' => ∃ (b5 : Nat) (i4 : Int) (i5 : Int), Sub [(2, (.slice ao3 p_times.length cap3)), (4, (pB b2 0)), (9, (.slice ao5 l1.length cap5)), (10, (.int .i64 i1)), (11, (.int .i64 i2)), (12, (pB b3 0)), (14, (.int .i64 x4)), (15, (pB b5 0)), (29, (.slice ao1 p_s.steps.length cap1)), (30, (.int .i64 (p_s.steps.length : Int))), (31, (.int .i64 i2)), (48, (.slice ao8 x3.length cap8)), (49, (.int .i64 (x3.length : Int))), (50, (.int .i64 i3)), (1000000007, (.bool false))] g' ∧ (∀ w', S' w' → St w H [.blk b5 38 [(.int .i64 i4), (.int .i64 i5)], .blk b3 55 [(.slice ao6 x1.strokes.length cap6), (.int .i64 x1.wait)], .row 3 ((encInt .i64)).size l1.length (.slice ao5 l1.length cap5) xs1, .blk b2 27 [(.slice ao2 p_p.travels.length cap2)]] H w') ∧ k4 i4 i5 = some r) ?_ ?_
      ·
       refine WP.region_any (S₀ := St w H [.blk b3 55 [(.slice ao6 x1.strokes.length cap6), (.int .i64 x1.wait)], .row 3 ((encInt .i64)).size l1.length (.slice ao5 l1.length cap5) xs1, .blk b2 27 [(.slice ao2 p_p.travels.length cap2)]] H) 9 rfl (by kernel_rfl) (fun w' s => s) (fun _ s => s.drew) ?_
       refine TQ 0 (by kernel_rfl) rfl (ov_load_whole (i := 2) isAgg27 sizeOf27 rfl rfl rfl rfl) (TQ 1 (by kernel_rfl) rfl (ov_fieldAddr underlying55 rfl rfl rfl sizeOf53 rfl rfl) (TQ 2 (by kernel_rfl) rfl (ov_load_box (i := 0) isAgg53 rfl rfl rfl rfl) (TQ 3 (by kernel_rfl) rfl (ov_move rfl rfl) ?_)))
       obtain ⟨x5, e6, hm⟩ := bind_some hm
       obtain ⟨h28, h29, h30, cs5, h31, h32⟩ := h5.get e6 (by decide)
       obtain rfl : cs5 = [(.int .i64 x5.actuator), (.bool x5.out)] := h31
       refine TQ 4 (by kernel_rfl) rfl (ov_indexAddr underlying53 sizeOf59 rfl rfl rfl h28 h29 h30) (TQ 5 (by kernel_rfl) rfl (ov_load_elems (vs := [(.int .i64 x5.actuator), (.bool x5.out)]) isAgg59 sizeOf59 rfl rfl rfl h32 h30) ?_)
       refine AL.any (rs := [6, 7]) (by kernel_rfl) (by decide) ?_
       refine ALs.cons (i := 6) rfl (Runs.free rfl) rfl rfl ?_ ?_
       ·
        obtain ⟨r2, e7, hm⟩ := bind_some hm
        refine OQ.step (oq_con (r := (.agg #[(.int .i64 r2.low), (.int .i64 r2.high)])) call23 rfl rfl (fun w' s => ⟨_, (schedule_way_con p_p x5 ao2 cap2  w' H s.hold h2 hc2 hG r2 e7)⟩)) ?_
        refine ⟨fun w' s => s, ?_⟩
        refine AL.any (rs := [7]) (by kernel_rfl) (by decide) ?_
        refine ALs.cons (i := 7) rfl (Runs.free rfl) rfl rfl ?_ ?_
        ·
         refine os_alloc (cs := [(.int .i64 0), (.int .i64 0)]) zeroValue38 rfl rfl (fun b4 => ?_)
         refine ⟨fun w' s => (s.select [1, 2, 3] (by decide) rfl), ?_⟩
         refine AL.any (rs := [8]) (by kernel_rfl) (by decide) ?_
         refine ALs.cons0 (i := 8) rfl (Runs.free rfl) rfl ?_ ?_
         ·
          refine os_store (i := 0) (vs := [(.int .i64 r2.low), (.int .i64 r2.high)]) (cs' := [(.int .i64 r2.low), (.int .i64 r2.high)]) sizeOf38 rfl rfl rfl rfl rfl rfl rfl rfl rfl ?_
          refine ⟨fun w' s => (s.select [1, 2, 3] (by decide) rfl), ?_⟩
          refine AL.done (by kernel_rfl) ?_
          refine tn ?_
          exact ⟨b4, r2.low, r2.high, (Sub.all rfl), fun w' s => s, hm⟩
         exact ALs.nil
        exact ALs.nil
       refine ALs.cons (i := 7) rfl (Runs.free rfl) rfl rfl ?_ ?_
       ·
        refine os_alloc (cs := [(.int .i64 0), (.int .i64 0)]) zeroValue38 rfl rfl (fun b4 => ?_)
        refine ⟨fun w' s => (s.select [1, 2, 3] (by decide) rfl), ?_⟩
        refine AL.any (rs := [6]) (by kernel_rfl) (by decide) ?_
        refine ALs.cons (i := 6) rfl (Runs.free rfl) rfl rfl ?_ ?_
        ·
         obtain ⟨r2, e7, hm⟩ := bind_some hm
         refine OQ.step (oq_con (r := (.agg #[(.int .i64 r2.low), (.int .i64 r2.high)])) call23 rfl rfl (fun w' s => ⟨_, (schedule_way_con p_p x5 ao2 cap2  w' H s.hold h2 hc2 hG r2 e7)⟩)) ?_
         refine ⟨fun w' s => (s.select [1, 2, 3] (by decide) rfl), ?_⟩
         refine AL.any (rs := [8]) (by kernel_rfl) (by decide) ?_
         refine ALs.cons0 (i := 8) rfl (Runs.free rfl) rfl ?_ ?_
         ·
          refine os_store (i := 0) (vs := [(.int .i64 r2.low), (.int .i64 r2.high)]) (cs' := [(.int .i64 r2.low), (.int .i64 r2.high)]) sizeOf38 rfl rfl rfl rfl rfl rfl rfl rfl rfl ?_
          refine ⟨fun w' s => (s.select [1, 2, 3] (by decide) rfl), ?_⟩
          refine AL.done (by kernel_rfl) ?_
          refine tn ?_
          exact ⟨b4, r2.low, r2.high, (Sub.all rfl), fun w' s => s, hm⟩
         exact ALs.nil
        exact ALs.nil
       exact ALs.nil
      rintro g' S' ⟨b5, i4, i5, hsub3, hS3, hm⟩
      refine WP.sub hsub3 (WP.weaken hS3 ?_)
      replace hm := (congrFun (congrFun hk4 i4) i5).symm.trans hm
      refine WP.seq (WP.region (Vm rfl (V rfl (ov_fieldAddr underlying38 rfl rfl rfl sizeOf3 rfl rfl) (Vl 0 isAgg3 rfl (V rfl (ov_lss rfl rfl rfl) (Vm rfl ?_))))))
      refine WL.cut_bool 5 71 (x := ((decide (x4 < i4)) || (decide (x4 > i5)))) ?_ ?_
      ·
       rcases Bool.eq_false_or_eq_true (decide (x4 < i4)) with hc13 | hc13
       ·
        refine Vi rfl (Idle.no rfl rfl rfl hc13) (Vi rfl (Idle.no rfl rfl rfl hc13) (Vi rfl (Idle.no rfl rfl rfl hc13) (Vi rfl (Idle.no rfl rfl rfl hc13) (V rfl (ov_pick_true rfl (guard_eq rfl hc13) rfl) ?_))))
        exact WL.nil ⟨Sub.cons' rfl (congrArg Value.bool (orT hc13)) (Sub.dropn 5 rfl), fun _ s => s⟩
       refine wy hc13 rfl (ov_move rfl rfl) ?_
       refine wy hc13 rfl (ov_fieldAddr underlying38 rfl rfl rfl sizeOf3 rfl rfl) ?_
       refine wy hc13 rfl (ov_load_box (i := 0) isAgg3 rfl rfl rfl rfl) ?_
       refine wy hc13 rfl (ov_gtr rfl rfl rfl) ?_
       refine V rfl (ov_pick_false rfl (guard_eq rfl hc13) rfl) ?_
       exact WL.nil ⟨Sub.cons' rfl (congrArg Value.bool (orF hc13)) (Sub.dropn 5 rfl), fun _ s => s⟩
      refine WL.nil (tn ?_)
      refine WP.cond rfl (fun hc14 => ?_) (fun hc14 => ?_)
      ·
       replace hm := ite_t hc14 hm
       refine WP.seq (WP.region (Va rfl (Va rfl (WL.nil (tn (WP.ret (block_ret (then_ret (then_ret (block_ret (then_ret (block_ret (then_ret ?_)))))))))))))
       refine then_ret (block_ret (then_ret ?_))
       obtain rfl := Option.some.inj hm
       refine retQ_ret results8 (Res.tmp rfl (Res.tmp rfl Res.nil)) rfl (fun w' s => ⟨s.below, ?_⟩)
       exact ⟨none, 0, rfl, SL.nil _ _ _, Nat.le_refl _⟩
      replace hm := ite_f hc14 hm
      refine WP.skip (bn (tn (WP.region (V rfl (ov_add rfl rfl rfl) (Vm rfl (WL.nil (tn ?_)))))))
      exact ⟨(IntKind.wrap .i64 (i3 + 1)), (Sub.all rfl), fun w' s => (s.select [1, 2, 3] (by decide) rfl), hm⟩
     replace hm := ite_f hc12 hm
     refine WP.exit (then_exit (then_exit (block_here (tn ?_))))
     exact ⟨(Sub.all rfl), fun w' s => s, hm⟩
    rintro g' S' ⟨hsub4, hS4, hm⟩
    refine WP.sub hsub4 (WP.weaken hS4 ?_)
    replace hm := hk3.symm.trans hm
    refine WP.seq ?_
    refine WP.region_draws (by kernel_rfl) (by kernel_rfl) (fun _ s => s.drew) ?_
    refine qf rfl (ov_move rfl rfl) ?_
    refine qf rfl (ov_move rfl rfl) ?_
    refine qf rfl (ov_move rfl rfl) ?_
    obtain ⟨x6, e8, hm⟩ := bind_some hm
    obtain ⟨h34, h35, h36, cs6, h37, h38⟩ := h3.get e8 (by decide)
    obtain ⟨ao9, cap9, rfl, h33, hc15⟩ := h37
    refine qf rfl (ov_indexAddr underlying28 sizeOf33 rfl rfl rfl h34 h35 h36) ?_
    refine qf rfl (ov_load_elem (v := (.slice ao9 x6.length cap9)) isAgg33 rfl rfl h38) ?_
    obtain ⟨r3, e9, hm⟩ := bind_some hm
    refine QL.quiet (Runs.free rfl) rfl rfl (oq_con (r := (.int .i64 r3)) call24 rfl rfl (fun w' s => ⟨_, (schedule_most_int_schedule_Run_1_con x6 ao9 cap9  w' H s.hold h33 hc15 hG r3 e9)⟩)) ?_
    refine qf rfl (ov_fieldAddr underlying55 rfl rfl rfl sizeOf3 rfl rfl) ?_
    refine qf rfl (ov_load_box (i := 0) isAgg3 rfl rfl rfl rfl) ?_
    refine qf rfl (ov_add rfl rfl rfl) ?_
    refine qf rfl (ov_add rfl rfl rfl) ?_
    refine qf rfl (ov_assign rfl rfl) ?_
    refine QL.nil ?_
    refine tn (WP.region (Vm rfl (Vm rfl ?_)))
    have rl3 : RL H (encInt .i64) ([(IntKind.wrap .i64 (i1 + (IntKind.wrap .i64 (r3 + x1.wait))))] : List Int) [(.int .i64 (IntKind.wrap .i64 (i1 + (IntKind.wrap .i64 (r3 + x1.wait)))))] := RL.cons (cs := [(.int .i64 (IntKind.wrap .i64 (i1 + (IntKind.wrap .i64 (r3 + x1.wait)))))]) (xs := []) rfl (RL.nil _ _)
    refine ws rfl (os_buildSlice (cs := [(.int .i64 (IntKind.wrap .i64 (i1 + (IntKind.wrap .i64 (r3 + x1.wait)))))]) (E := 3) (sz := 1) rfl rfl (fun _ => by kernel_rfl) rfl (by decide) (fun b6 => ?_))
    obtain ⟨l2, e10, hm⟩ := bind_some hm
    refine ws rfl (os_app (i := 2) (j := 0) (En := (encInt .i64)) (xs := xs1) (ys := [(.int .i64 (IntKind.wrap .i64 (i1 + (IntKind.wrap .i64 (r3 + x1.wait)))))]) underlying33 (by kernel_rfl : (prog.info? 3).map (fun i => (i.zero, i.size, i.bytes)) = some (some (.int .i64 0), ((encInt .i64)).size, 8)) rfl (by decide) rfl rfl rfl rfl rfl rfl rl2 rl3 e10 (fun ao10 cap10 rl4 => ?_))
    refine Va rfl (WL.nil (bn (tn ?_)))
    exact ⟨(IntKind.wrap .i64 (i1 + (IntKind.wrap .i64 (r3 + x1.wait)))), (l1 ++ ([(IntKind.wrap .i64 (i1 + (IntKind.wrap .i64 (r3 + x1.wait))))] : List Int)), ao10, cap10, (xs1 ++ [(.int .i64 (IntKind.wrap .i64 (i1 + (IntKind.wrap .i64 (r3 + x1.wait)))))]), rl4, (Sub.all rfl), fun w' s => (s.select [2, 3] (by decide) rfl), hm⟩
   rintro g' S' ⟨i6, l3, ao11, cap11, xs2, rl5, hsub5, hS5, hm⟩
   refine WP.sub hsub5 (WP.weaken hS5 ?_)
   replace hm := (congrFun (congrFun hk2 i6) l3).symm.trans hm
   refine WP.region (V rfl (ov_add rfl rfl rfl) (Vm rfl (WL.nil (tn ?_))))
   exact ⟨i6, (IntKind.wrap .i64 (i2 + 1)), l3, ao11, cap11, xs2, rl5, (Sub.all rfl), fun w' s => s, hm⟩
  replace hm := ite_f hc7 hm
  refine WP.exit (then_exit (then_exit (block_here (tn ?_))))
  exact ⟨l1, ao5, cap5, xs1, rl2, (Sub.all rfl), fun w' s => (s.select [0] (by decide) rfl), hm⟩
 rintro g' S' ⟨l4, ao12, cap12, xs3, rl6, hsub6, hS6, hm⟩
 refine WP.sub hsub6 (WP.weaken hS6 ?_)
 replace hm := (congrFun hk1 l4).symm.trans hm
 refine WP.seq (WP.region (Vm rfl (Va rfl (Va rfl (WL.nil (tn (WP.ret ?_)))))))
 obtain rfl := Option.some.inj hm
 refine retQ_ret results8 (Res.tmp rfl (Res.tmp rfl Res.nil)) rfl (fun w' s => ⟨s.below, ?_⟩)
 obtain ⟨h39, hc16⟩ := s.ret_row (i := 0) rfl rl6
 exact ⟨ao12, cap12, rfl, h39, hc16⟩
theorem diagram_stretched_con (p_s : Sequence) (p_counts : (List Int)) (ao1 : Option Addr) (cap1 : Nat) (ao2 : Option Addr) (cap2 : Nat) (w : World) (H : Heap) (hH : Le H (hp w)) (h1 : SL H encStep ao1 p_s.steps) (hc1 : p_s.steps.length ≤ cap1) (h2 : SL H (encInt .i64) ao2 p_counts) (hc2 : p_counts.length ≤ cap2) (hG : Glob H) (r : (List (List UInt8))) (hm : diagram_stretched p_s p_counts = some r) :
  Con prog 30 [(.agg #[(.int .i64 p_s.actuators), (.slice ao1 p_s.steps.length cap1)]), (.slice ao2 p_counts.length cap2)] w H (fun v H' => ∃ (ao3 : Option Addr) (cap3 : Nat), v = (.slice ao3 r.length cap3) ∧ SL H' encStr ao3 r ∧ r.length ≤ cap3) := by
 unfold diagram_stretched at hm
 refine con_of hH func30 rfl 8 ntmps30 rfl ?_
 refine WP.seq (WP.region ?_)
 refine ws rfl (os_box (cs := [(.int .i64 p_s.actuators), (.slice ao1 p_s.steps.length cap1)]) rfl rfl rfl (fun b1 => ?_))
 refine ws rfl (os_box (cs := [(.slice ao2 p_counts.length cap2)]) rfl rfl rfl (fun b2 => ?_))
 refine Va rfl (WL.nil (tn (WP.seq (WP.region (V rfl (ov_load_whole (i := 1) isAgg24 sizeOf24 rfl rfl rfl rfl) (V rfl (ov_makeFunc' (first := []) rfl rfl rfl) ?_))))))
 refine ws rfl (os_inline (cap := []) (vs := [(.agg #[(.int .i64 p_s.actuators), (.slice ao1 p_s.steps.length cap1)]), (.func (.func 50) #[] #[(pB b2 0)])]) call49 rfl rfl rfl func49 rfl 46 ntmps49 rfl (fun w' s => ?_))
 refine WP.seq (WP.region ?_)
 refine ws rfl (os_box (cs := [(.int .i64 p_s.actuators), (.slice ao1 p_s.steps.length cap1)]) rfl rfl rfl (fun b3 => ?_))
 refine Va rfl (WL.nil (tn (WP.seq (WP.region (Va rfl (WL.nil (tn ?_)))))))
 obtain ⟨k1, hk1, hm⟩ := joinK_some hm
 refine WP.seq_join (fun g' S' => ∃ (H2 : Heap) (l9 : (List (List UInt8))) (ao14 : Option Addr) (cap14 : Nat) (xs5 : List Value), Le H H2 ∧ RL H2 encStr l9 xs5 ∧ Sub [(5, (.slice ao14 l9.length cap14)), (1000000007, (.bool false))] g' ∧ (∀ w', S' w' → St w H [.row 9 (encStr).size l9.length (.slice ao14 l9.length cap14) xs5, .blk b2 33 [(.slice ao2 p_counts.length cap2)], .blk b1 24 [(.int .i64 p_s.actuators), (.slice ao1 p_s.steps.length cap1)]] H2 w') ∧ k1 l9 = some r) ?_ ?_
 ·
  refine WP.seq (WP.region (V rfl (ov_load_whole (i := 0) isAgg24 sizeOf24 rfl rfl rfl rfl) ?_))
  obtain ⟨r1, e1, hm⟩ := bind_some hm
  refine ws rfl (os_con call85 rfl rfl (fun w' s => (cellsG_con p_s ao1 cap1  w' H s.hold h1 hc1 hG r1 e1)) (fun rr1 H1 hle1 hR1 => ?_))
  replace h1 := h1.mono hle1
  replace h2 := h2.mono hle1
  replace hG := hG.mono hle1
  obtain ⟨ao4, cap4, rfl, h4, hc4⟩ := hR1
  refine V rfl (ov_len_slice underlying154 rfl rfl) (Vm rfl (WL.nil (tn (WP.block ?_))))
  have rl1 := RL.nil (α := (List UInt8)) H1 encStr
  refine WP.weaken (fun _ s => s.nilrow 9 (encStr).size) ?_
  refine WP.loop (fun m1 g' S' => ∃ (i1 : Int) (l1 : (List (List UInt8))) (ao5 : Option Addr) (cap5 : Nat) (xs1 : List Value), RL H1 encStr l1 xs1 ∧ Sub [(1, (.func (.func 50) #[] #[(pB b2 0)])), (5, (.slice ao5 l1.length cap5)), (12, (.slice ao4 r1.length cap4)), (13, (.int .i64 (r1.length : Int))), (14, (.int .i64 i1)), (1000000007, (.bool false))] g' ∧ (∀ w', S' w' → St w H [.row 9 (encStr).size l1.length (.slice ao5 l1.length cap5) xs1, .blk b2 33 [(.slice ao2 p_counts.length cap2)], .blk b1 24 [(.int .i64 p_s.actuators), (.slice ao1 p_s.steps.length cap1)]] H1 w') ∧ diagram_stretched_loop1 k1 r1 p_counts m1 i1 l1 = some r) ((Int.toNat ((r1.length : Int) - 0) + 1)) ⟨0, ([] : List (List UInt8)), none, 0, [], rl1, (Sub.all rfl), fun w' s => (s.select [0, 2, 3] (by decide) rfl), hm⟩ ?_ ?_
  ·
   rintro g' S' ⟨_, _, _, _, _, _, _, _, hm⟩
   exact none_some hm
  rintro m1 g' S' ⟨i1, l1, ao5, cap5, xs1, rl2, hsub1, hS1, hm⟩
  refine WP.sub hsub1 (WP.weaken hS1 ?_)
  rw [diagram_stretched_loop1] at hm
  refine WP.seq (WP.region (V rfl (ov_lss rfl rfl rfl) (WL.nil (tn (WP.seq ?_)))))
  refine WP.cond rfl (fun hc5 => ?_) (fun hc5 => ?_)
  ·
   replace hm := ite_t hc5 hm
   refine WP.skip (tn ?_)
   obtain ⟨k2, hk2, hm⟩ := joinK_some hm
   refine WP.seq_join (fun g' S' => ∃ (l8 : (List (List UInt8))) (ao13 : Option Addr) (cap13 : Nat) (xs4 : List Value), RL H1 encStr l8 xs4 ∧ Sub [(1, (.func (.func 50) #[] #[(pB b2 0)])), (5, (.slice ao13 l8.length cap13)), (12, (.slice ao4 r1.length cap4)), (13, (.int .i64 (r1.length : Int))), (14, (.int .i64 i1)), (1000000007, (.bool false))] g' ∧ (∀ w', S' w' → St w H [.row 9 (encStr).size l8.length (.slice ao13 l8.length cap13) xs4, .blk b2 33 [(.slice ao2 p_counts.length cap2)], .blk b1 24 [(.int .i64 p_s.actuators), (.slice ao1 p_s.steps.length cap1)]] H1 w') ∧ k2 l8 = some r) ?_ ?_
   ·
    refine WP.block (WP.seq (WP.region (Vm rfl ?_)))
    obtain ⟨x1, e2, hm⟩ := bind_some hm
    obtain ⟨h6, h7, h8, cs1, h9, h10⟩ := h4.get e2 (by decide)
    obtain ⟨ao6, cap6, rfl, h5, hc6⟩ := h9
    refine V rfl (ov_indexAddr underlying154 sizeOf156 rfl rfl rfl h6 h7 h8) (V rfl (ov_load_elem (v := (.slice ao6 x1.length cap6)) isAgg156 rfl rfl h10) (Va rfl (Va rfl (WL.nil (tn (WP.seq (WP.region (V rfl (ov_build (r := (.agg #[(.pointer none), (.slice none 0 0)])) rfl rfl (fun _ => by kernel_rfl)) ?_))))))))
    refine WL.within (fun w1 s1 => ?_)
    have sv1 := h4
    replace h4 := h4.mono s1.hold
    have sv2 := h10
    replace h10 := h10.mono s1.hold
    have sv3 := h5
    replace h5 := h5.mono s1.hold
    have sv4 := h1
    replace h1 := h1.mono s1.hold
    have sv5 := h2
    replace h2 := h2.mono s1.hold
    have sv6 := rl2
    replace rl2 := rl2.mono s1.hold
    have sv7 := hG
    replace hG := hG.mono s1.hold
    have h11 : RowAt (hp w1) (some ⟨b2, 0, none⟩) 0 [(.slice ao2 p_counts.length cap2)] := s1.box_row (i := 1) rfl
    have h12 : RowAt (hp w1) (some ⟨b1, 0, none⟩) 0 [(.int .i64 p_s.actuators), (.slice ao1 p_s.steps.length cap1)] := s1.box_row (i := 2) rfl
    refine ws rfl (os_box (cs := [(.pointer none), (.slice none 0 0)]) rfl rfl rfl (fun b4 => ?_))
    refine Va rfl (WL.nil (tn (WP.seq (WP.region (Vm rfl (Vm rfl ?_))))))
    obtain ⟨r2, e3, hm⟩ := bind_some hm
    refine wo rfl (oq_con (r := (mkS r2)) call86 rfl rfl (fun w' s => ⟨_, (diagram_letter_con i1  w' (hp w1) s.hold hG r2 e3)⟩)) ?_
    obtain ⟨s2, e4, hm⟩ := bind_some hm
    refine V rfl (ov_sadd' e4 rfl rfl rfl) ?_
    refine ws rfl (os_inline (cap := []) (vs := [(pB b4 0), (mkS s2)]) call51 rfl rfl rfl func51 rfl 19 ntmps51 rfl (fun w' s => ?_))
    refine WP.seq (WP.region (Va rfl (Va rfl (WL.nil (tn (WP.seq (WP.region (Vm rfl ?_))))))))
    refine ws rfl (os_copyCheck (i := 0) rfl rfl rfl (.inl rfl) ?_)
    refine WL.nil (tn (WP.seq (WP.region (Vm rfl (Vm rfl (V rfl (ov_nilCheckB rfl rfl) (V rfl (ov_fieldAddr underlying146 rfl rfl rfl sizeOf123 rfl rfl) (Vl 0 isAgg123 rfl (Vm rfl ?_)))))))))
    have rl3 := RL.nil (α := UInt8) (hp w1) encByte
    refine WL.weaken (fun _ s => s.nilrow 5 (encByte).size) ?_
    obtain ⟨l2, e5, hm⟩ := bind_some hm
    refine ws rfl (os_app_str (i := 0) (xs := []) underlying123 underlying9 (by kernel_rfl : (prog.info? 5).map (fun i => (i.zero, i.size, i.bytes)) = some (some (.int .u8 0), 1, 1)) rfl rfl rfl rfl rl3 e5 (fun ao7 cap7 ys1 rl4 => ?_))
    refine V rfl (ov_nilCheckB rfl rfl) (V rfl (ov_fieldAddr underlying146 rfl rfl rfl sizeOf123 rfl rfl) ?_)
    refine ws0 rfl (os_store (i := 1) (vs := [(.slice ao7 (([] : List UInt8) ++ s2).length cap7)]) (cs' := [(pB b4 0), (.slice ao7 (([] : List UInt8) ++ s2).length cap7)]) sizeOf123 rfl rfl rfl rfl rfl rfl rfl rfl rfl ?_)
    refine WL.nil (tn (WP.seq (WP.region (Vm rfl (V rfl (ov_len_string underlying9 rfl rfl) (Va rfl (Va rfl (WL.nil (tn (WP.ret ?_))))))))))
    refine retQ_ret (v := (.tuple #[(.int .i64 (s2.length : Int)), .nilIface])) results51 (Res.tmp rfl (Res.tmp rfl Res.nil)) rfl (fun w' s => ⟨_, ?_, s⟩)
    refine WL.nil (tn ?_)
    obtain ⟨k3, hk3, hm⟩ := joinK_some hm
    refine WP.seq_join (fun g' S' => ∃ (l6 : (List UInt8)) (ao11 : Option Addr) (cap11 : Nat) (xs3 : List Value), RL (hp w1) encByte l6 xs3 ∧ Sub [(1, (.func (.func 50) #[] #[(pE (some ⟨b2, 0, none⟩) 0)])), (5, (.slice ao5 l1.length cap5)), (8, (pB b4 0)), (12, (.slice ao4 r1.length cap4)), (13, (.int .i64 (r1.length : Int))), (14, (.int .i64 i1)), (1000000007, (.bool false))] g' ∧ (∀ w', S' w' → St w1 (hp w1) [.row 5 (encByte).size l6.length (.slice ao11 l6.length cap11) xs3, .blk b4 146 [(pB b4 0), (.slice ao11 l6.length cap11)]] (hp w1) w') ∧ k3 l6 = some r) ?_ ?_
    ·
     refine WP.seq (WP.region (Vm rfl (V rfl (ov_len_slice underlying156 rfl rfl) (Vm rfl (WL.nil (tn (WP.block ?_)))))))
     refine WP.loop (fun m2 g' S' => ∃ (i2 : Int) (l3 : (List UInt8)) (ao8 : Option Addr) (cap8 : Nat) (xs2 : List Value), RL (hp w1) encByte l3 xs2 ∧ Sub [(1, (.func (.func 50) #[] #[(pE (some ⟨b2, 0, none⟩) 0)])), (5, (.slice ao5 l1.length cap5)), (8, (pB b4 0)), (12, (.slice ao4 r1.length cap4)), (13, (.int .i64 (r1.length : Int))), (14, (.int .i64 i1)), (26, (.slice ao6 x1.length cap6)), (27, (.int .i64 (x1.length : Int))), (28, (.int .i64 i2)), (1000000007, (.bool false))] g' ∧ (∀ w', S' w' → St w1 (hp w1) [.row 5 (encByte).size l3.length (.slice ao8 l3.length cap8) xs2, .blk b4 146 [(pB b4 0), (.slice ao8 l3.length cap8)]] (hp w1) w') ∧ diagram_stretched_loop2 p_counts x1 k3 m2 i2 l3 = some r) ((Int.toNat ((x1.length : Int) - 0) + 1)) ⟨0, (([] : List UInt8) ++ s2), ao7, cap7, ([] ++ ys1), rl4, (Sub.all rfl), fun w' s => s, hm⟩ ?_ ?_
     ·
      rintro g' S' ⟨_, _, _, _, _, _, _, _, hm⟩
      exact none_some hm
     rintro m2 g' S' ⟨i2, l3, ao8, cap8, xs2, rl5, hsub2, hS2, hm⟩
     refine WP.sub hsub2 (WP.weaken hS2 ?_)
     rw [diagram_stretched_loop2] at hm
     refine WP.seq (WP.region (V rfl (ov_lss rfl rfl rfl) (WL.nil (tn (WP.seq ?_)))))
     refine WP.cond rfl (fun hc7 => ?_) (fun hc7 => ?_)
     ·
      replace hm := ite_t hc7 hm
      refine WP.skip (tn (WP.seq (WP.block (WP.seq (WP.region (Vm rfl ?_))))))
      obtain ⟨x2, e6, hm⟩ := bind_some hm
      obtain ⟨h13, h14, h15, cs2, h16, h17⟩ := h5.get e6 (by decide)
      obtain rfl : cs2 = [(.int .u8 x2.first), (.int .u8 x2.second)] := h16
      refine V rfl (ov_indexAddr underlying156 sizeOf112 rfl rfl rfl h13 h14 h15) (V rfl (ov_load_elems (vs := [(.int .u8 x2.first), (.int .u8 x2.second)]) isAgg112 sizeOf112 rfl rfl rfl h17 h15) ?_)
      refine ws rfl (os_alloc (cs := [(.int .u8 0), (.int .u8 0)]) zeroValue112 rfl rfl (fun b5 => ?_))
      refine Va rfl ?_
      refine ws0 rfl (os_store (i := 0) (vs := [(.int .u8 x2.first), (.int .u8 x2.second)]) (cs' := [(.int .u8 x2.first), (.int .u8 x2.second)]) sizeOf112 rfl rfl rfl rfl rfl rfl rfl rfl rfl ?_)
      refine WL.nil (tn (WP.region (Vm rfl (Vm rfl (Vm rfl (V rfl (ov_load_whole (i := 0) isAgg112 sizeOf112 rfl rfl rfl rfl) ?_))))))
      refine ws rfl (os_inline (cap := [(pE (some ⟨b2, 0, none⟩) 0)]) (vs := [(pB b4 0), (.int .i64 i2), (.agg #[(.int .u8 x2.first), (.int .u8 x2.second)])]) call50 rfl rfl rfl func50 rfl 22 ntmps50 rfl (fun w' s => ?_))
      refine WP.seq (WP.region ?_)
      refine ws rfl (os_box (cs := [(.int .u8 x2.first), (.int .u8 x2.second)]) rfl rfl rfl (fun b6 => ?_))
      refine WL.nil (tn (WP.seq ?_))
      refine WP.region_any (S₀ := St w1 (hp w1) [.blk b6 112 [(.int .u8 x2.first), (.int .u8 x2.second)], .blk b5 112 [(.int .u8 x2.first), (.int .u8 x2.second)]] (hp w1)) 11 rfl (by kernel_rfl) (fun w' s => (s.select [0, 1] (by decide) rfl)) (fun _ s => s.drew) ?_
      refine TQ 0 (by kernel_rfl) rfl (ov_move rfl rfl) (TQ 1 (by kernel_rfl) rfl (ov_fieldAddr underlying112 rfl rfl rfl sizeOf5 rfl rfl) (TQ 2 (by kernel_rfl) rfl (ov_load_box (i := 0) isAgg5 rfl rfl rfl rfl) (TQ 3 (by kernel_rfl) rfl (ov_convert_int underlying5 underlying21 rfl rfl) (TQ 4 (by kernel_rfl) rfl (ov_convert_rune' underlying21 underlying9 rfl rfl) (TQ 5 (by kernel_rfl) rfl (ov_load_elem (v := (.slice ao2 p_counts.length cap2)) isAgg33 rfl rfl h11) (TQ 6 (by kernel_rfl) rfl (ov_move rfl rfl) ?_))))))
      obtain ⟨x3, e7, hm⟩ := bind_some hm
      obtain ⟨h18, h19, h20, cs3, h21, h22⟩ := h2.get e7 (by decide)
      obtain rfl : cs3 = [(.int .i64 x3)] := h21
      refine TQ 7 (by kernel_rfl) rfl (ov_indexAddr underlying33 sizeOf3 rfl rfl rfl h18 h19 h20) (TQ 8 (by kernel_rfl) rfl (ov_load_elem (v := (.int .i64 x3)) isAgg3 rfl rfl h22) ?_)
      refine AL.any (rs := [9]) (by kernel_rfl) (by decide) ?_
      refine ALs.cons (i := 9) rfl (Runs.free rfl) rfl rfl ?_ ?_
      ·
       obtain ⟨r3, e8, hm⟩ := bind_some hm
       refine OQ.step (oq_con (r := (mkS r3)) call52 rfl rfl (fun w' s => ⟨_, (repS_con ((Utf8.encode (IntKind.wrap .i32 x2.first)).data.toList) x3  w' (hp w1) s.hold hG r3 e8)⟩)) ?_
       refine ⟨fun w' s => (s.select [0, 1] (by decide) rfl), ?_⟩
       refine AL.any (rs := [10]) (by kernel_rfl) (by decide) ?_
       refine ALs.cons (i := 10) rfl (Runs.free rfl) rfl rfl ?_ ?_
       ·
        refine os_inline (cap := []) (vs := [(pB b4 0), (mkS r3)]) call51 rfl rfl rfl func51 rfl 19 ntmps51 rfl (fun w' s => ?_)
        refine WP.seq (WP.region (Va rfl (Va rfl (WL.nil (tn (WP.seq (WP.region (Vm rfl ?_))))))))
        refine ws rfl (os_copyCheck (i := 3) rfl rfl rfl (.inr rfl) ?_)
        refine WL.nil (tn (WP.seq (WP.region (Vm rfl (Vm rfl (V rfl (ov_nilCheckB rfl rfl) (V rfl (ov_fieldAddr underlying146 rfl rfl rfl sizeOf123 rfl rfl) (Vl 3 isAgg123 rfl (Vm rfl ?_)))))))))
        obtain ⟨l4, e9, hm⟩ := bind_some hm
        refine ws rfl (os_app_str (i := 2) (xs := xs2) underlying123 underlying9 (by kernel_rfl : (prog.info? 5).map (fun i => (i.zero, i.size, i.bytes)) = some (some (.int .u8 0), 1, 1)) rfl rfl rfl rfl rl5 e9 (fun ao9 cap9 ys2 rl6 => ?_))
        refine V rfl (ov_nilCheckB rfl rfl) (V rfl (ov_fieldAddr underlying146 rfl rfl rfl sizeOf123 rfl rfl) ?_)
        refine ws0 rfl (os_store (i := 3) (vs := [(.slice ao9 (l3 ++ r3).length cap9)]) (cs' := [(pB b4 0), (.slice ao9 (l3 ++ r3).length cap9)]) sizeOf123 rfl rfl rfl rfl rfl rfl rfl rfl rfl ?_)
        refine WL.nil (tn (WP.seq (WP.region (Vm rfl (V rfl (ov_len_string underlying9 rfl rfl) (Va rfl (Va rfl (WL.nil (tn (WP.ret ?_))))))))))
        refine retQ_ret (v := (.tuple #[(.int .i64 (r3.length : Int)), .nilIface])) results51 (Res.tmp rfl (Res.tmp rfl Res.nil)) rfl (fun w' s => ⟨_, ?_, s⟩)
        refine ⟨fun w' s => (s.select [0, 1] (by decide) rfl), ?_⟩
        refine AL.done (by kernel_rfl) ?_
        refine tn (WP.region (Vm rfl (V rfl (ov_fieldAddr underlying112 rfl rfl rfl sizeOf5 rfl rfl) (Vl 0 isAgg5 rfl ?_))))
        refine ws rfl (os_inline (cap := []) (vs := [(pB b4 0), (.int .u8 x2.second)]) call53 rfl rfl rfl func53 rfl 17 ntmps53 rfl (fun w' s => ?_))
        refine WP.seq (WP.region (Va rfl (WL.nil (tn (WP.seq (WP.region (Vm rfl ?_)))))))
        refine ws rfl (os_copyCheck (i := 3) rfl rfl rfl (.inr rfl) ?_)
        refine WL.nil (tn (WP.seq (WP.region (Vm rfl (Vm rfl (V rfl (ov_nilCheckB rfl rfl) (V rfl (ov_fieldAddr underlying146 rfl rfl rfl sizeOf123 rfl rfl) (Vl 3 isAgg123 rfl (Vm rfl ?_)))))))))
        obtain ⟨u1, e10, hm⟩ := bind_some hm
        replace e10 := guardO_some e10
        have rl7 : RL (hp w1) encByte ([(UInt8.ofNat (Int.toNat x2.second))] : List UInt8) [(.int .u8 x2.second)] := RL.byte1 e10
        refine ws rfl (os_buildSlice (cs := [(.int .u8 x2.second)]) (E := 5) (sz := 1) rfl rfl (fun _ => by kernel_rfl) rfl (by decide) (fun b7 => ?_))
        obtain ⟨l5, e11, hm⟩ := bind_some hm
        refine ws rfl (os_app (i := 3) (j := 0) (En := encByte) (xs := (xs2 ++ ys2)) (ys := [(.int .u8 x2.second)]) underlying123 (by kernel_rfl : (prog.info? 5).map (fun i => (i.zero, i.size, i.bytes)) = some (some (.int .u8 0), (encByte).size, 1)) rfl (by decide) rfl rfl rfl rfl rfl rfl rl6 rl7 e11 (fun ao10 cap10 rl8 => ?_))
        refine V rfl (ov_nilCheckB rfl rfl) (V rfl (ov_fieldAddr underlying146 rfl rfl rfl sizeOf123 rfl rfl) ?_)
        refine ws0 rfl (os_store (i := 4) (vs := [(.slice ao10 ((l3 ++ r3) ++ ([(UInt8.ofNat (Int.toNat x2.second))] : List UInt8)).length cap10)]) (cs' := [(pB b4 0), (.slice ao10 ((l3 ++ r3) ++ ([(UInt8.ofNat (Int.toNat x2.second))] : List UInt8)).length cap10)]) sizeOf123 rfl rfl rfl rfl rfl rfl rfl rfl rfl ?_)
        refine WL.nil (tn (WP.seq (WP.region (Va rfl (WL.nil (tn (WP.ret ?_)))))))
        refine retQ_ret (v := .nilIface) results53 (Res.tmp rfl Res.nil) rfl (fun w' s => ⟨_, ?_, s⟩)
        refine WL.nil ?_
        refine retQ_end (v := (.tuple #[])) results50 Res.nil rfl (fun w' s => ⟨_, ?_, s⟩)
        refine WL.nil (bn (tn (WP.region (V rfl (ov_add rfl rfl rfl) (Vm rfl (WL.nil (tn ?_)))))))
        exact ⟨(IntKind.wrap .i64 (i2 + 1)), ((l3 ++ r3) ++ ([(UInt8.ofNat (Int.toNat x2.second))] : List UInt8)), ao10, cap10, ((xs2 ++ ys2) ++ [(.int .u8 x2.second)]), rl8, (Sub.all rfl), fun w' s => (s.select [3, 4] (by decide) rfl), hm⟩
       exact ALs.nil
      exact ALs.nil
     replace hm := ite_f hc7 hm
     refine WP.exit (then_exit (then_exit (block_here (tn ?_))))
     exact ⟨l3, ao8, cap8, xs2, rl5, (Sub.all rfl), fun w' s => s, hm⟩
    rintro g' S' ⟨l6, ao11, cap11, xs3, rl9, hsub3, hS3, hm⟩
    refine WP.sub hsub3 (WP.weaken hS3 ?_)
    replace hm := (congrFun hk3 l6).symm.trans hm
    refine WP.region (Vm rfl (Vm rfl ?_))
    have h4 := sv1
    have h10 := sv2
    have h5 := sv3
    have h1 := sv4
    have h2 := sv5
    have rl2 := sv6
    have hG := sv7
    refine ws rfl (os_bstring_in s1 (i := 1) (j := 0) rfl rfl rfl rfl (.inr rfl) rl9 ?_)
    have rl10 : RL H1 encStr ([l6] : List (List UInt8)) [(mkS l6)] := RL.cons (cs := [(mkS l6)]) (xs := []) rfl (RL.nil _ _)
    refine ws rfl (os_buildSlice (cs := [(mkS l6)]) (E := 9) (sz := 1) rfl rfl (fun _ => by kernel_rfl) rfl (by decide) (fun b8 => ?_))
    obtain ⟨l7, e12, hm⟩ := bind_some hm
    refine ws rfl (os_app (i := 1) (j := 0) (En := encStr) (xs := xs1) (ys := [(mkS l6)]) underlying41 (by kernel_rfl : (prog.info? 9).map (fun i => (i.zero, i.size, i.bytes)) = some (some (mkS []), (encStr).size, 16)) rfl (by decide) rfl rfl rfl rfl rfl rfl rl2 rl10 e12 (fun ao12 cap12 rl11 => ?_))
    refine Va rfl (WL.nil (bn (tn ?_)))
    exact ⟨(l1 ++ ([l6] : List (List UInt8))), ao12, cap12, (xs1 ++ [(mkS l6)]), rl11, (Sub.all rfl), fun w' s => (s.select [1, 2, 3] (by decide) rfl), hm⟩
   rintro g' S' ⟨l8, ao13, cap13, xs4, rl12, hsub4, hS4, hm⟩
   refine WP.sub hsub4 (WP.weaken hS4 ?_)
   replace hm := (congrFun hk2 l8).symm.trans hm
   refine WP.region (V rfl (ov_add rfl rfl rfl) (Vm rfl (WL.nil (tn ?_))))
   exact ⟨(IntKind.wrap .i64 (i1 + 1)), l8, ao13, cap13, xs4, rl12, (Sub.all rfl), fun w' s => s, hm⟩
  replace hm := ite_f hc5 hm
  refine WP.exit (then_exit (then_exit (block_here (tn ?_))))
  exact ⟨H1, l1, ao5, cap5, xs1, hle1, rl2, (Sub.all rfl), fun w' s => s, hm⟩
 rintro g' S' ⟨H2, l9, ao14, cap14, xs5, hle2, rl13, hsub5, hS5, hm⟩
 refine WP.sub hsub5 (WP.weaken hS5 ?_)
 replace hm := (congrFun hk1 l9).symm.trans hm
 refine WP.seq (WP.region (Vm rfl (Va rfl (WL.nil (tn (WP.ret ?_))))))
 refine retQ_ret (v := (.slice ao14 l9.length cap14)) results49 (Res.tmp rfl Res.nil) rfl (fun w' s => ⟨_, ?_, s⟩)
 refine Va rfl (WL.nil (tn (WP.ret ?_)))
 obtain rfl := Option.some.inj hm
 refine retQ_ret results30 (Res.tmp rfl Res.nil) rfl (fun w' s => ⟨s.below, ?_⟩)
 obtain ⟨h23, hc8⟩ := s.ret_row (i := 0) rfl rl13
 exact ⟨ao14, cap14, rfl, h23, hc8⟩
end Go.Proofs.YtkgijoddkibapaaGreatDoor.W
