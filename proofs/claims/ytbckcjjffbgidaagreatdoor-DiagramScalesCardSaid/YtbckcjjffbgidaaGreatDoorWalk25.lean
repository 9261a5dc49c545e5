/- The walks. Written by our own program gen.py; Lean checks it. -/
import Derived.Test.YtbckcjjffbgidaaGreatDoorPlain
import Derived.Test.YtbckcjjffbgidaaGreatDoorEqs
import Derived.Test.YtbckcjjffbgidaaGreatDoorProg
import Derived.Test.YtbckcjjffbgidaaGreatDoorExt
import Derived.Test.YtbckcjjffbgidaaGreatDoorBuild
import Derived.Test.YtbckcjjffbgidaaGreatDoorClone
import Derived.Test.YtbckcjjffbgidaaGreatDoorWalk2
import Derived.Test.YtbckcjjffbgidaaGreatDoorWalk12
set_option linter.unusedVariables false
set_option maxRecDepth 100000
set_option maxHeartbeats 4000000
namespace Go.Proofs.YtbckcjjffbgidaaGreatDoor.W
open Go Go.RowKit Go.Proofs.Tryz
theorem ref16_Widths_con (p_times : (List Int)) (p_unit : Int) (ao1 : Option Addr) (cap1 : Nat) (w : World) (H : Heap) (hH : Le H (hp w)) (h1 : SL H (encInt .i64) ao1 p_times) (hc1 : p_times.length ≤ cap1) (hG : Glob H) (r : (List Int)) (hm : ref16_Widths p_times p_unit = some r) :
  Con prog 65 [(.slice ao1 p_times.length cap1), (.int .i64 p_unit)] w H (fun v H' => ∃ (ao2 : Option Addr) (cap2 : Nat), v = (.slice ao2 r.length cap2) ∧ SL H' (encInt .i64) ao2 r ∧ r.length ≤ cap2) := by
 unfold ref16_Widths at hm
 refine con_of hH func65 rfl 27 ntmps65 rfl ?_
 refine WP.seq (WP.region (Va rfl (WL.nil (tn (WP.seq (WP.region (Va rfl (WL.nil (tn ?_)))))))))
 obtain ⟨k1, hk1, hm⟩ := joinK_some hm
 refine WP.seq_join (fun g' S' => ∃ (l3 : (List Int)) (ao5 : Option Addr) (cap5 : Nat) (xs2 : List Value), RL H (encInt .i64) l3 xs2 ∧ Sub [(5, (.slice ao5 l3.length cap5)), (1000000007, (.bool false))] g' ∧ (∀ w', S' w' → St w H [.row 3 ((encInt .i64)).size l3.length (.slice ao5 l3.length cap5) xs2] H w') ∧ k1 l3 = some r) ?_ ?_
 ·
  refine WP.seq (WP.region (Va rfl (WL.nil (tn (WP.block ?_)))))
  have rl1 := RL.nil (α := Int) H (encInt .i64)
  refine WP.weaken (fun _ s => s.nilrow 3 ((encInt .i64)).size) ?_
  refine WP.loop (fun m1 g' S' => ∃ (i1 : Int) (l1 : (List Int)) (ao3 : Option Addr) (cap3 : Nat) (xs1 : List Value), RL H (encInt .i64) l1 xs1 ∧ Sub [(0, (.slice ao1 p_times.length cap1)), (1, (.int .i64 p_unit)), (5, (.slice ao3 l1.length cap3)), (6, (.int .i64 i1)), (1000000007, (.bool false))] g' ∧ (∀ w', S' w' → St w H [.row 3 ((encInt .i64)).size l1.length (.slice ao3 l1.length cap3) xs1] H w') ∧ ref16_Widths_loop1 p_times p_unit k1 m1 i1 l1 = some r) ((Int.toNat ((p_times.length : Int) - 0) + 1)) ⟨0, ([] : List Int), none, 0, [], rl1, (Sub.all rfl), fun w' s => s, hm⟩ ?_ ?_
  ·
   rintro g' S' ⟨_, _, _, _, _, _, _, _, hm⟩
   exact none_some hm
  rintro m1 g' S' ⟨i1, l1, ao3, cap3, xs1, rl2, hsub1, hS1, hm⟩
  refine WP.sub hsub1 (WP.weaken hS1 ?_)
  rw [ref16_Widths_loop1] at hm
  refine WP.seq (WP.seq (WP.region (Vm rfl (Vm rfl (V rfl (ov_len_slice underlying39 rfl rfl) (V rfl (ov_lss rfl rfl rfl) (WL.nil (tn ?_))))))))
  refine WP.cond rfl (fun hc3 => ?_) (fun hc3 => ?_)
  ·
   replace hm := ite_t hc3 hm
   refine WP.skip (tn (WP.seq (WP.block (WP.region (Vm rfl (Vm rfl (Vm rfl ?_)))))))
   obtain ⟨x1, e1, hm⟩ := bind_some hm
   obtain ⟨h3, h4, h5, cs1, h6, h7⟩ := h1.get e1 (by decide)
   obtain rfl : cs1 = [(.int .i64 x1)] := h6
   refine V rfl (ov_indexAddr underlying39 sizeOf3 rfl rfl rfl h3 h4 h5) (V rfl (ov_load_elem (v := (.int .i64 x1)) isAgg3 rfl rfl h7) (Vm rfl (V rfl (ov_add rfl rfl rfl) (V rfl (ov_sub rfl rfl rfl) (Vm rfl ?_)))))
   obtain ⟨u1, e2, hm⟩ := bind_some hm
   replace e2 := guardO_some e2
   refine V rfl (ov_quo rfl rfl rfl (by simpa using e2)) (V rfl (ov_max rfl rfl rfl) ?_)
   have rl3 : RL H (encInt .i64) ([(if (1 : Int) > (IntKind.wrap .i64 (Int.tdiv (IntKind.wrap .i64 ((IntKind.wrap .i64 (x1 + p_unit)) - 1)) p_unit)) then 1 else (IntKind.wrap .i64 (Int.tdiv (IntKind.wrap .i64 ((IntKind.wrap .i64 (x1 + p_unit)) - 1)) p_unit)))] : List Int) [(.int .i64 (if (1 : Int) > (IntKind.wrap .i64 (Int.tdiv (IntKind.wrap .i64 ((IntKind.wrap .i64 (x1 + p_unit)) - 1)) p_unit)) then 1 else (IntKind.wrap .i64 (Int.tdiv (IntKind.wrap .i64 ((IntKind.wrap .i64 (x1 + p_unit)) - 1)) p_unit))))] := RL.cons (cs := [(.int .i64 (if (1 : Int) > (IntKind.wrap .i64 (Int.tdiv (IntKind.wrap .i64 ((IntKind.wrap .i64 (x1 + p_unit)) - 1)) p_unit)) then 1 else (IntKind.wrap .i64 (Int.tdiv (IntKind.wrap .i64 ((IntKind.wrap .i64 (x1 + p_unit)) - 1)) p_unit))))]) (xs := []) rfl (RL.nil _ _)
   refine ws rfl (os_buildSlice (cs := [(.int .i64 (if (1 : Int) > (IntKind.wrap .i64 (Int.tdiv (IntKind.wrap .i64 ((IntKind.wrap .i64 (x1 + p_unit)) - 1)) p_unit)) then 1 else (IntKind.wrap .i64 (Int.tdiv (IntKind.wrap .i64 ((IntKind.wrap .i64 (x1 + p_unit)) - 1)) p_unit))))]) (E := 3) (sz := 1) rfl rfl (fun _ => by kernel_rfl) rfl (by decide) (fun b1 => ?_))
   obtain ⟨l2, e3, hm⟩ := bind_some hm
   refine ws rfl (os_app (i := 1) (j := 0) (En := (encInt .i64)) (xs := xs1) (ys := [(.int .i64 (if (1 : Int) > (IntKind.wrap .i64 (Int.tdiv (IntKind.wrap .i64 ((IntKind.wrap .i64 (x1 + p_unit)) - 1)) p_unit)) then 1 else (IntKind.wrap .i64 (Int.tdiv (IntKind.wrap .i64 ((IntKind.wrap .i64 (x1 + p_unit)) - 1)) p_unit))))]) underlying39 (by kernel_rfl : (prog.info? 3).map (fun i => (i.zero, i.size, i.bytes)) = some (some (.int .i64 0), ((encInt .i64)).size, 8)) rfl (by decide) rfl rfl rfl rfl rfl rfl rl2 rl3 e3 (fun ao4 cap4 rl4 => ?_))
   refine Va rfl (WL.nil (bn (tn (WP.region (Vm rfl (V rfl (ov_add rfl rfl rfl) (Va rfl (WL.nil (tn ?_)))))))))
   exact ⟨(IntKind.wrap .i64 (i1 + 1)), (l1 ++ ([(if (1 : Int) > (IntKind.wrap .i64 (Int.tdiv (IntKind.wrap .i64 ((IntKind.wrap .i64 (x1 + p_unit)) - 1)) p_unit)) then 1 else (IntKind.wrap .i64 (Int.tdiv (IntKind.wrap .i64 ((IntKind.wrap .i64 (x1 + p_unit)) - 1)) p_unit)))] : List Int)), ao4, cap4, (xs1 ++ [(.int .i64 (if (1 : Int) > (IntKind.wrap .i64 (Int.tdiv (IntKind.wrap .i64 ((IntKind.wrap .i64 (x1 + p_unit)) - 1)) p_unit)) then 1 else (IntKind.wrap .i64 (Int.tdiv (IntKind.wrap .i64 ((IntKind.wrap .i64 (x1 + p_unit)) - 1)) p_unit))))]), rl4, (Sub.all rfl), fun w' s => (s.select [1] (by decide) rfl), hm⟩
  replace hm := ite_f hc3 hm
  refine WP.exit (then_exit (then_exit (block_here (tn ?_))))
  exact ⟨l1, ao3, cap3, xs1, rl2, (Sub.all rfl), fun w' s => s, hm⟩
 rintro g' S' ⟨l3, ao5, cap5, xs2, rl5, hsub2, hS2, hm⟩
 refine WP.sub hsub2 (WP.weaken hS2 ?_)
 replace hm := (congrFun hk1 l3).symm.trans hm
 refine WP.seq (WP.region (Vm rfl (Va rfl (WL.nil (tn (WP.ret ?_))))))
 obtain rfl := Option.some.inj hm
 refine retQ_ret results65 (Res.tmp rfl Res.nil) rfl (fun w' s => ⟨s.below, ?_⟩)
 obtain ⟨h8, hc4⟩ := s.ret_row (i := 0) rfl rl5
 exact ⟨ao5, cap5, rfl, h8, hc4⟩
theorem ref16_Scale_con (p_s : Sequence) (p_times : (List Int)) (p_unit : Int) (ao1 : Option Addr) (cap1 : Nat) (ao2 : Option Addr) (cap2 : Nat) (w : World) (H : Heap) (hH : Le H (hp w)) (h1 : SL H encStep ao1 p_s.steps) (hc1 : p_s.steps.length ≤ cap1) (h2 : SL H (encInt .i64) ao2 p_times) (hc2 : p_times.length ≤ cap2) (hG : Glob H) (r : ((List (List UInt8)) × Int)) (hm : ref16_Scale p_s p_times p_unit = some r) :
  Con prog 28 [(.agg #[(.int .i64 p_s.actuators), (.slice ao1 p_s.steps.length cap1)]), (.slice ao2 p_times.length cap2), (.int .i64 p_unit)] w H (fun v H' => ∃ (ao3 : Option Addr) (cap3 : Nat), v = (.tuple #[(.slice ao3 r.1.length cap3), (.int .i64 r.2)]) ∧ SL H' encStr ao3 r.1 ∧ r.1.length ≤ cap3) := by
 unfold ref16_Scale at hm
 refine con_of hH func28 rfl 69 ntmps28 rfl ?_
 refine WP.seq (WP.region ?_)
 refine ws rfl (os_box (cs := [(.int .i64 p_s.actuators), (.slice ao1 p_s.steps.length cap1)]) rfl rfl rfl (fun b1 => ?_))
 refine Va rfl (Va rfl (WL.nil (tn (WP.seq (WP.seq (WP.region (V rfl (ov_load_whole (i := 0) isAgg24 sizeOf24 rfl rfl rfl rfl) ?_)))))))
 obtain ⟨r1, e1, hm⟩ := bind_some hm
 refine wo rfl (oq_con (r := (.int .i64 r1)) call38 rfl rfl (fun w' s => ⟨_, (ref14_Check_con p_s ao1 cap1  w' H s.hold h1 hc1 hG r1 e1)⟩)) ?_
 refine Va rfl (WL.nil (tn (WP.seq (WP.region (Vm rfl (V rfl (ov_neq rfl rfl rfl) (WL.nil (tn ?_))))))))
 refine WP.cond rfl (fun hc4 => ?_) (fun hc4 => ?_)
 ·
  replace hm := ite_t hc4 hm
  refine WP.seq (WP.region (Vm rfl (Va rfl (Va rfl (WL.nil (tn (WP.ret (then_ret ?_))))))))
  obtain rfl := Option.some.inj hm
  refine retQ_ret results28 (Res.tmp rfl (Res.tmp rfl Res.nil)) rfl (fun w' s => ⟨s.below, ?_⟩)
  exact ⟨none, 0, rfl, SL.nil _ _ _, Nat.le_refl _⟩
 replace hm := ite_f hc4 hm
 refine WP.skip (tn (WP.seq (WP.seq (WP.region (Vm rfl (V rfl (ov_len_slice underlying39 rfl rfl) (V rfl (ov_fieldAddr underlying24 rfl rfl rfl sizeOf22 rfl rfl) (Vl 0 isAgg22 rfl (V rfl (ov_len_slice underlying22 rfl rfl) (V rfl (ov_neq rfl rfl rfl) (WL.nil (tn ?_))))))))))))
 refine WP.cond rfl (fun hc5 => ?_) (fun hc5 => ?_)
 ·
  replace hm := ite_t hc5 hm
  refine WP.seq (WP.region (Va rfl (Va rfl (WL.nil (tn (WP.ret (then_ret ?_)))))))
  obtain rfl := Option.some.inj hm
  refine retQ_ret results28 (Res.tmp rfl (Res.tmp rfl Res.nil)) rfl (fun w' s => ⟨s.below, ?_⟩)
  exact ⟨none, 0, rfl, SL.nil _ _ _, Nat.le_refl _⟩
 replace hm := ite_f hc5 hm
 refine WP.skip (tn ?_)
 obtain ⟨k1, hk1, hm⟩ := joinK_some hm
 refine WP.seq_join (fun g' S' => Sub [(1, (.slice ao2 p_times.length cap2)), (2, (.int .i64 p_unit)), (3, (pB b1 0)), (1000000007, (.bool false))] g' ∧ (∀ w', S' w' → St w H [.blk b1 24 [(.int .i64 p_s.actuators), (.slice ao1 p_s.steps.length cap1)]] H w') ∧ k1 = some r) ?_ ?_
 ·
  refine WP.seq (WP.region (Va rfl (WL.nil (tn (WP.block ?_)))))
  refine WP.loop (fun m1 g' S' => ∃ (i1 : Int), Sub [(1, (.slice ao2 p_times.length cap2)), (2, (.int .i64 p_unit)), (3, (pB b1 0)), (9, (.int .i64 i1)), (1000000007, (.bool false))] g' ∧ (∀ w', S' w' → St w H [.blk b1 24 [(.int .i64 p_s.actuators), (.slice ao1 p_s.steps.length cap1)]] H w') ∧ ref16_Scale_loop1 p_times k1 m1 i1 = some r) ((Int.toNat ((p_times.length : Int) - 0) + 1)) ⟨0, (Sub.all rfl), fun w' s => s, hm⟩ ?_ ?_
  ·
   rintro g' S' ⟨_, _, _, hm⟩
   exact none_some hm
  rintro m1 g' S' ⟨i1, hsub1, hS1, hm⟩
  refine WP.sub hsub1 (WP.weaken hS1 ?_)
  rw [ref16_Scale_loop1] at hm
  refine WP.seq (WP.seq (WP.region (Vm rfl (Vm rfl (V rfl (ov_len_slice underlying39 rfl rfl) (V rfl (ov_lss rfl rfl rfl) (WL.nil (tn ?_))))))))
  refine WP.cond rfl (fun hc6 => ?_) (fun hc6 => ?_)
  ·
   replace hm := ite_t hc6 hm
   refine WP.skip (tn (WP.seq (WP.block (WP.seq (WP.region (Vm rfl (Vm rfl ?_)))))))
   obtain ⟨x1, e2, hm⟩ := bind_some hm
   obtain ⟨h4, h5, h6, cs1, h7, h8⟩ := h2.get e2 (by decide)
   obtain rfl : cs1 = [(.int .i64 x1)] := h7
   refine V rfl (ov_indexAddr underlying39 sizeOf3 rfl rfl rfl h4 h5 h6) (V rfl (ov_load_elem (v := (.int .i64 x1)) isAgg3 rfl rfl h8) (V rfl (ov_lss rfl rfl rfl) (Vm rfl ?_)))
   obtain ⟨c1, e3, hm⟩ := bind_some hm
   refine WL.cut_bool 6 41 (x := c1) ?_ ?_
   ·
    rcases Bool.eq_false_or_eq_true (decide (x1 < 0)) with hc7 | hc7
    ·
     replace hm := ite_t hc7 e3
     refine Vi rfl (Idle.no rfl rfl rfl hc7) (Vi rfl (Idle.no rfl rfl rfl hc7) (Vi rfl (Idle.no rfl rfl rfl hc7) (Vi rfl (Idle.no rfl rfl rfl hc7) (Vi rfl (Idle.no rfl rfl rfl hc7) (V rfl (ov_pick_true rfl (guard_eq rfl hc7) rfl) ?_)))))
     exact WL.nil ⟨Sub.cons' rfl (congrArg Value.bool (Option.some.inj hm)) (Sub.dropn 6 rfl), fun _ s => s⟩
    replace hm := ite_f hc7 e3
    refine wy hc7 rfl (ov_move rfl rfl) ?_
    refine wy hc7 rfl (ov_move rfl rfl) ?_
    obtain ⟨x2, e4, hm⟩ := bind_some hm
    obtain ⟨h9, h10, h11, cs2, h12, h13⟩ := h2.get e4 (by decide)
    obtain rfl : cs2 = [(.int .i64 x2)] := h12
    refine wy hc7 rfl (ov_indexAddr underlying39 sizeOf3 rfl rfl rfl h9 h10 h11) ?_
    refine wy hc7 rfl (ov_load_elem (v := (.int .i64 x2)) isAgg3 rfl rfl h13) ?_
    refine wy hc7 rfl (ov_gtr rfl rfl rfl) ?_
    refine V rfl (ov_pick_false rfl (guard_eq rfl hc7) rfl) ?_
    exact WL.nil ⟨Sub.cons' rfl (congrArg Value.bool (Option.some.inj hm)) (Sub.dropn 6 rfl), fun _ s => s⟩
   refine WL.nil (tn ?_)
   refine WP.cond rfl (fun hc8 => ?_) (fun hc8 => ?_)
   ·
    replace hm := ite_t hc8 hm
    refine WP.seq (WP.region (Va rfl (Va rfl (WL.nil (tn (WP.ret (block_ret (then_ret (then_ret (block_ret (then_ret ?_)))))))))))
    obtain rfl := Option.some.inj hm
    refine retQ_ret results28 (Res.tmp rfl (Res.tmp rfl Res.nil)) rfl (fun w' s => ⟨s.below, ?_⟩)
    exact ⟨none, 0, rfl, SL.nil _ _ _, Nat.le_refl _⟩
   replace hm := ite_f hc8 hm
   refine WP.skip (bn (tn (WP.region (Vm rfl (V rfl (ov_add rfl rfl rfl) (Va rfl (WL.nil (tn ?_))))))))
   exact ⟨(IntKind.wrap .i64 (i1 + 1)), (Sub.all rfl), fun w' s => s, hm⟩
  replace hm := ite_f hc6 hm
  refine WP.exit (then_exit (then_exit (block_here (tn ?_))))
  exact ⟨(Sub.all rfl), fun w' s => s, hm⟩
 rintro g' S' ⟨hsub2, hS2, hm⟩
 refine WP.sub hsub2 (WP.weaken hS2 ?_)
 replace hm := hk1.symm.trans hm
 refine WP.seq (WP.seq (WP.region (Vm rfl (V rfl (ov_lss rfl rfl rfl) (Vm rfl ?_)))))
 refine WL.cut_bool 3 47 (x := ((decide (p_unit < 1)) || (decide (p_unit > 1000000)))) ?_ ?_
 ·
  rcases Bool.eq_false_or_eq_true (decide (p_unit < 1)) with hc9 | hc9
  ·
   refine Vi rfl (Idle.no rfl rfl rfl hc9) (Vi rfl (Idle.no rfl rfl rfl hc9) (V rfl (ov_pick_true rfl (guard_eq rfl hc9) rfl) ?_))
   exact WL.nil ⟨Sub.cons' rfl (congrArg Value.bool (orT hc9)) (Sub.dropn 3 rfl), fun _ s => s⟩
  refine wy hc9 rfl (ov_move rfl rfl) ?_
  refine wy hc9 rfl (ov_gtr rfl rfl rfl) ?_
  refine V rfl (ov_pick_false rfl (guard_eq rfl hc9) rfl) ?_
  exact WL.nil ⟨Sub.cons' rfl (congrArg Value.bool (orF hc9)) (Sub.dropn 3 rfl), fun _ s => s⟩
 refine WL.nil (tn ?_)
 refine WP.cond rfl (fun hc10 => ?_) (fun hc10 => ?_)
 ·
  replace hm := ite_t hc10 hm
  refine WP.seq (WP.region (Va rfl (Va rfl (WL.nil (tn (WP.ret (then_ret ?_)))))))
  obtain rfl := Option.some.inj hm
  refine retQ_ret results28 (Res.tmp rfl (Res.tmp rfl Res.nil)) rfl (fun w' s => ⟨s.below, ?_⟩)
  exact ⟨none, 0, rfl, SL.nil _ _ _, Nat.le_refl _⟩
 replace hm := ite_f hc10 hm
 refine WP.skip (tn (WP.seq (WP.region (Vm rfl (Vm rfl ?_)))))
 obtain ⟨r2, e5, hm⟩ := bind_some hm
 refine ws rfl (os_con call65 rfl rfl (fun w' s => (ref16_Widths_con p_times p_unit ao2 cap2  w' H s.hold h2 hc2 hG r2 e5)) (fun rr1 H1 hle1 hR1 => ?_))
 replace h1 := h1.mono hle1
 replace hG := hG.mono hle1
 obtain ⟨ao4, cap4, rfl, h14, hc11⟩ := hR1
 refine Va rfl (WL.nil (tn (WP.seq (WP.region (Va rfl (WL.nil (tn ?_)))))))
 obtain ⟨k2, hk2, hm⟩ := joinK_some hm
 refine WP.seq_join (fun g' S' => ∃ (i4 : Int), Sub [(3, (pB b1 0)), (10, (.slice ao4 r2.length cap4)), (11, (.int .i64 i4)), (1000000007, (.bool false))] g' ∧ (∀ w', S' w' → St w H [.blk b1 24 [(.int .i64 p_s.actuators), (.slice ao1 p_s.steps.length cap1)]] H1 w') ∧ k2 i4 = some r) ?_ ?_
 ·
  refine WP.seq (WP.region (Va rfl (WL.nil (tn (WP.block ?_)))))
  refine WP.loop (fun m2 g' S' => ∃ (i2 : Int) (i3 : Int), Sub [(3, (pB b1 0)), (10, (.slice ao4 r2.length cap4)), (11, (.int .i64 i2)), (12, (.int .i64 i3)), (1000000007, (.bool false))] g' ∧ (∀ w', S' w' → St w H [.blk b1 24 [(.int .i64 p_s.actuators), (.slice ao1 p_s.steps.length cap1)]] H1 w') ∧ ref16_Scale_loop2 r2 k2 m2 i2 i3 = some r) ((Int.toNat ((r2.length : Int) - 0) + 1)) ⟨3, 0, (Sub.all rfl), fun w' s => s, hm⟩ ?_ ?_
  ·
   rintro g' S' ⟨_, _, _, _, hm⟩
   exact none_some hm
  rintro m2 g' S' ⟨i2, i3, hsub3, hS3, hm⟩
  refine WP.sub hsub3 (WP.weaken hS3 ?_)
  rw [ref16_Scale_loop2] at hm
  refine WP.seq (WP.seq (WP.region (Vm rfl (Vm rfl (V rfl (ov_len_slice underlying39 rfl rfl) (V rfl (ov_lss rfl rfl rfl) (WL.nil (tn ?_))))))))
  refine WP.cond rfl (fun hc12 => ?_) (fun hc12 => ?_)
  ·
   replace hm := ite_t hc12 hm
   refine WP.skip (tn (WP.seq (WP.block (WP.region (Vm rfl (Vm rfl (Vm rfl ?_)))))))
   obtain ⟨x3, e6, hm⟩ := bind_some hm
   obtain ⟨h15, h16, h17, cs3, h18, h19⟩ := h14.get e6 (by decide)
   obtain rfl : cs3 = [(.int .i64 x3)] := h18
   refine V rfl (ov_indexAddr underlying39 sizeOf3 rfl rfl rfl h15 h16 h17) (V rfl (ov_load_elem (v := (.int .i64 x3)) isAgg3 rfl rfl h19) (V rfl (ov_add rfl rfl rfl) (V rfl (ov_add rfl rfl rfl) (Va rfl (WL.nil (bn (tn (WP.region (Vm rfl (V rfl (ov_add rfl rfl rfl) (Va rfl (WL.nil (tn ?_)))))))))))))
   exact ⟨(IntKind.wrap .i64 (i2 + (IntKind.wrap .i64 (x3 + 1)))), (IntKind.wrap .i64 (i3 + 1)), (Sub.all rfl), fun w' s => s, hm⟩
  replace hm := ite_f hc12 hm
  refine WP.exit (then_exit (then_exit (block_here (tn ?_))))
  exact ⟨i2, (Sub.all rfl), fun w' s => s, hm⟩
 rintro g' S' ⟨i4, hsub4, hS4, hm⟩
 refine WP.sub hsub4 (WP.weaken hS4 ?_)
 replace hm := (congrFun hk2 i4).symm.trans hm
 refine WP.seq (WP.seq (WP.region (Vm rfl (V rfl (ov_gtr rfl rfl rfl) (WL.nil (tn ?_))))))
 refine WP.cond rfl (fun hc13 => ?_) (fun hc13 => ?_)
 ·
  replace hm := ite_t hc13 hm
  refine WP.seq (WP.region (Va rfl (Va rfl (WL.nil (tn (WP.ret (then_ret ?_)))))))
  obtain rfl := Option.some.inj hm
  refine retQ_ret results28 (Res.tmp rfl (Res.tmp rfl Res.nil)) rfl (fun w' s => ⟨s.below, ?_⟩)
  exact ⟨none, 0, rfl, SL.nil _ _ _, Nat.le_refl _⟩
 replace hm := ite_f hc13 hm
 refine WP.skip (tn (WP.seq (WP.region (V rfl (ov_load_whole (i := 0) isAgg24 sizeOf24 rfl rfl rfl rfl) (Vm rfl ?_)))))
 obtain ⟨r3, e7, hm⟩ := bind_some hm
 refine ws rfl (os_con call54 rfl rfl (fun w' s => (ref16_drawn_con p_s r2 [] ao1 cap1 ao4 cap4 none 0  w' H1 s.hold h1 hc1 h14 hc11 (SL.nil _ _ _) (Nat.le_refl _) hG r3 e7)) (fun rr2 H2 hle2 hR2 => ?_))
 obtain ⟨ao5, cap5, rfl, h20, hc14⟩ := hR2
 refine Va rfl (Va rfl (WL.nil (tn (WP.ret ?_))))
 obtain rfl := Option.some.inj hm
 refine retQ_ret results28 (Res.tmp rfl (Res.tmp rfl Res.nil)) rfl (fun w' s => ⟨s.below, ?_⟩)
 exact ⟨ao5, cap5, rfl, h20.mono s.le_newer, hc14⟩
end Go.Proofs.YtbckcjjffbgidaaGreatDoor.W
