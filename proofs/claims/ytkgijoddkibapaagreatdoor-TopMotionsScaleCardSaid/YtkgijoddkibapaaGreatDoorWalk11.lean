import Derived.Test.YtkgijoddkibapaaGreatDoorPlain
import Derived.Test.YtkgijoddkibapaaGreatDoorEqs
import Derived.Test.YtkgijoddkibapaaGreatDoorProg
import Derived.Test.YtkgijoddkibapaaGreatDoorExt
import Derived.Test.YtkgijoddkibapaaGreatDoorBuild
import Derived.Test.YtkgijoddkibapaaGreatDoorClone
import Derived.Test.YtkgijoddkibapaaGreatDoorWalk3
import Derived.Test.YtkgijoddkibapaaGreatDoorWalk9
import Derived.Test.YtkgijoddkibapaaGreatDoorWalk10
set_option linter.unusedVariables false
set_option maxRecDepth 100000
set_option maxHeartbeats 4000000
namespace Go.Proofs.YtkgijoddkibapaaGreatDoor.W
open Go Go.RowKit Go.Proofs.Tryz
theorem diagram_Scale_con (p_s : Sequence) (p_times : (List Int)) (p_unit : Int) (ao1 : Option Addr) (cap1 : Nat) (ao2 : Option Addr) (cap2 : Nat) (w : World) (H : Heap) (hH : Le H (hp w)) (h1 : SL H encStep ao1 p_s.steps) (hc1 : p_s.steps.length ≤ cap1) (h2 : SL H (encInt .i64) ao2 p_times) (hc2 : p_times.length ≤ cap2) (hG : Glob H) (r : ((List (List UInt8)) × Int)) (hm : diagram_Scale p_s p_times p_unit = some r) :
  Con prog 10 [(.agg #[(.int .i64 p_s.actuators), (.slice ao1 p_s.steps.length cap1)]), (.slice ao2 p_times.length cap2), (.int .i64 p_unit)] w H (fun v H' => ∃ (ao3 : Option Addr) (cap3 : Nat), v = (.tuple #[(.slice ao3 r.1.length cap3), (.int .i64 r.2)]) ∧ SL H' encStr ao3 r.1 ∧ r.1.length ≤ cap3) := by
 unfold diagram_Scale at hm
 refine con_of hH func10 rfl 62 ntmps10 rfl ?_
 refine WP.seq (WP.region ?_)
 refine ws rfl (os_box (cs := [(.int .i64 p_s.actuators), (.slice ao1 p_s.steps.length cap1)]) rfl rfl rfl (fun b1 => ?_))
 refine Va rfl (Va rfl (WL.nil (tn (WP.seq (WP.seq (WP.region (V rfl (ov_load_whole (i := 0) isAgg24 sizeOf24 rfl rfl rfl rfl) ?_)))))))
 obtain ⟨r1, e1, hm⟩ := bind_some hm
 refine wo rfl (oq_con (r := (.int .i64 r1)) call27 rfl rfl (fun w' s => ⟨_, (sequence_Check_con p_s ao1 cap1  w' H s.hold h1 hc1 hG r1 e1)⟩)) ?_
 refine Va rfl (WL.nil (tn (WP.seq (WP.region (Vm rfl (V rfl (ov_neq rfl rfl rfl) (WL.nil (tn ?_))))))))
 refine WP.cond rfl (fun hc4 => ?_) (fun hc4 => ?_)
 ·
  replace hm := ite_t hc4 hm
  refine WP.seq (WP.region (Vm rfl (Va rfl (Va rfl (WL.nil (tn (WP.ret (then_ret ?_))))))))
  obtain rfl := Option.some.inj hm
  refine retQ_ret results10 (Res.tmp rfl (Res.tmp rfl Res.nil)) rfl (fun w' s => ⟨s.below, ?_⟩)
  exact ⟨none, 0, rfl, SL.nil _ _ _, Nat.le_refl _⟩
 replace hm := ite_f hc4 hm
 refine WP.skip (tn (WP.seq (WP.seq (WP.region (Vm rfl (V rfl (ov_len_slice underlying33 rfl rfl) (V rfl (ov_fieldAddr underlying24 rfl rfl rfl sizeOf22 rfl rfl) (Vl 0 isAgg22 rfl (V rfl (ov_len_slice underlying22 rfl rfl) (V rfl (ov_neq rfl rfl rfl) (WL.nil (tn ?_))))))))))))
 refine WP.cond rfl (fun hc5 => ?_) (fun hc5 => ?_)
 ·
  replace hm := ite_t hc5 hm
  refine WP.seq (WP.region (Va rfl (Va rfl (WL.nil (tn (WP.ret (then_ret ?_)))))))
  obtain rfl := Option.some.inj hm
  refine retQ_ret results10 (Res.tmp rfl (Res.tmp rfl Res.nil)) rfl (fun w' s => ⟨s.below, ?_⟩)
  exact ⟨none, 0, rfl, SL.nil _ _ _, Nat.le_refl _⟩
 replace hm := ite_f hc5 hm
 refine WP.skip (tn (WP.seq ?_))
 obtain ⟨k1, hk1, hm⟩ := joinK_some hm
 refine WP.seq_join (fun g' S' => ∃ (c1 : Bool), Sub [(1, (.slice ao2 p_times.length cap2)), (2, (.int .i64 p_unit)), (3, (pB b1 0)), (34, (.bool c1)), (1000000007, (.bool false))] g' ∧ (∀ w', S' w' → St w H [.blk b1 24 [(.int .i64 p_s.actuators), (.slice ao1 p_s.steps.length cap1)]] H w') ∧ k1 c1 = some r) ?_ ?_
 ·
  refine WP.region (Vm rfl ?_)
  refine ws rfl (os_inline (cap := []) (vs := [(.slice ao2 p_times.length cap2), (.func (.func 29) #[] #[])]) call28 rfl rfl rfl func28 rfl 9 ntmps28 rfl (fun w' s => ?_))
  refine WP.seq (WP.region (Va rfl (WL.nil (tn (WP.seq (WP.region (Vm rfl (Vm rfl ?_))))))))
  refine ws rfl (os_inline (cap := []) (vs := [(.slice ao2 p_times.length cap2), (.func (.func 29) #[] #[])]) call48 rfl rfl rfl func48 rfl 19 ntmps48 rfl (fun w' s => ?_))
  refine WP.seq (WP.region (Va rfl (WL.nil (tn ?_))))
  obtain ⟨k2, hk2, hm⟩ := joinK_some hm
  refine WP.seq_join (fun g' S' => Sub [(1000000007, (.bool false))] g' ∧ (∀ w', S' w' → St w H [.blk b1 24 [(.int .i64 p_s.actuators), (.slice ao1 p_s.steps.length cap1)]] H w') ∧ k2 = some r) ?_ ?_
  ·
   refine WP.seq (WP.region (Vm rfl (V rfl (ov_len_slice underlying33 rfl rfl) (Vm rfl (WL.nil (tn (WP.block ?_)))))))
   refine WP.loop (fun m1 g' S' => ∃ (i1 : Int), Sub [(0, (.slice ao2 p_times.length cap2)), (1, (.func (.func 29) #[] #[])), (7, (.int .i64 (p_times.length : Int))), (8, (.int .i64 i1)), (1000000007, (.bool false))] g' ∧ (∀ w', S' w' → St w H [.blk b1 24 [(.int .i64 p_s.actuators), (.slice ao1 p_s.steps.length cap1)]] H w') ∧ diagram_Scale_loop1 p_times k1 k2 p_unit m1 i1 = some r) ((Int.toNat ((p_times.length : Int) - 0) + 1)) ⟨0, (Sub.all rfl), fun w' s => s, hm⟩ ?_ ?_
   ·
    rintro g' S' ⟨_, _, _, hm⟩
    exact none_some hm
   rintro m1 g' S' ⟨i1, hsub1, hS1, hm⟩
   refine WP.sub hsub1 (WP.weaken hS1 ?_)
   rw [diagram_Scale_loop1] at hm
   refine WP.seq (WP.region (V rfl (ov_lss rfl rfl rfl) (WL.nil (tn (WP.seq ?_)))))
   refine WP.cond rfl (fun hc6 => ?_) (fun hc6 => ?_)
   ·
    replace hm := ite_t hc6 hm
    refine WP.skip (tn (WP.seq (WP.block (WP.seq (WP.region (Vm rfl (Va rfl (WL.nil (tn (WP.seq (WP.region (Vm rfl (Vm rfl ?_)))))))))))))
    refine Vm rfl ?_
    obtain ⟨x1, e2, hm⟩ := bind_some hm
    obtain ⟨h4, h5, h6, cs1, h7, h8⟩ := h2.get e2 (by decide)
    obtain rfl : cs1 = [(.int .i64 x1)] := h7
    refine V rfl (ov_indexAddr underlying33 sizeOf3 rfl rfl rfl h4 h5 h6) (V rfl (ov_load_elem (v := (.int .i64 x1)) isAgg3 rfl rfl h8) ?_)
    refine ws rfl (os_inline (cap := []) (vs := [(.int .i64 x1)]) call29 rfl rfl rfl func29 rfl 9 ntmps29 rfl (fun w' s => ?_))
    refine WP.seq (WP.region (Va rfl (WL.nil (tn (WP.seq (WP.region (Vm rfl (V rfl (ov_lss rfl rfl rfl) (Vm rfl ?_)))))))))
    refine WL.cut_bool 3 8 (x := ((decide (x1 < 0)) || (decide (x1 > 1000000)))) ?_ ?_
    ·
     rcases Bool.eq_false_or_eq_true (decide (x1 < 0)) with hc7 | hc7
     ·
      refine Vi rfl (Idle.no rfl rfl rfl hc7) (Vi rfl (Idle.no rfl rfl rfl hc7) (V rfl (ov_pick_true rfl (guard_eq rfl hc7) rfl) ?_))
      exact WL.nil ⟨Sub.cons' rfl (congrArg Value.bool (orT hc7)) (Sub.dropn 3 rfl), fun _ s => s⟩
     refine wy hc7 rfl (ov_move rfl rfl) ?_
     refine wy hc7 rfl (ov_gtr rfl rfl rfl) ?_
     refine V rfl (ov_pick_false rfl (guard_eq rfl hc7) rfl) ?_
     exact WL.nil ⟨Sub.cons' rfl (congrArg Value.bool (orF hc7)) (Sub.dropn 3 rfl), fun _ s => s⟩
    refine Va rfl (WL.nil (tn (WP.ret ?_)))
    refine retQ_ret (v := (.bool ((decide (x1 < 0)) || (decide (x1 > 1000000))))) results29 (Res.tmp rfl Res.nil) rfl (fun w' s => ⟨_, ?_, s⟩)
    refine WL.nil (tn ?_)
    refine WP.cond rfl (fun hc8 => ?_) (fun hc8 => ?_)
    ·
     replace hm := ite_t hc8 hm
     refine WP.seq (WP.region (Vm rfl (Va rfl (WL.nil (tn (WP.ret (block_ret (then_ret (then_ret (block_ret (then_ret ?_)))))))))))
     refine retQ_ret (v := (.int .i64 i1)) results48 (Res.tmp rfl Res.nil) rfl (fun w' s => ⟨_, ?_, s⟩)
     refine V rfl (ov_geq rfl rfl rfl) (Va rfl (WL.nil (tn (WP.ret ?_))))
     refine retQ_ret (v := (.bool (decide (i1 ≥ 0)))) results28 (Res.tmp rfl Res.nil) rfl (fun w' s => ⟨_, ?_, s⟩)
     refine Vm rfl ?_
     refine WL.cut_bool 3 30 (x := ((decide (i1 ≥ 0)) || (decide (p_unit < 1)))) ?_ ?_
     ·
      rcases Bool.eq_false_or_eq_true (decide (i1 ≥ 0)) with hc9 | hc9
      ·
       refine Vi rfl (Idle.no rfl rfl rfl hc9) (Vi rfl (Idle.no rfl rfl rfl hc9) (V rfl (ov_pick_true rfl (guard_eq rfl hc9) rfl) ?_))
       exact WL.nil ⟨Sub.cons' rfl (congrArg Value.bool (orT hc9)) (Sub.dropn 3 rfl), fun _ s => s⟩
      refine wy hc9 rfl (ov_move rfl rfl) ?_
      refine wy hc9 rfl (ov_lss rfl rfl rfl) ?_
      refine V rfl (ov_pick_false rfl (guard_eq rfl hc9) rfl) ?_
      exact WL.nil ⟨Sub.cons' rfl (congrArg Value.bool (orF hc9)) (Sub.dropn 3 rfl), fun _ s => s⟩
     refine Vm rfl ?_
     refine WL.cut_bool 3 34 (x := (((decide (i1 ≥ 0)) || (decide (p_unit < 1))) || (decide (p_unit > 1000000)))) ?_ ?_
     ·
      rcases Bool.eq_false_or_eq_true ((decide (i1 ≥ 0)) || (decide (p_unit < 1))) with hc10 | hc10
      ·
       refine Vi rfl (Idle.no rfl rfl rfl hc10) (Vi rfl (Idle.no rfl rfl rfl hc10) (V rfl (ov_pick_true rfl (guard_eq rfl hc10) rfl) ?_))
       exact WL.nil ⟨Sub.cons' rfl (congrArg Value.bool (orT hc10)) (Sub.dropn 3 rfl), fun _ s => s⟩
      refine wy hc10 rfl (ov_move rfl rfl) ?_
      refine wy hc10 rfl (ov_gtr rfl rfl rfl) ?_
      refine V rfl (ov_pick_false rfl (guard_eq rfl hc10) rfl) ?_
      exact WL.nil ⟨Sub.cons' rfl (congrArg Value.bool (orF hc10)) (Sub.dropn 3 rfl), fun _ s => s⟩
     refine WL.nil (tn ?_)
     exact ⟨(((decide (i1 ≥ 0)) || (decide (p_unit < 1))) || (decide (p_unit > 1000000))), (Sub.all rfl), fun w' s => s, hm⟩
    replace hm := ite_f hc8 hm
    refine WP.skip (bn (tn (WP.region (V rfl (ov_add rfl rfl rfl) (Vm rfl (WL.nil (tn ?_)))))))
    exact ⟨(IntKind.wrap .i64 (i1 + 1)), (Sub.all rfl), fun w' s => s, hm⟩
   replace hm := ite_f hc6 hm
   refine WP.exit (then_exit (then_exit (block_here (tn ?_))))
   exact ⟨(Sub.all rfl), fun w' s => s, hm⟩
  rintro g' S' ⟨hsub2, hS2, hm⟩
  refine WP.sub hsub2 (WP.weaken hS2 ?_)
  replace hm := hk2.symm.trans hm
  refine WP.seq (WP.region (Va rfl (WL.nil (tn (WP.ret ?_)))))
  refine retQ_ret (v := (.int .i64 (-1))) results48 (Res.tmp rfl Res.nil) rfl (fun w' s => ⟨_, ?_, s⟩)
  refine V rfl (ov_geq rfl rfl rfl) (Va rfl (WL.nil (tn (WP.ret ?_))))
  refine retQ_ret (v := (.bool (decide (((-1) : Int) ≥ 0)))) results28 (Res.tmp rfl Res.nil) rfl (fun w' s => ⟨_, ?_, s⟩)
  refine Vm rfl ?_
  refine WL.cut_bool 3 30 (x := ((decide (((-1) : Int) ≥ 0)) || (decide (p_unit < 1)))) ?_ ?_
  ·
   rcases Bool.eq_false_or_eq_true (decide (((-1) : Int) ≥ 0)) with hc11 | hc11
   ·
    refine Vi rfl (Idle.no rfl rfl rfl hc11) (Vi rfl (Idle.no rfl rfl rfl hc11) (V rfl (ov_pick_true rfl (guard_eq rfl hc11) rfl) ?_))
    exact WL.nil ⟨Sub.cons' rfl (congrArg Value.bool (orT hc11)) (Sub.dropn 3 rfl), fun _ s => s⟩
   refine wy hc11 rfl (ov_move rfl rfl) ?_
   refine wy hc11 rfl (ov_lss rfl rfl rfl) ?_
   refine V rfl (ov_pick_false rfl (guard_eq rfl hc11) rfl) ?_
   exact WL.nil ⟨Sub.cons' rfl (congrArg Value.bool (orF hc11)) (Sub.dropn 3 rfl), fun _ s => s⟩
  refine Vm rfl ?_
  refine WL.cut_bool 3 34 (x := (((decide (((-1) : Int) ≥ 0)) || (decide (p_unit < 1))) || (decide (p_unit > 1000000)))) ?_ ?_
  ·
   rcases Bool.eq_false_or_eq_true ((decide (((-1) : Int) ≥ 0)) || (decide (p_unit < 1))) with hc12 | hc12
   ·
    refine Vi rfl (Idle.no rfl rfl rfl hc12) (Vi rfl (Idle.no rfl rfl rfl hc12) (V rfl (ov_pick_true rfl (guard_eq rfl hc12) rfl) ?_))
    exact WL.nil ⟨Sub.cons' rfl (congrArg Value.bool (orT hc12)) (Sub.dropn 3 rfl), fun _ s => s⟩
   refine wy hc12 rfl (ov_move rfl rfl) ?_
   refine wy hc12 rfl (ov_gtr rfl rfl rfl) ?_
   refine V rfl (ov_pick_false rfl (guard_eq rfl hc12) rfl) ?_
   exact WL.nil ⟨Sub.cons' rfl (congrArg Value.bool (orF hc12)) (Sub.dropn 3 rfl), fun _ s => s⟩
  refine WL.nil (tn ?_)
  exact ⟨(((decide (((-1) : Int) ≥ 0)) || (decide (p_unit < 1))) || (decide (p_unit > 1000000))), (Sub.all rfl), fun w' s => s, hm⟩
 rintro g' S' ⟨c1, hsub3, hS3, hm⟩
 refine WP.sub hsub3 (WP.weaken hS3 ?_)
 replace hm := (congrFun hk1 c1).symm.trans hm
 refine WP.cond rfl (fun hc13 => ?_) (fun hc13 => ?_)
 ·
  replace hm := ite_t hc13 hm
  refine WP.seq (WP.region (Va rfl (Va rfl (WL.nil (tn (WP.ret (then_ret ?_)))))))
  obtain rfl := Option.some.inj hm
  refine retQ_ret results10 (Res.tmp rfl (Res.tmp rfl Res.nil)) rfl (fun w' s => ⟨s.below, ?_⟩)
  exact ⟨none, 0, rfl, SL.nil _ _ _, Nat.le_refl _⟩
 replace hm := ite_f hc13 hm
 refine WP.skip (tn (WP.seq (WP.region (Va rfl (WL.nil (tn (WP.seq (WP.region (Va rfl (WL.nil (tn ?_)))))))))))
 obtain ⟨k3, hk3, hm⟩ := joinK_some hm
 refine WP.seq_join (fun g' S' => ∃ (i4 : Int) (l3 : (List Int)) (ao6 : Option Addr) (cap6 : Nat) (xs2 : List Value), RL H (encInt .i64) l3 xs2 ∧ Sub [(3, (pB b1 0)), (9, (.slice ao6 l3.length cap6)), (10, (.int .i64 i4)), (1000000007, (.bool false))] g' ∧ (∀ w', S' w' → St w H [.row 3 ((encInt .i64)).size l3.length (.slice ao6 l3.length cap6) xs2, .blk b1 24 [(.int .i64 p_s.actuators), (.slice ao1 p_s.steps.length cap1)]] H w') ∧ k3 i4 l3 = some r) ?_ ?_
 ·
  refine WP.seq (WP.region (Vm rfl (V rfl (ov_len_slice underlying33 rfl rfl) (Vm rfl (WL.nil (tn (WP.block ?_)))))))
  have rl1 := RL.nil (α := Int) H (encInt .i64)
  refine WP.weaken (fun _ s => s.nilrow 3 ((encInt .i64)).size) ?_
  refine WP.loop (fun m2 g' S' => ∃ (i2 : Int) (i3 : Int) (l1 : (List Int)) (ao4 : Option Addr) (cap4 : Nat) (xs1 : List Value), RL H (encInt .i64) l1 xs1 ∧ Sub [(2, (.int .i64 p_unit)), (3, (pB b1 0)), (9, (.slice ao4 l1.length cap4)), (10, (.int .i64 i2)), (35, (.slice ao2 p_times.length cap2)), (36, (.int .i64 (p_times.length : Int))), (37, (.int .i64 i3)), (1000000007, (.bool false))] g' ∧ (∀ w', S' w' → St w H [.row 3 ((encInt .i64)).size l1.length (.slice ao4 l1.length cap4) xs1, .blk b1 24 [(.int .i64 p_s.actuators), (.slice ao1 p_s.steps.length cap1)]] H w') ∧ diagram_Scale_loop2 p_times p_unit k3 m2 i2 i3 l1 = some r) ((Int.toNat ((p_times.length : Int) - 0) + 1)) ⟨3, 0, ([] : List Int), none, 0, [], rl1, (Sub.all rfl), fun w' s => s, hm⟩ ?_ ?_
  ·
   rintro g' S' ⟨_, _, _, _, _, _, _, _, _, hm⟩
   exact none_some hm
  rintro m2 g' S' ⟨i2, i3, l1, ao4, cap4, xs1, rl2, hsub4, hS4, hm⟩
  refine WP.sub hsub4 (WP.weaken hS4 ?_)
  rw [diagram_Scale_loop2] at hm
  refine WP.seq (WP.region (V rfl (ov_lss rfl rfl rfl) (WL.nil (tn (WP.seq ?_)))))
  refine WP.cond rfl (fun hc14 => ?_) (fun hc14 => ?_)
  ·
   replace hm := ite_t hc14 hm
   refine WP.skip (tn (WP.seq (WP.block (WP.seq (WP.region ?_)))))
   obtain ⟨x2, e3, hm⟩ := bind_some hm
   obtain ⟨h9, h10, h11, cs2, h12, h13⟩ := h2.get e3 (by decide)
   obtain rfl : cs2 = [(.int .i64 x2)] := h12
   refine V rfl (ov_indexAddr underlying33 sizeOf3 rfl rfl rfl h9 h10 h11) (V rfl (ov_load_elem (v := (.int .i64 x2)) isAgg3 rfl rfl h13) (Va rfl (WL.nil (tn (WP.seq (WP.region (Vm rfl (Vm rfl (V rfl (ov_add rfl rfl rfl) (V rfl (ov_sub rfl rfl rfl) (Vm rfl ?_)))))))))))
   obtain ⟨u1, e4, hm⟩ := bind_some hm
   replace e4 := guardO_some e4
   refine V rfl (ov_quo rfl rfl rfl (by simpa using e4)) (V rfl (ov_max rfl rfl rfl) (Va rfl (WL.nil (tn (WP.seq (WP.region (Vm rfl (Vm rfl ?_))))))))
   have rl3 : RL H (encInt .i64) ([(if (IntKind.wrap .i64 (Int.tdiv (IntKind.wrap .i64 ((IntKind.wrap .i64 (x2 + p_unit)) - 1)) p_unit)) > 1 then (IntKind.wrap .i64 (Int.tdiv (IntKind.wrap .i64 ((IntKind.wrap .i64 (x2 + p_unit)) - 1)) p_unit)) else 1)] : List Int) [(.int .i64 (if (IntKind.wrap .i64 (Int.tdiv (IntKind.wrap .i64 ((IntKind.wrap .i64 (x2 + p_unit)) - 1)) p_unit)) > 1 then (IntKind.wrap .i64 (Int.tdiv (IntKind.wrap .i64 ((IntKind.wrap .i64 (x2 + p_unit)) - 1)) p_unit)) else 1))] := RL.cons (cs := [(.int .i64 (if (IntKind.wrap .i64 (Int.tdiv (IntKind.wrap .i64 ((IntKind.wrap .i64 (x2 + p_unit)) - 1)) p_unit)) > 1 then (IntKind.wrap .i64 (Int.tdiv (IntKind.wrap .i64 ((IntKind.wrap .i64 (x2 + p_unit)) - 1)) p_unit)) else 1))]) (xs := []) rfl (RL.nil _ _)
   refine ws rfl (os_buildSlice (cs := [(.int .i64 (if (IntKind.wrap .i64 (Int.tdiv (IntKind.wrap .i64 ((IntKind.wrap .i64 (x2 + p_unit)) - 1)) p_unit)) > 1 then (IntKind.wrap .i64 (Int.tdiv (IntKind.wrap .i64 ((IntKind.wrap .i64 (x2 + p_unit)) - 1)) p_unit)) else 1))]) (E := 3) (sz := 1) rfl rfl (fun _ => by kernel_rfl) rfl (by decide) (fun b2 => ?_))
   obtain ⟨l2, e5, hm⟩ := bind_some hm
   refine ws rfl (os_app (i := 1) (j := 0) (En := (encInt .i64)) (xs := xs1) (ys := [(.int .i64 (if (IntKind.wrap .i64 (Int.tdiv (IntKind.wrap .i64 ((IntKind.wrap .i64 (x2 + p_unit)) - 1)) p_unit)) > 1 then (IntKind.wrap .i64 (Int.tdiv (IntKind.wrap .i64 ((IntKind.wrap .i64 (x2 + p_unit)) - 1)) p_unit)) else 1))]) underlying33 (by kernel_rfl : (prog.info? 3).map (fun i => (i.zero, i.size, i.bytes)) = some (some (.int .i64 0), ((encInt .i64)).size, 8)) rfl (by decide) rfl rfl rfl rfl rfl rfl rl2 rl3 e5 (fun ao5 cap5 rl4 => ?_))
   refine Va rfl (WL.nil (tn (WP.region (Vm rfl (Vm rfl (V rfl (ov_add rfl rfl rfl) (V rfl (ov_add rfl rfl rfl) (Va rfl (WL.nil (bn (tn (WP.region (V rfl (ov_add rfl rfl rfl) ?_)))))))))))))
   refine Vm rfl (WL.nil (tn ?_))
   exact ⟨(IntKind.wrap .i64 (i2 + (IntKind.wrap .i64 ((if (IntKind.wrap .i64 (Int.tdiv (IntKind.wrap .i64 ((IntKind.wrap .i64 (x2 + p_unit)) - 1)) p_unit)) > 1 then (IntKind.wrap .i64 (Int.tdiv (IntKind.wrap .i64 ((IntKind.wrap .i64 (x2 + p_unit)) - 1)) p_unit)) else 1) + 1)))), (IntKind.wrap .i64 (i3 + 1)), (l1 ++ ([(if (IntKind.wrap .i64 (Int.tdiv (IntKind.wrap .i64 ((IntKind.wrap .i64 (x2 + p_unit)) - 1)) p_unit)) > 1 then (IntKind.wrap .i64 (Int.tdiv (IntKind.wrap .i64 ((IntKind.wrap .i64 (x2 + p_unit)) - 1)) p_unit)) else 1)] : List Int)), ao5, cap5, (xs1 ++ [(.int .i64 (if (IntKind.wrap .i64 (Int.tdiv (IntKind.wrap .i64 ((IntKind.wrap .i64 (x2 + p_unit)) - 1)) p_unit)) > 1 then (IntKind.wrap .i64 (Int.tdiv (IntKind.wrap .i64 ((IntKind.wrap .i64 (x2 + p_unit)) - 1)) p_unit)) else 1))]), rl4, (Sub.all rfl), fun w' s => (s.select [1, 2] (by decide) rfl), hm⟩
  replace hm := ite_f hc14 hm
  refine WP.exit (then_exit (then_exit (block_here (tn ?_))))
  exact ⟨i2, l1, ao4, cap4, xs1, rl2, (Sub.all rfl), fun w' s => s, hm⟩
 rintro g' S' ⟨i4, l3, ao6, cap6, xs2, rl5, hsub5, hS5, hm⟩
 refine WP.sub hsub5 (WP.weaken hS5 ?_)
 replace hm := (congrFun (congrFun hk3 i4) l3).symm.trans hm
 refine WP.seq (WP.seq (WP.region (Vm rfl (V rfl (ov_gtr rfl rfl rfl) (WL.nil (tn ?_))))))
 refine WP.cond rfl (fun hc15 => ?_) (fun hc15 => ?_)
 ·
  replace hm := ite_t hc15 hm
  refine WP.seq (WP.region (Va rfl (Va rfl (WL.nil (tn (WP.ret (then_ret ?_)))))))
  obtain rfl := Option.some.inj hm
  refine retQ_ret results10 (Res.tmp rfl (Res.tmp rfl Res.nil)) rfl (fun w' s => ⟨s.below, ?_⟩)
  exact ⟨none, 0, rfl, SL.nil _ _ _, Nat.le_refl _⟩
 replace hm := ite_f hc15 hm
 refine WP.skip (tn (WP.seq (WP.region (V rfl (ov_load_whole (i := 1) isAgg24 sizeOf24 rfl rfl rfl rfl) (Vm rfl ?_)))))
 refine WL.held rl5 (fun H1 hc16 hle1 h14 => ?_)
 replace h1 := h1.mono hle1
 replace hG := hG.mono hle1
 obtain ⟨r2, e6, hm⟩ := bind_some hm
 refine ws rfl (os_con call30 rfl rfl (fun w' s => (diagram_stretched_con p_s l3 ao1 cap1 ao6 cap6  w' H1 s.hold h1 hc1 h14 hc16 hG r2 e6)) (fun rr1 H2 hle2 hR1 => ?_))
 obtain ⟨ao7, cap7, rfl, h15, hc17⟩ := hR1
 refine Va rfl (Va rfl (WL.nil (tn (WP.ret ?_))))
 obtain rfl := Option.some.inj hm
 refine retQ_ret results10 (Res.tmp rfl (Res.tmp rfl Res.nil)) rfl (fun w' s => ⟨s.below, ?_⟩)
 exact ⟨ao7, cap7, rfl, h15.mono s.le_newer, hc17⟩
theorem slices_IndexFunc_stringstring_diagram_given_1_con (p_s : (List (List UInt8))) (ao1 : Option Addr) (cap1 : Nat) (w : World) (H : Heap) (hH : Le H (hp w)) (h1 : SL H encStr ao1 p_s) (hc1 : p_s.length ≤ cap1) (hG : Glob H) (r : Int) (hm : slices_IndexFunc_stringstring_diagram_given_1 p_s = some r) :
  Con prog 92 [(.slice ao1 p_s.length cap1), (.func (.func 55) #[] #[])] w H (fun v _ => v = (.int .i64 r)) := by
 unfold slices_IndexFunc_stringstring_diagram_given_1 at hm
 refine con_of hH func92 rfl 19 ntmps92 rfl ?_
 refine WP.seq (WP.region (Va rfl (WL.nil (tn ?_))))
 obtain ⟨k1, hk1, hm⟩ := joinK_some hm
 refine WP.seq_join (fun g' S' => Sub [(1000000007, (.bool false))] g' ∧ (∀ w', S' w' → St w H [] H w') ∧ k1 = some r) ?_ ?_
 ·
  refine WP.seq (WP.region (Vm rfl (V rfl (ov_len_slice underlying41 rfl rfl) (Vm rfl (WL.nil (tn (WP.block ?_)))))))
  refine WP.loop (fun m1 g' S' => ∃ (i1 : Int), Sub [(0, (.slice ao1 p_s.length cap1)), (1, (.func (.func 55) #[] #[])), (7, (.int .i64 (p_s.length : Int))), (8, (.int .i64 i1)), (1000000007, (.bool false))] g' ∧ (∀ w', S' w' → St w H [] H w') ∧ slices_IndexFunc_stringstring_diagram_given_1_loop1 p_s k1 m1 i1 = some r) ((Int.toNat ((p_s.length : Int) - 0) + 1)) ⟨0, (Sub.all rfl), fun w' s => s, hm⟩ ?_ ?_
  ·
   rintro g' S' ⟨_, _, _, hm⟩
   exact none_some hm
  rintro m1 g' S' ⟨i1, hsub1, hS1, hm⟩
  refine WP.sub hsub1 (WP.weaken hS1 ?_)
  rw [slices_IndexFunc_stringstring_diagram_given_1_loop1] at hm
  refine WP.seq (WP.region (V rfl (ov_lss rfl rfl rfl) (WL.nil (tn (WP.seq ?_)))))
  refine WP.cond rfl (fun hc2 => ?_) (fun hc2 => ?_)
  ·
   replace hm := ite_t hc2 hm
   refine WP.skip (tn (WP.seq (WP.block (WP.seq (WP.region (Vm rfl (Va rfl (WL.nil (tn (WP.seq (WP.region (Vm rfl (Vm rfl ?_)))))))))))))
   refine Vm rfl ?_
   obtain ⟨x1, e1, hm⟩ := bind_some hm
   obtain ⟨h2, h3, h4, cs1, h5, h6⟩ := h1.get e1 (by decide)
   obtain rfl : cs1 = [(mkS x1)] := h5
   refine V rfl (ov_indexAddr underlying41 sizeOf9 rfl rfl rfl h2 h3 h4) (V rfl (ov_load_elem (v := (mkS x1)) isAgg9 rfl rfl h6) ?_)
   refine ws rfl (os_inline (cap := []) (vs := [(mkS x1)]) call55 rfl rfl rfl func55 rfl 6 ntmps55 rfl (fun w' s => ?_))
   refine WP.seq (WP.region (Va rfl (WL.nil (tn (WP.seq (WP.region (Vm rfl (V rfl (ov_len_string underlying9 rfl rfl) (V rfl (ov_gtr rfl rfl rfl) (Va rfl (WL.nil (tn (WP.ret ?_)))))))))))))
   refine retQ_ret (v := (.bool (decide ((x1.length : Int) > 4096)))) results55 (Res.tmp rfl Res.nil) rfl (fun w' s => ⟨_, ?_, s⟩)
   refine WL.nil (tn ?_)
   refine WP.cond rfl (fun hc3 => ?_) (fun hc3 => ?_)
   ·
    replace hm := ite_t hc3 hm
    refine WP.seq (WP.region (Vm rfl (Va rfl (WL.nil (tn (WP.ret (block_ret (then_ret (then_ret (block_ret (then_ret ?_)))))))))))
    obtain rfl := Option.some.inj hm
    refine retQ_ret results92 (Res.tmp rfl Res.nil) rfl (fun w' s => ⟨s.below, ?_⟩)
    exact rfl
   replace hm := ite_f hc3 hm
   refine WP.skip (bn (tn (WP.region (V rfl (ov_add rfl rfl rfl) (Vm rfl (WL.nil (tn ?_)))))))
   exact ⟨(IntKind.wrap .i64 (i1 + 1)), (Sub.all rfl), fun w' s => s, hm⟩
  replace hm := ite_f hc2 hm
  refine WP.exit (then_exit (then_exit (block_here (tn ?_))))
  exact ⟨(Sub.all rfl), fun w' s => s, hm⟩
 rintro g' S' ⟨hsub2, hS2, hm⟩
 refine WP.sub hsub2 (WP.weaken hS2 ?_)
 replace hm := hk1.symm.trans hm
 refine WP.seq (WP.region (Va rfl (WL.nil (tn (WP.ret ?_)))))
 obtain rfl := Option.some.inj hm
 refine retQ_ret results92 (Res.tmp rfl Res.nil) rfl (fun w' s => ⟨s.below, ?_⟩)
 exact rfl
theorem slices_ContainsFunc_stringstring_diagram_given_1_con (p_s : (List (List UInt8))) (ao1 : Option Addr) (cap1 : Nat) (w : World) (H : Heap) (hH : Le H (hp w)) (h1 : SL H encStr ao1 p_s) (hc1 : p_s.length ≤ cap1) (hG : Glob H) (r : Bool) (hm : slices_ContainsFunc_stringstring_diagram_given_1 p_s = some r) :
  Con prog 54 [(.slice ao1 p_s.length cap1), (.func (.func 55) #[] #[])] w H (fun v _ => v = (.bool r)) := by
 unfold slices_ContainsFunc_stringstring_diagram_given_1 at hm
 refine con_of hH func54 rfl 9 ntmps54 rfl ?_
 refine WP.seq (WP.region (Va rfl (WL.nil (tn (WP.seq (WP.region (Vm rfl (Vm rfl ?_))))))))
 obtain ⟨r1, e1, hm⟩ := bind_some hm
 refine wo rfl (oq_con (r := (.int .i64 r1)) call92 rfl rfl (fun w' s => ⟨_, (slices_IndexFunc_stringstring_diagram_given_1_con p_s ao1 cap1  w' H s.hold h1 hc1 hG r1 e1)⟩)) ?_
 refine V rfl (ov_geq rfl rfl rfl) (Va rfl (WL.nil (tn (WP.ret ?_))))
 obtain rfl := Option.some.inj hm
 refine retQ_ret results54 (Res.tmp rfl Res.nil) rfl (fun w' s => ⟨s.below, ?_⟩)
 exact rfl
theorem diagram_given_con (p_l : (List (List UInt8))) (p_most : Int) (ao1 : Option Addr) (cap1 : Nat) (w : World) (H : Heap) (hH : Le H (hp w)) (h1 : SL H encStr ao1 p_l) (hc1 : p_l.length ≤ cap1) (hG : Glob H) (r : Int) (hm : diagram_given p_l p_most = some r) :
  Con prog 31 [(.slice ao1 p_l.length cap1), (.int .i64 p_most)] w H (fun v _ => v = (.int .i64 r)) := by
 unfold diagram_given at hm
 refine con_of hH func31 rfl 11 ntmps31 rfl ?_
 refine WP.seq (WP.region (Va rfl (WL.nil (tn (WP.seq (WP.seq (WP.region (Vm rfl (V rfl (ov_len_slice underlying41 rfl rfl) (Vm rfl (V rfl (ov_gtr rfl rfl rfl) (WL.nil (tn ?_)))))))))))))
 refine WP.cond rfl (fun hc2 => ?_) (fun hc2 => ?_)
 ·
  replace hm := ite_t hc2 hm
  refine WP.seq (WP.region (Va rfl (WL.nil (tn (WP.ret (then_ret ?_))))))
  obtain rfl := Option.some.inj hm
  refine retQ_ret results31 (Res.tmp rfl Res.nil) rfl (fun w' s => ⟨s.below, ?_⟩)
  exact rfl
 replace hm := ite_f hc2 hm
 refine WP.skip (tn (WP.seq (WP.seq (WP.region (Vm rfl ?_)))))
 obtain ⟨r1, e1, hm⟩ := bind_some hm
 refine wo rfl (oq_con (r := (.bool r1)) call54 rfl rfl (fun w' s => ⟨_, (slices_ContainsFunc_stringstring_diagram_given_1_con p_l ao1 cap1  w' H s.hold h1 hc1 hG r1 e1)⟩)) ?_
 refine WL.nil (tn ?_)
 refine WP.cond rfl (fun hc3 => ?_) (fun hc3 => ?_)
 ·
  replace hm := ite_t hc3 hm
  refine WP.seq (WP.region (Va rfl (WL.nil (tn (WP.ret (then_ret ?_))))))
  obtain rfl := Option.some.inj hm
  refine retQ_ret results31 (Res.tmp rfl Res.nil) rfl (fun w' s => ⟨s.below, ?_⟩)
  exact rfl
 replace hm := ite_f hc3 hm
 refine WP.skip (tn (WP.seq (WP.region (Va rfl (WL.nil (tn (WP.ret ?_)))))))
 obtain rfl := Option.some.inj hm
 refine retQ_ret results31 (Res.tmp rfl Res.nil) rfl (fun w' s => ⟨s.below, ?_⟩)
 exact rfl
theorem slices_Index_bytebyte_con (p_s : (List Int)) (p_v : Int) (ao1 : Option Addr) (cap1 : Nat) (w : World) (H : Heap) (hH : Le H (hp w)) (h1 : SL H (encInt .u8) ao1 p_s) (hc1 : p_s.length ≤ cap1) (hG : Glob H) (r : Int) (hm : slices_Index_bytebyte p_s p_v = some r) :
  Con prog 56 [(.slice ao1 p_s.length cap1), (.int .u8 p_v)] w H (fun v _ => v = (.int .i64 r)) := by
 unfold slices_Index_bytebyte at hm
 refine con_of hH func56 rfl 19 ntmps56 rfl ?_
 refine WP.seq (WP.region (Va rfl (WL.nil (tn ?_))))
 obtain ⟨k1, hk1, hm⟩ := joinK_some hm
 refine WP.seq_join (fun g' S' => Sub [(1000000007, (.bool false))] g' ∧ (∀ w', S' w' → St w H [] H w') ∧ k1 = some r) ?_ ?_
 ·
  refine WP.seq (WP.region (Vm rfl (V rfl (ov_len_slice underlying123 rfl rfl) (Vm rfl (WL.nil (tn (WP.block ?_)))))))
  refine WP.loop (fun m1 g' S' => ∃ (i1 : Int), Sub [(0, (.slice ao1 p_s.length cap1)), (1, (.int .u8 p_v)), (7, (.int .i64 (p_s.length : Int))), (8, (.int .i64 i1)), (1000000007, (.bool false))] g' ∧ (∀ w', S' w' → St w H [] H w') ∧ slices_Index_bytebyte_loop1 p_s p_v k1 m1 i1 = some r) ((Int.toNat ((p_s.length : Int) - 0) + 1)) ⟨0, (Sub.all rfl), fun w' s => s, hm⟩ ?_ ?_
  ·
   rintro g' S' ⟨_, _, _, hm⟩
   exact none_some hm
  rintro m1 g' S' ⟨i1, hsub1, hS1, hm⟩
  refine WP.sub hsub1 (WP.weaken hS1 ?_)
  rw [slices_Index_bytebyte_loop1] at hm
  refine WP.seq (WP.region (V rfl (ov_lss rfl rfl rfl) (WL.nil (tn (WP.seq ?_)))))
  refine WP.cond rfl (fun hc2 => ?_) (fun hc2 => ?_)
  ·
   replace hm := ite_t hc2 hm
   refine WP.skip (tn (WP.seq (WP.block (WP.seq (WP.region (Vm rfl (Va rfl (WL.nil (tn (WP.seq (WP.region (Vm rfl (Vm rfl ?_)))))))))))))
   refine Vm rfl ?_
   obtain ⟨x1, e1, hm⟩ := bind_some hm
   obtain ⟨h2, h3, h4, cs1, h5, h6⟩ := h1.get e1 (by decide)
   obtain rfl : cs1 = [(.int .u8 x1)] := h5
   refine V rfl (ov_indexAddr underlying123 sizeOf5 rfl rfl rfl h2 h3 h4) (V rfl (ov_load_elem (v := (.int .u8 x1)) isAgg5 rfl rfl h6) (V rfl (ov_eql rfl rfl rfl) (WL.nil (tn ?_))))
   refine WP.cond rfl (fun hc3 => ?_) (fun hc3 => ?_)
   ·
    replace hm := ite_t hc3 hm
    refine WP.seq (WP.region (Vm rfl (Va rfl (WL.nil (tn (WP.ret (block_ret (then_ret (then_ret (block_ret (then_ret ?_)))))))))))
    obtain rfl := Option.some.inj hm
    refine retQ_ret results56 (Res.tmp rfl Res.nil) rfl (fun w' s => ⟨s.below, ?_⟩)
    exact rfl
   replace hm := ite_f hc3 hm
   refine WP.skip (bn (tn (WP.region (V rfl (ov_add rfl rfl rfl) (Vm rfl (WL.nil (tn ?_)))))))
   exact ⟨(IntKind.wrap .i64 (i1 + 1)), (Sub.all rfl), fun w' s => s, hm⟩
  replace hm := ite_f hc2 hm
  refine WP.exit (then_exit (then_exit (block_here (tn ?_))))
  exact ⟨(Sub.all rfl), fun w' s => s, hm⟩
 rintro g' S' ⟨hsub2, hS2, hm⟩
 refine WP.sub hsub2 (WP.weaken hS2 ?_)
 replace hm := hk1.symm.trans hm
 refine WP.seq (WP.region (Va rfl (WL.nil (tn (WP.ret ?_)))))
 obtain rfl := Option.some.inj hm
 refine retQ_ret results56 (Res.tmp rfl Res.nil) rfl (fun w' s => ⟨s.below, ?_⟩)
 exact rfl
theorem diagram_Unscale_con (p_l : (List (List UInt8))) (ao1 : Option Addr) (cap1 : Nat) (w : World) (H : Heap) (hH : Le H (hp w)) (h1 : SL H encStr ao1 p_l) (hc1 : p_l.length ≤ cap1) (hG : Glob H) (r : (Sequence × (List Int) × Int)) (hm : diagram_Unscale p_l = some r) :
  Con prog 11 [(.slice ao1 p_l.length cap1)] w H (fun v H' => ∃ (ao2 : Option Addr) (cap2 : Nat) (ao3 : Option Addr) (cap3 : Nat), v = (.tuple #[(.agg #[(.int .i64 r.1.actuators), (.slice ao2 r.1.steps.length cap2)]), (.slice ao3 r.2.1.length cap3), (.int .i64 r.2.2)]) ∧ SL H' encStep ao2 r.1.steps ∧ r.1.steps.length ≤ cap2 ∧ SL H' (encInt .i64) ao3 r.2.1 ∧ r.2.1.length ≤ cap3) := by
 unfold diagram_Unscale at hm
 refine con_of hH func11 rfl 86 ntmps11 rfl ?_
 refine WP.seq (WP.region ?_)
 refine ws rfl (os_alloc (cs := [(.int .i64 0), (.slice none 0 0)]) zeroValue24 rfl rfl (fun b1 => ?_))
 refine Va rfl (Va rfl (WL.nil (tn (WP.seq (WP.seq (WP.region (Vm rfl ?_)))))))
 obtain ⟨r1, e1, hm⟩ := bind_some hm
 refine wo rfl (oq_con (r := (.int .i64 r1)) call31 rfl rfl (fun w' s => ⟨_, (diagram_given_con p_l 6 ao1 cap1  w' H s.hold h1 hc1 hG r1 e1)⟩)) ?_
 refine Va rfl (WL.nil (tn (WP.seq (WP.region (Vm rfl (V rfl (ov_neq rfl rfl rfl) (WL.nil (tn ?_))))))))
 refine WP.cond rfl (fun hc4 => ?_) (fun hc4 => ?_)
 ·
  replace hm := ite_t hc4 hm
  refine WP.seq (WP.region (V rfl (ov_build (r := (.agg #[(.int .i64 0), (.slice none 0 0)])) rfl rfl (fun _ => by kernel_rfl)) (Vm rfl ?_)))
  refine ws0 rfl (os_store (i := 0) (vs := [(.int .i64 0), (.slice none 0 0)]) (cs' := [(.int .i64 0), (.slice none 0 0)]) sizeOf24 rfl rfl rfl rfl rfl rfl rfl rfl rfl ?_)
  refine Va rfl (Va rfl (WL.nil (tn (WP.ret (then_ret ?_)))))
  obtain rfl := Option.some.inj hm
  refine retQ_ret results11 (Res.cell rfl (box_loads (i := 0) isAgg24 sizeOf24 rfl rfl) (Res.tmp rfl (Res.tmp rfl Res.nil))) rfl (fun w' s => ⟨s.below, ?_⟩)
  exact ⟨none, 0, none, 0, rfl, SL.nil _ _ _, Nat.le_refl _, SL.nil _ _ _, Nat.le_refl _⟩
 replace hm := ite_f hc4 hm
 refine WP.skip (tn (WP.seq (WP.region (Vm rfl (V rfl (ov_len_slice underlying41 rfl rfl) (V rfl (ov_build (r := (.agg #[(.int .i64 (p_l.length : Int)), (.slice none 0 0)])) rfl rfl (fun _ => by kernel_rfl)) ?_))))))
 refine ws rfl (os_alloc (cs := [(.int .i64 0), (.slice none 0 0)]) zeroValue24 rfl rfl (fun b2 => ?_))
 refine ws0 rfl (os_store (i := 0) (vs := [(.int .i64 (p_l.length : Int)), (.slice none 0 0)]) (cs' := [(.int .i64 (p_l.length : Int)), (.slice none 0 0)]) sizeOf24 rfl rfl rfl rfl rfl rfl rfl rfl rfl ?_)
 refine WL.nil (tn (WP.seq (WP.region (Va rfl (WL.nil (tn ?_))))))
 have rl1 := RL.nil (α := Int) H (encInt .i64)
 refine WP.weaken (fun _ s => s.nilrow 3 ((encInt .i64)).size) ?_
 have rl2 := RL.nil (α := Step) H encStep
 refine WP.weaken (fun _ s => s.nilrow 55 (encStep).size) ?_
 obtain ⟨k1, hk1, hm⟩ := joinK_some hm
 refine WP.seq_join (fun g' S' => ∃ (H4 : Heap) (l10 : (List Int)) (ao13 : Option Addr) (cap13 : Nat) (xs7 : List Value) (l11 : (List Step)) (ao14 : Option Addr) (cap14 : Nat) (xs8 : List Value), Le H H4 ∧ RL H4 (encInt .i64) l10 xs7 ∧ RL H4 encStep l11 xs8 ∧ Sub [(0, (.slice ao1 p_l.length cap1)), (2, (pB b1 0)), (6, (pB b2 0)), (7, (.slice ao13 l10.length cap13)), (1000000007, (.bool false))] g' ∧ (∀ w', S' w' → St w H [.row 55 (encStep).size l11.length (.slice ao14 l11.length cap14) xs8, .row 3 ((encInt .i64)).size l10.length (.slice ao13 l10.length cap13) xs7, .blk b2 24 [(.int .i64 (p_l.length : Int)), (.slice ao14 l11.length cap14)], .blk b1 24 [(.int .i64 0), (.slice none 0 0)]] H4 w') ∧ k1 l10 l11 = some r) ?_ ?_
 ·
  refine WP.seq (WP.region (Vm rfl (V rfl (ov_len_slice underlying41 rfl rfl) (V rfl (ov_gtr rfl rfl rfl) (WL.nil (tn ?_))))))
  refine WP.cond rfl (fun hc5 => ?_) (fun hc5 => ?_)
  ·
   replace hm := ite_t hc5 hm
   refine WP.seq (WP.region (Va rfl (WL.nil (tn (WP.seq (WP.region (Vm rfl ?_)))))))
   obtain ⟨x1, e2, hm⟩ := bind_some hm
   obtain ⟨h4, h5, h6, cs1, h7, h8⟩ := h1.get e2 (by decide)
   obtain rfl : cs1 = [(mkS x1)] := h7
   refine V rfl (ov_indexAddr underlying41 sizeOf9 rfl rfl rfl h4 h5 h6) (V rfl (ov_load_elem (v := (mkS x1)) isAgg9 rfl rfl h8) ?_)
   refine ws rfl (os_range underlying9 rfl rfl (fun b3 => ?_))
   refine WL.nil (tn (WP.block ?_))
   refine WP.loop (fun m1 g' S' => ∃ (H1 : Heap) (i1 : Int) (l1 : (List Int)) (ao4 : Option Addr) (cap4 : Nat) (xs1 : List Value) (n1 : Nat) (l2 : (List Step)) (ao5 : Option Addr) (cap5 : Nat) (xs2 : List Value), Le H H1 ∧ RL H1 (encInt .i64) l1 xs1 ∧ RL H1 encStep l2 xs2 ∧ Sub [(0, (.slice ao1 p_l.length cap1)), (2, (pB b1 0)), (6, (pB b2 0)), (7, (.slice ao4 l1.length cap4)), (8, (.int .i64 i1)), (26, (pB b3 0)), (1000000007, (.bool false))] g' ∧ (∀ w', S' w' → St w H [.obj b3 (iterO x1 n1), .row 55 (encStep).size l2.length (.slice ao5 l2.length cap5) xs2, .row 3 ((encInt .i64)).size l1.length (.slice ao4 l1.length cap4) xs1, .blk b2 24 [(.int .i64 (p_l.length : Int)), (.slice ao5 l2.length cap5)], .blk b1 24 [(.int .i64 0), (.slice none 0 0)]] H1 w') ∧ diagram_Unscale_loop1 p_l k1 x1 m1 i1 l1 n1 l2 = some r) ((x1.length - 0 + 1)) ⟨H, 0, ([] : List Int), none, 0, [], 0, ([] : List Step), none, 0, [], (Le.refl _), rl1, rl2, (Sub.all rfl), fun w' s => s, hm⟩ ?_ ?_
   ·
    rintro g' S' ⟨_, _, _, _, _, _, _, _, _, _, _, _, _, _, _, _, hm⟩
    exact none_some hm
   rintro m1 g' S' ⟨H1, i1, l1, ao4, cap4, xs1, n1, l2, ao5, cap5, xs2, hle1, rl3, rl4, hsub1, hS1, hm⟩
   refine WP.sub hsub1 (WP.weaken hS1 ?_)
   rw [diagram_Unscale_loop1] at hm
   replace h1 := h1.mono hle1
   replace hG := hG.mono hle1
   refine WP.seq (WP.region ?_)
   rcases Bool.eq_false_or_eq_true (decide (n1 < x1.length)) with hc6 | hc6
   ·
    replace hm := ite_t hc6 hm
    refine ws rfl (os_next_t (i := 0) rfl rfl rfl (of_decide_eq_true hc6) ?_)
    refine Ve rfl (WL.nil (tn (WP.seq (WP.cond_true rfl (WP.skip (tn (WP.block (WP.seq (WP.region (Ve rfl (Va rfl (WL.nil (tn ?_)))))))))))))
    refine WP.seq (WP.seq (WP.region (Vm rfl (V rfl (ov_lss rfl rfl rfl) (Vm rfl ?_)))))
    refine WL.cut_bool 5 37 (x := ((decide ((n1 : Int) < 3)) || (decide ((l2.length : Int) > 64)))) ?_ ?_
    ·
     rcases Bool.eq_false_or_eq_true (decide ((n1 : Int) < 3)) with hc7 | hc7
     ·
      refine Vi rfl (Idle.no rfl rfl rfl hc7) (Vi rfl (Idle.no rfl rfl rfl hc7) (Vi rfl (Idle.no rfl rfl rfl hc7) (Vi rfl (Idle.no rfl rfl rfl hc7) (V rfl (ov_pick_true rfl (guard_eq rfl hc7) rfl) ?_))))
      exact WL.nil ⟨Sub.cons' rfl (congrArg Value.bool (orT hc7)) (Sub.dropn 5 rfl), fun _ s => s⟩
     refine wy hc7 rfl (ov_fieldAddr underlying24 rfl rfl rfl sizeOf22 rfl rfl) ?_
     refine wy hc7 rfl (ov_load_box (i := 3) isAgg22 rfl rfl rfl rfl) ?_
     refine wy hc7 rfl (ov_len_slice underlying22 rfl rfl) ?_
     refine wy hc7 rfl (ov_gtr rfl rfl rfl) ?_
     refine V rfl (ov_pick_false rfl (guard_eq rfl hc7) rfl) ?_
     exact WL.nil ⟨Sub.cons' rfl (congrArg Value.bool (orF hc7)) (Sub.dropn 5 rfl), fun _ s => s⟩
    refine WL.nil (tn ?_)
    refine WP.cond rfl (fun hc8 => ?_) (fun hc8 => ?_)
    ·
     replace hm := ite_t hc8 hm
     refine WP.exit (then_exit (block_here (tn ?_)))
     exact ⟨H1, i1, l1, ao4, cap4, xs1, (n1 + (decW x1 n1).2), l2, ao5, cap5, xs2, hle1, rl3, rl4, (Sub.all rfl), fun w' s => s, hm⟩
    replace hm := ite_f hc8 hm
    refine WP.skip (tn (WP.seq (WP.region (V rfl (ov_build (r := (.agg #[(.slice none 0 0), (.int .i64 0)])) rfl rfl (fun _ => by kernel_rfl)) (Vm rfl (Vm rfl ?_))))))
    refine ws rfl (os_inline (cap := []) (vs := [(.agg #[(.slice none 0 0), (.int .i64 0)]), (.slice ao1 p_l.length cap1), (.int .i64 (n1 : Int))]) call32 rfl rfl rfl func32 rfl 39 ntmps32 rfl (fun w' s => ?_))
    refine WP.seq (WP.region ?_)
    refine ws rfl (os_box (cs := [(.slice none 0 0), (.int .i64 0)]) rfl rfl rfl (fun b4 => ?_))
    refine ws rfl (os_alloc (cs := [(.slice none 0 0), (.int .i64 0)]) zeroValue55 rfl rfl (fun b5 => ?_))
    refine WL.nil (tn ?_)
    obtain ⟨k2, hk2, hm⟩ := joinK_some hm
    refine WP.seq_join (fun g' S' => ∃ (l6 : (List Stroke)) (ao9 : Option Addr) (cap9 : Nat) (xs5 : List Value), RL H1 encStroke l6 xs5 ∧ Sub [(3, (pB b4 0)), (6, (pB b5 0)), (1000000007, (.bool false))] g' ∧ (∀ w', S' w' → St w H [.row 59 (encStroke).size l6.length (.slice ao9 l6.length cap9) xs5, .blk b5 55 [(.slice none 0 0), (.int .i64 0)], .blk b4 55 [(.slice ao9 l6.length cap9), (.int .i64 0)], .obj b3 (iterO x1 (n1 + (decW x1 n1).2)), .row 55 (encStep).size l2.length (.slice ao5 l2.length cap5) xs2, .row 3 ((encInt .i64)).size l1.length (.slice ao4 l1.length cap4) xs1, .blk b2 24 [(.int .i64 (p_l.length : Int)), (.slice ao5 l2.length cap5)], .blk b1 24 [(.int .i64 0), (.slice none 0 0)]] H1 w') ∧ k2 l6 = some r) ?_ ?_
    ·
     refine WP.seq (WP.region (Vm rfl (V rfl (ov_len_slice underlying41 rfl rfl) (Vm rfl (WL.nil (tn (WP.block ?_)))))))
     have rl5 := RL.nil (α := Stroke) H1 encStroke
     refine WP.weaken (fun _ s => s.nilrow 59 (encStroke).size) ?_
     refine WP.loop (fun m2 g' S' => ∃ (i2 : Int) (l3 : (List Stroke)) (ao6 : Option Addr) (cap6 : Nat) (xs3 : List Value), RL H1 encStroke l3 xs3 ∧ Sub [(2, (.int .i64 (n1 : Int))), (3, (pB b4 0)), (6, (pB b5 0)), (10, (.slice ao1 p_l.length cap1)), (11, (.int .i64 (p_l.length : Int))), (12, (.int .i64 i2)), (1000000007, (.bool false))] g' ∧ (∀ w', S' w' → St w H [.row 59 (encStroke).size l3.length (.slice ao6 l3.length cap6) xs3, .blk b5 55 [(.slice none 0 0), (.int .i64 0)], .blk b4 55 [(.slice ao6 l3.length cap6), (.int .i64 0)], .obj b3 (iterO x1 (n1 + (decW x1 n1).2)), .row 55 (encStep).size l2.length (.slice ao5 l2.length cap5) xs2, .row 3 ((encInt .i64)).size l1.length (.slice ao4 l1.length cap4) xs1, .blk b2 24 [(.int .i64 (p_l.length : Int)), (.slice ao5 l2.length cap5)], .blk b1 24 [(.int .i64 0), (.slice none 0 0)]] H1 w') ∧ diagram_Unscale_loop2 p_l n1 k2 m2 i2 l3 = some r) ((Int.toNat ((p_l.length : Int) - 0) + 1)) ⟨0, ([] : List Stroke), none, 0, [], rl5, (Sub.all rfl), fun w' s => s, hm⟩ ?_ ?_
     ·
      rintro g' S' ⟨_, _, _, _, _, _, _, _, hm⟩
      exact none_some hm
     rintro m2 g' S' ⟨i2, l3, ao6, cap6, xs3, rl6, hsub2, hS2, hm⟩
     refine WP.sub hsub2 (WP.weaken hS2 ?_)
     rw [diagram_Unscale_loop2] at hm
     refine WP.seq (WP.region (V rfl (ov_lss rfl rfl rfl) (WL.nil (tn (WP.seq ?_)))))
     refine WP.cond rfl (fun hc9 => ?_) (fun hc9 => ?_)
     ·
      replace hm := ite_t hc9 hm
      refine WP.skip (tn ?_)
      obtain ⟨k3, hk3, hm⟩ := joinK_some hm
      refine WP.seq_join (fun g' S' => ∃ (l5 : (List Stroke)) (ao8 : Option Addr) (cap8 : Nat) (xs4 : List Value), RL H1 encStroke l5 xs4 ∧ Sub [(2, (.int .i64 (n1 : Int))), (3, (pB b4 0)), (6, (pB b5 0)), (10, (.slice ao1 p_l.length cap1)), (11, (.int .i64 (p_l.length : Int))), (12, (.int .i64 i2)), (1000000007, (.bool false))] g' ∧ (∀ w', S' w' → St w H [.row 59 (encStroke).size l5.length (.slice ao8 l5.length cap8) xs4, .blk b5 55 [(.slice none 0 0), (.int .i64 0)], .blk b4 55 [(.slice ao8 l5.length cap8), (.int .i64 0)], .obj b3 (iterO x1 (n1 + (decW x1 n1).2)), .row 55 (encStep).size l2.length (.slice ao5 l2.length cap5) xs2, .row 3 ((encInt .i64)).size l1.length (.slice ao4 l1.length cap4) xs1, .blk b2 24 [(.int .i64 (p_l.length : Int)), (.slice ao5 l2.length cap5)], .blk b1 24 [(.int .i64 0), (.slice none 0 0)]] H1 w') ∧ k3 l5 = some r) ?_ ?_
      ·
       refine WP.block (WP.seq (WP.region (Vm rfl ?_)))
       obtain ⟨x2, e3, hm⟩ := bind_some hm
       obtain ⟨h9, h10, h11, cs2, h12, h13⟩ := h1.get e3 (by decide)
       obtain rfl : cs2 = [(mkS x2)] := h12
       refine V rfl (ov_indexAddr underlying41 sizeOf9 rfl rfl rfl h9 h10 h11) (V rfl (ov_load_elem (v := (mkS x2)) isAgg9 rfl rfl h13) (Va rfl (Va rfl (WL.nil (tn (WP.seq (WP.seq (WP.region (Vm rfl (Vm rfl (V rfl (ov_len_string underlying9 rfl rfl) (V rfl (ov_geq rfl rfl rfl) (WL.nil ?_)))))))))))))
       refine tn ?_
       refine WP.cond rfl (fun hc10 => ?_) (fun hc10 => ?_)
       ·
        replace hm := ite_t hc10 hm
        refine WP.exit (then_exit (block_here (tn ?_)))
        exact ⟨l3, ao6, cap6, xs3, rl6, (Sub.all rfl), fun w' s => s, hm⟩
       replace hm := ite_f hc10 hm
       refine WP.skip (tn (WP.seq ?_))
       refine WP.region_draws (by kernel_rfl) (by kernel_rfl) (fun _ s => s.drew) ?_
       have h14 : SL H1 (encInt .u8) (some ⟨0, 0, none⟩) diag_going := hG.1.1.2
       have hc11 : diag_going.length ≤ 2 := by decide
       refine qf rfl (ov_slice_arr underlying124 sizeOf5 rfl rfl rfl) ?_
       refine qf rfl (ov_move rfl rfl) ?_
       refine qf rfl (ov_move rfl rfl) ?_
       obtain ⟨b6, e4, hm⟩ := bind_some hm
       refine qf rfl (ov_index_string underlying9 rfl rfl rfl e4) ?_
       obtain ⟨r2, e5, hm⟩ := bind_some hm
       refine QL.quiet (Runs.free rfl) rfl rfl (oq_con (r := (.int .i64 r2)) call56 rfl rfl (fun w' s => ⟨_, (slices_Index_bytebyte_con diag_going (b6.toNat : Int) (some ⟨0, 0, none⟩) 2  w' H1 s.hold h14 hc11 hG r2 e5)⟩)) ?_
       refine qf rfl (ov_assign rfl rfl) ?_
       refine QL.nil ?_
       refine tn (WP.seq (WP.region (Vm rfl (V rfl (ov_geq rfl rfl rfl) (WL.nil (tn ?_))))))
       refine WP.cond rfl (fun hc12 => ?_) (fun hc12 => ?_)
       ·
        replace hm := ite_t hc12 hm
        refine WP.region (V rfl (ov_fieldAddr underlying55 rfl rfl rfl sizeOf53 rfl rfl) (Vl 2 isAgg53 rfl (Vm rfl (Vm rfl (V rfl (ov_eql rfl rfl rfl) (V rfl (ov_build (r := (.agg #[(.int .i64 i2), (.bool (r2 == 1))])) rfl rfl (fun _ => by kernel_rfl)) ?_))))))
        have rl7 : RL H1 encStroke ([(Stroke.mk i2 (r2 == 1))] : List Stroke) [(.int .i64 i2), (.bool (r2 == 1))] := RL.cons (cs := [(.int .i64 i2), (.bool (r2 == 1))]) (xs := []) rfl (RL.nil _ _)
        refine ws rfl (os_buildSlice (cs := [(.int .i64 i2), (.bool (r2 == 1))]) (E := 59) (sz := 2) rfl rfl (fun _ => by kernel_rfl) rfl (by decide) (fun b7 => ?_))
        obtain ⟨l4, e6, hm⟩ := bind_some hm
        refine ws rfl (os_app (i := 1) (j := 0) (En := encStroke) (xs := xs3) (ys := [(.int .i64 i2), (.bool (r2 == 1))]) underlying53 (by kernel_rfl : (prog.info? 59).map (fun i => (i.zero, i.size, i.bytes)) = some (some (.agg #[(.int .i64 0), (.bool false)]), (encStroke).size, 16)) rfl (by decide) rfl rfl rfl rfl rfl rfl rl6 rl7 e6 (fun ao7 cap7 rl8 => ?_))
        refine V rfl (ov_fieldAddr underlying55 rfl rfl rfl sizeOf53 rfl rfl) ?_
        refine ws0 rfl (os_store (i := 3) (vs := [(.slice ao7 (l3 ++ ([(Stroke.mk i2 (r2 == 1))] : List Stroke)).length cap7)]) (cs' := [(.slice ao7 (l3 ++ ([(Stroke.mk i2 (r2 == 1))] : List Stroke)).length cap7), (.int .i64 0)]) sizeOf53 rfl rfl rfl rfl rfl rfl rfl rfl rfl ?_)
        refine WL.nil (bn (tn ?_))
        exact ⟨(l3 ++ ([(Stroke.mk i2 (r2 == 1))] : List Stroke)), ao7, cap7, (xs3 ++ [(.int .i64 i2), (.bool (r2 == 1))]), rl8, (Sub.all rfl), fun w' s => (s.select [1, 2, 3, 4, 5, 6, 7, 8] (by decide) rfl), hm⟩
       replace hm := ite_f hc12 hm
       refine WP.skip (bn (tn ?_))
       exact ⟨l3, ao6, cap6, xs3, rl6, (Sub.all rfl), fun w' s => s, hm⟩
      rintro g' S' ⟨l5, ao8, cap8, xs4, rl9, hsub3, hS3, hm⟩
      refine WP.sub hsub3 (WP.weaken hS3 ?_)
      replace hm := (congrFun hk3 l5).symm.trans hm
      refine WP.region (V rfl (ov_add rfl rfl rfl) (Vm rfl (WL.nil (tn ?_))))
      exact ⟨(IntKind.wrap .i64 (i2 + 1)), l5, ao8, cap8, xs4, rl9, (Sub.all rfl), fun w' s => s, hm⟩
     replace hm := ite_f hc9 hm
     refine WP.exit (then_exit (then_exit (block_here (tn ?_))))
     exact ⟨l3, ao6, cap6, xs3, rl6, (Sub.all rfl), fun w' s => s, hm⟩
    rintro g' S' ⟨l6, ao9, cap9, xs5, rl10, hsub4, hS4, hm⟩
    refine WP.sub hsub4 (WP.weaken hS4 ?_)
    replace hm := (congrFun hk2 l6).symm.trans hm
    refine WP.seq (WP.region (V rfl (ov_load_whole (i := 2) isAgg55 sizeOf55 rfl rfl rfl rfl) ?_))
    refine ws0 rfl (os_store (i := 1) (vs := [(.slice ao9 l6.length cap9), (.int .i64 0)]) (cs' := [(.slice ao9 l6.length cap9), (.int .i64 0)]) sizeOf55 rfl rfl rfl rfl rfl rfl rfl rfl rfl ?_)
    refine WL.nil (tn (WP.ret ?_))
    refine retQ_ret (v := (.agg #[(.slice ao9 l6.length cap9), (.int .i64 0)])) results32 (Res.cell rfl (box_loads (i := 1) isAgg55 sizeOf55 rfl rfl) Res.nil) rfl (fun w' s => ⟨_, ?_, s⟩)
    refine ws rfl (os_alloc (cs := [(.slice none 0 0), (.int .i64 0)]) zeroValue55 rfl rfl (fun b8 => ?_))
    refine ws0 rfl (os_store (i := 0) (vs := [(.slice ao9 l6.length cap9), (.int .i64 0)]) (cs' := [(.slice ao9 l6.length cap9), (.int .i64 0)]) sizeOf55 rfl rfl rfl rfl rfl rfl rfl rfl rfl ?_)
    refine WL.nil (tn (WP.block (WP.seq (WP.region (V rfl (ov_fieldAddr underlying55 rfl rfl rfl sizeOf53 rfl rfl) (Vl 0 isAgg53 rfl (V rfl (ov_len_slice underlying53 rfl rfl) (V rfl (ov_gtr rfl rfl rfl) (Va rfl (WL.nil (tn ?_)))))))))))
    refine WP.cond rfl (fun hc13 => ?_) (fun hc13 => ?_)
    ·
     replace hm := ite_t hc13 hm
     obtain ⟨k4, hk4, hm⟩ := joinK_some hm
     refine WP.seq_join (fun g' S' => ∃ (H3 : Heap) (l8 : (List Step)) (ao11 : Option Addr) (cap11 : Nat) (xs6 : List Value), Le H1 H3 ∧ RL H3 encStep l8 xs6 ∧ Sub [(0, (.slice ao1 p_l.length cap1)), (2, (pB b1 0)), (6, (pB b2 0)), (7, (.slice ao4 l1.length cap4)), (8, (.int .i64 i1)), (26, (pB b3 0)), (1000000007, (.bool false))] g' ∧ (∀ w', S' w' → St w H [.obj b3 (iterO x1 (n1 + (decW x1 n1).2)), .row 55 (encStep).size l8.length (.slice ao11 l8.length cap11) xs6, .row 3 ((encInt .i64)).size l1.length (.slice ao4 l1.length cap4) xs1, .blk b2 24 [(.int .i64 (p_l.length : Int)), (.slice ao11 l8.length cap11)], .blk b1 24 [(.int .i64 0), (.slice none 0 0)]] H3 w') ∧ k4 l8 = some r) ?_ ?_
     ·
      refine WP.seq (WP.region (Vm rfl (V rfl (ov_eql rfl rfl rfl) (WL.nil (tn ?_)))))
      refine WP.cond rfl (fun hc14 => ?_) (fun hc14 => ?_)
      ·
       replace hm := ite_t hc14 hm
       refine WP.region (V rfl (ov_fieldAddr underlying24 rfl rfl rfl sizeOf22 rfl rfl) (Vl 7 isAgg22 rfl (V rfl (ov_load_whole (i := 0) isAgg55 sizeOf55 rfl rfl rfl rfl) ?_)))
       refine WL.weaken (fun _ s => s.select [1, 0, 2, 3, 4, 5, 6, 7, 8] (by decide) rfl) ?_
       refine WL.held rl10 (fun H2 hc15 hle2 h15 => ?_)
       replace h1 := h1.mono hle2
       replace rl4 := rl4.mono hle2
       replace rl3 := rl3.mono hle2
       replace hG := hG.mono hle2
       have rl11 : RL H2 encStep ([(Step.mk l6 0)] : List Step) [(.slice ao9 l6.length cap9), (.int .i64 0)] := RL.cons (cs := [(.slice ao9 l6.length cap9), (.int .i64 0)]) (xs := []) ⟨ao9, cap9, rfl, h15, hc15⟩ (RL.nil _ _)
       refine ws rfl (os_buildSlice (cs := [(.slice ao9 l6.length cap9), (.int .i64 0)]) (E := 55) (sz := 2) rfl rfl (fun _ => by kernel_rfl) rfl (by decide) (fun b9 => ?_))
       obtain ⟨l7, e7, hm⟩ := bind_some hm
       refine ws rfl (os_app (i := 5) (j := 0) (En := encStep) (xs := xs2) (ys := [(.slice ao9 l6.length cap9), (.int .i64 0)]) underlying22 (by kernel_rfl : (prog.info? 55).map (fun i => (i.zero, i.size, i.bytes)) = some (some (.agg #[(.slice none 0 0), (.int .i64 0)]), (encStep).size, 32)) rfl (by decide) rfl rfl rfl rfl rfl rfl rl4 rl11 e7 (fun ao10 cap10 rl12 => ?_))
       refine V rfl (ov_fieldAddr underlying24 rfl rfl rfl sizeOf22 rfl rfl) ?_
       refine ws0 rfl (os_store (i := 7) (vs := [(.slice ao10 (l2 ++ ([(Step.mk l6 0)] : List Step)).length cap10)]) (cs' := [(.int .i64 (p_l.length : Int)), (.slice ao10 (l2 ++ ([(Step.mk l6 0)] : List Step)).length cap10)]) sizeOf22 rfl rfl rfl rfl rfl rfl rfl rfl rfl ?_)
       refine WL.nil (tn ?_)
       exact ⟨H2, (l2 ++ ([(Step.mk l6 0)] : List Step)), ao10, cap10, (xs2 ++ [(.slice ao9 l6.length cap9), (.int .i64 0)]), hle2, rl12, (Sub.all rfl), fun w' s => (s.select [4, 5, 6, 7, 8] (by decide) rfl), hm⟩
      replace hm := ite_f hc14 hm
      refine WP.skip (tn ?_)
      exact ⟨H1, l2, ao5, cap5, xs2, (Le.refl _), rl4, (Sub.all rfl), fun w' s => (s.select [4, 5, 6, 7, 8] (by decide) rfl), hm⟩
     rintro g' S' ⟨H3, l8, ao11, cap11, xs6, hle3, rl13, hsub5, hS5, hm⟩
     refine WP.sub hsub5 (WP.weaken hS5 ?_)
     replace hm := (congrFun hk4 l8).symm.trans hm
     replace h1 := h1.mono hle3
     replace rl3 := rl3.mono hle3
     replace hG := hG.mono hle3
     refine WP.region (Vm rfl (V rfl (ov_add rfl rfl rfl) (Va rfl (WL.nil (bn (bn (tn ?_)))))))
     exact ⟨H3, (IntKind.wrap .i64 (i1 + 1)), l1, ao4, cap4, xs1, (n1 + (decW x1 n1).2), l8, ao11, cap11, xs6, (hle1.trans hle3), rl3, rl13, (Sub.all rfl), fun w' s => s, hm⟩
    replace hm := ite_f hc13 hm
    refine WP.seq (WP.region (Vm rfl (V rfl (ov_gtr rfl rfl rfl) (Va rfl (WL.nil (tn ?_))))))
    refine WP.cond rfl (fun hc16 => ?_) (fun hc16 => ?_)
    ·
     replace hm := ite_t hc16 hm
     refine WP.seq (WP.region (Vm rfl (Vm rfl ?_)))
     have rl14 : RL H1 (encInt .i64) ([i1] : List Int) [(.int .i64 i1)] := RL.cons (cs := [(.int .i64 i1)]) (xs := []) rfl (RL.nil _ _)
     refine ws rfl (os_buildSlice (cs := [(.int .i64 i1)]) (E := 3) (sz := 1) rfl rfl (fun _ => by kernel_rfl) rfl (by decide) (fun b10 => ?_))
     obtain ⟨l9, e8, hm⟩ := bind_some hm
     refine ws rfl (os_app (i := 7) (j := 0) (En := (encInt .i64)) (xs := xs1) (ys := [(.int .i64 i1)]) underlying33 (by kernel_rfl : (prog.info? 3).map (fun i => (i.zero, i.size, i.bytes)) = some (some (.int .i64 0), ((encInt .i64)).size, 8)) rfl (by decide) rfl rfl rfl rfl rfl rfl rl3 rl14 e8 (fun ao12 cap12 rl15 => ?_))
     refine Va rfl (WL.nil (tn (WP.region (Va rfl (WL.nil (bn (bn (tn ?_))))))))
     exact ⟨H1, 0, (l1 ++ ([i1] : List Int)), ao12, cap12, (xs1 ++ [(.int .i64 i1)]), (n1 + (decW x1 n1).2), l2, ao5, cap5, xs2, hle1, rl15, rl4, (Sub.all rfl), fun w' s => (s.select [5, 6, 7, 8, 9] (by decide) rfl), hm⟩
    replace hm := ite_f hc16 hm
    refine WP.skip (bn (bn (tn ?_)))
    exact ⟨H1, i1, l1, ao4, cap4, xs1, (n1 + (decW x1 n1).2), l2, ao5, cap5, xs2, hle1, rl3, rl4, (Sub.all rfl), fun w' s => (s.select [4, 5, 6, 7, 8] (by decide) rfl), hm⟩
   replace hm := ite_f hc6 hm
   refine ws rfl (os_next_f (i := 0) rfl rfl rfl (of_decide_eq_false hc6) ?_)
   refine Ve rfl (WL.nil (tn (WP.seq (WP.cond_false rfl (WP.exit (then_exit (then_exit (block_here (tn ?_)))))))))
   exact ⟨H1, l1, ao4, cap4, xs1, l2, ao5, cap5, xs2, hle1, rl3, rl4, (Sub.all rfl), fun w' s => (s.select [1, 2, 3, 4] (by decide) rfl), hm⟩
  replace hm := ite_f hc5 hm
  refine WP.skip (tn ?_)
  exact ⟨H, ([] : List Int), none, 0, [], ([] : List Step), none, 0, [], (Le.refl _), rl1, rl2, (Sub.all rfl), fun w' s => s, hm⟩
 rintro g' S' ⟨H4, l10, ao13, cap13, xs7, l11, ao14, cap14, xs8, hle4, rl16, rl17, hsub6, hS6, hm⟩
 refine WP.sub hsub6 (WP.weaken hS6 ?_)
 replace hm := (congrFun (congrFun hk1 l10) l11).symm.trans hm
 replace h1 := h1.mono hle4
 replace hG := hG.mono hle4
 refine WP.seq (WP.seq (WP.region (V rfl (ov_load_whole (i := 2) isAgg24 sizeOf24 rfl rfl rfl rfl) ?_)))
 obtain ⟨r3, e9, hm⟩ := bind_some hm
 refine wo rfl (oq_con (r := (.int .i64 r3)) call27 rfl rfl (fun w' s => ⟨_, (sequence_Check_con (Sequence.mk (p_l.length : Int) l11) ao14 cap14 w' (hp w') (Le.refl _) (s.row_arg (i := 0) rfl rl17).1 (s.row_arg (i := 0) rfl rl17).2 (hG.mono s.hold) r3 e9)⟩)) ?_
 refine V rfl (ov_neq rfl rfl rfl) (Vm rfl ?_)
 refine WL.cut_bool 7 74 (x := ((r3 != 0) || ((l10.length : Int) != (l11.length : Int)))) ?_ ?_
 ·
  rcases Bool.eq_false_or_eq_true (r3 != 0) with hc17 | hc17
  ·
   refine Vi rfl (Idle.no rfl rfl rfl hc17) (Vi rfl (Idle.no rfl rfl rfl hc17) (Vi rfl (Idle.no rfl rfl rfl hc17) (Vi rfl (Idle.no rfl rfl rfl hc17) (Vi rfl (Idle.no rfl rfl rfl hc17) (Vi rfl (Idle.no rfl rfl rfl hc17) (V rfl (ov_pick_true rfl (guard_eq rfl hc17) rfl) ?_))))))
   exact WL.nil ⟨Sub.cons' rfl (congrArg Value.bool (orT hc17)) (Sub.dropn 7 rfl), fun _ s => s⟩
  refine wy hc17 rfl (ov_move rfl rfl) ?_
  refine wy hc17 rfl (ov_len_slice underlying33 rfl rfl) ?_
  refine wy hc17 rfl (ov_fieldAddr underlying24 rfl rfl rfl sizeOf22 rfl rfl) ?_
  refine wy hc17 rfl (ov_load_box (i := 2) isAgg22 rfl rfl rfl rfl) ?_
  refine wy hc17 rfl (ov_len_slice underlying22 rfl rfl) ?_
  refine wy hc17 rfl (ov_neq rfl rfl rfl) ?_
  refine V rfl (ov_pick_false rfl (guard_eq rfl hc17) rfl) ?_
  exact WL.nil ⟨Sub.cons' rfl (congrArg Value.bool (orF hc17)) (Sub.dropn 7 rfl), fun _ s => s⟩
 refine Vm rfl ?_
 refine WL.held rl17 (fun H5 hc18 hle5 h16 => ?_)
 replace h1 := h1.mono hle5
 replace rl16 := rl16.mono hle5
 replace hG := hG.mono hle5
 refine WL.held rl16 (fun H6 hc19 hle6 h17 => ?_)
 replace h1 := h1.mono hle6
 replace h16 := h16.mono hle6
 replace hG := hG.mono hle6
 obtain ⟨c1, e10, hm⟩ := bind_some hm
 refine WL.cut_bool 7 82 (x := c1) ?_ ?_
 ·
  rcases Bool.eq_false_or_eq_true ((r3 != 0) || ((l10.length : Int) != (l11.length : Int))) with hc20 | hc20
  ·
   replace hm := ite_t hc20 e10
   refine Vi rfl (Idle.no rfl rfl rfl hc20) (Vi rfl (Idle.no rfl rfl rfl hc20) (Vi rfl (Idle.no rfl rfl rfl hc20) (Vi rfl (Idle.no rfl rfl rfl hc20) (Vi rfl (Idle.no rfl rfl rfl hc20) (Vi rfl (Idle.no rfl rfl rfl hc20) (V rfl (ov_pick_true rfl (guard_eq rfl hc20) rfl) ?_))))))
   exact WL.nil ⟨Sub.cons' rfl (congrArg Value.bool (Option.some.inj hm)) (Sub.dropn 7 rfl), fun _ s => s⟩
  replace hm := ite_f hc20 e10
  refine wy hc20 rfl (ov_load_whole (i := 0) isAgg24 sizeOf24 rfl rfl rfl rfl) ?_
  refine wy hc20 rfl (ov_move rfl rfl) ?_
  obtain ⟨r4, e11, hm⟩ := bind_some hm
  refine WL.step (Runs.yes rfl rfl rfl hc20) rfl rfl (os_con call30 rfl rfl (fun w' s => (diagram_stretched_con (Sequence.mk (p_l.length : Int) l11) l10 ao14 cap14 ao13 cap13  w' H6 s.hold h16 hc18 h17 hc19 hG r4 e11)) (fun rr1 H7 hle7 hR1 => ?_))
  replace h1 := h1.mono hle7
  replace h17 := h17.mono hle7
  replace h16 := h16.mono hle7
  replace hG := hG.mono hle7
  obtain ⟨ao15, cap15, rfl, h18, hc21⟩ := hR1
  refine wy hc20 rfl (ov_move rfl rfl) ?_
  obtain ⟨r5, e12, hm⟩ := bind_some hm
  refine WL.quiet (Runs.yes rfl rfl rfl hc20) rfl rfl (oq_con (r := (.bool r5)) call21 rfl rfl (fun w' s => ⟨_, (slices_Equal_stringstring_con r4 p_l ao15 cap15 ao1 cap1  w' H7 s.hold h18 hc21 h1 hc1 hG r5 e12)⟩)) ?_
  refine wy hc20 rfl (ov_not rfl rfl) ?_
  refine V rfl (ov_pick_false rfl (guard_eq rfl hc20) rfl) ?_
  exact WL.nil ⟨Sub.cons' rfl (congrArg Value.bool (Option.some.inj hm)) (Sub.dropn 7 rfl), fun _ s => (s.heap hle7)⟩
 refine WL.nil (tn ?_)
 refine WP.cond rfl (fun hc22 => ?_) (fun hc22 => ?_)
 ·
  replace hm := ite_t hc22 hm
  refine WP.seq (WP.region (V rfl (ov_build (r := (.agg #[(.int .i64 0), (.slice none 0 0)])) rfl rfl (fun _ => by kernel_rfl)) ?_))
  refine ws0 rfl (os_store (i := 1) (vs := [(.int .i64 0), (.slice none 0 0)]) (cs' := [(.int .i64 0), (.slice none 0 0)]) sizeOf24 rfl rfl rfl rfl rfl rfl rfl rfl rfl ?_)
  refine Va rfl (Va rfl (WL.nil (tn (WP.ret (then_ret ?_)))))
  obtain rfl := Option.some.inj hm
  refine retQ_ret results11 (Res.cell rfl (box_loads (i := 1) isAgg24 sizeOf24 rfl rfl) (Res.tmp rfl (Res.tmp rfl Res.nil))) rfl (fun w' s => ⟨s.below, ?_⟩)
  exact ⟨none, 0, none, 0, rfl, SL.nil _ _ _, Nat.le_refl _, SL.nil _ _ _, Nat.le_refl _⟩
 replace hm := ite_f hc22 hm
 refine WP.skip (tn (WP.seq (WP.region (V rfl (ov_load_whole (i := 0) isAgg24 sizeOf24 rfl rfl rfl rfl) (Vm rfl ?_)))))
 refine ws0 rfl (os_store (i := 1) (vs := [(.int .i64 (p_l.length : Int)), (.slice ao14 l11.length cap14)]) (cs' := [(.int .i64 (p_l.length : Int)), (.slice ao14 l11.length cap14)]) sizeOf24 rfl rfl rfl rfl rfl rfl rfl rfl rfl ?_)
 refine Va rfl (Va rfl (WL.nil (tn (WP.ret ?_))))
 obtain rfl := Option.some.inj hm
 refine retQ_ret results11 (Res.cell rfl (box_loads (i := 1) isAgg24 sizeOf24 rfl rfl) (Res.tmp rfl (Res.tmp rfl Res.nil))) rfl (fun w' s => ⟨s.below, ?_⟩)
 exact ⟨ao14, cap14, ao13, cap13, rfl, h16.mono s.le_newer, hc18, h17.mono s.le_newer, hc19⟩
end Go.Proofs.YtkgijoddkibapaaGreatDoor.W
