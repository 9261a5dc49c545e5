/- The walks. Written by our own program gen.py; Lean checks it. -/
import Derived.Test.YtbckcjjffbgidaaGreatDoorPlain
import Derived.Test.YtbckcjjffbgidaaGreatDoorEqs
import Derived.Test.YtbckcjjffbgidaaGreatDoorProg
import Derived.Test.YtbckcjjffbgidaaGreatDoorExt
import Derived.Test.YtbckcjjffbgidaaGreatDoorBuild
import Derived.Test.YtbckcjjffbgidaaGreatDoorClone
import Derived.Test.YtbckcjjffbgidaaGreatDoorWalk1
import Derived.Test.YtbckcjjffbgidaaGreatDoorWalk15
set_option linter.unusedVariables false
set_option maxRecDepth 100000
set_option maxHeartbeats 4000000
namespace Go.Proofs.YtbckcjjffbgidaaGreatDoor.W
open Go Go.RowKit Go.Proofs.Tryz
theorem law16_short_con (p_times : (List Int)) (p_unit : Int) (ao1 : Option Addr) (cap1 : Nat) (w : World) (H : Heap) (hH : Le H (hp w)) (h1 : SL H (encInt .i64) ao1 p_times) (hc1 : p_times.length ≤ cap1) (hG : Glob H) (r : Bool) (hm : law16_short p_times p_unit = some r) :
  Con prog 26 [(.slice ao1 p_times.length cap1), (.int .i64 p_unit)] w H (fun v _ => v = (.bool r)) := by
 unfold law16_short at hm
 refine con_of hH func26 rfl 34 ntmps26 rfl ?_
 refine WP.seq (WP.region (Va rfl (WL.nil (tn (WP.seq (WP.seq (WP.region (Vm rfl (V rfl (ov_lss rfl rfl rfl) (WL.nil (tn ?_)))))))))))
 refine WP.cond rfl (fun hc2 => ?_) (fun hc2 => ?_)
 ·
  replace hm := ite_t hc2 hm
  refine WP.seq (WP.region (Va rfl (WL.nil (tn (WP.ret (then_ret ?_))))))
  obtain rfl := Option.some.inj hm
  refine retQ_ret results26 (Res.tmp rfl Res.nil) rfl (fun w' s => ⟨s.below, ?_⟩)
  exact rfl
 replace hm := ite_f hc2 hm
 refine WP.skip (tn (WP.seq (WP.region (Va rfl (WL.nil (tn ?_))))))
 obtain ⟨k1, hk1, hm⟩ := joinK_some hm
 refine WP.seq_join (fun g' S' => ∃ (i3 : Int), Sub [(5, (.int .i64 i3)), (1000000007, (.bool false))] g' ∧ (∀ w', S' w' → St w H [] H w') ∧ k1 i3 = some r) ?_ ?_
 ·
  refine WP.seq (WP.region (Vm rfl (V rfl (ov_len_slice underlying39 rfl rfl) (Vm rfl (WL.nil (tn (WP.block ?_)))))))
  refine WP.loop (fun m1 g' S' => ∃ (i1 : Int) (i2 : Int), Sub [(1, (.int .i64 p_unit)), (5, (.int .i64 i1)), (10, (.slice ao1 p_times.length cap1)), (11, (.int .i64 (p_times.length : Int))), (12, (.int .i64 i2)), (1000000007, (.bool false))] g' ∧ (∀ w', S' w' → St w H [] H w') ∧ law16_short_loop1 p_times p_unit k1 m1 i1 i2 = some r) ((Int.toNat ((p_times.length : Int) - 0) + 1)) ⟨0, 0, (Sub.all rfl), fun w' s => s, hm⟩ ?_ ?_
  ·
   rintro g' S' ⟨_, _, _, _, hm⟩
   exact none_some hm
  rintro m1 g' S' ⟨i1, i2, hsub1, hS1, hm⟩
  refine WP.sub hsub1 (WP.weaken hS1 ?_)
  rw [law16_short_loop1] at hm
  refine WP.seq (WP.region (V rfl (ov_lss rfl rfl rfl) (WL.nil (tn (WP.seq ?_)))))
  refine WP.cond rfl (fun hc3 => ?_) (fun hc3 => ?_)
  ·
   replace hm := ite_t hc3 hm
   refine WP.skip (tn (WP.seq (WP.block (WP.seq (WP.region ?_)))))
   obtain ⟨x1, e1, hm⟩ := bind_some hm
   obtain ⟨h2, h3, h4, cs1, h5, h6⟩ := h1.get e1 (by decide)
   obtain rfl : cs1 = [(.int .i64 x1)] := h5
   refine V rfl (ov_indexAddr underlying39 sizeOf3 rfl rfl rfl h2 h3 h4) (V rfl (ov_load_elem (v := (.int .i64 x1)) isAgg3 rfl rfl h6) (Va rfl (WL.nil (tn (WP.seq (WP.seq (WP.region (Vm rfl (V rfl (ov_lss rfl rfl rfl) (Vm rfl ?_))))))))))
   refine WL.cut_bool 3 21 (x := ((decide (x1 < 0)) || (decide (x1 > 1000000)))) ?_ ?_
   ·
    rcases Bool.eq_false_or_eq_true (decide (x1 < 0)) with hc4 | hc4
    ·
     refine Vi rfl (Idle.no rfl rfl rfl hc4) (Vi rfl (Idle.no rfl rfl rfl hc4) (V rfl (ov_pick_true rfl (guard_eq rfl hc4) rfl) ?_))
     exact WL.nil ⟨Sub.cons' rfl (congrArg Value.bool (orT hc4)) (Sub.dropn 3 rfl), fun _ s => s⟩
    refine wy hc4 rfl (ov_move rfl rfl) ?_
    refine wy hc4 rfl (ov_gtr rfl rfl rfl) ?_
    refine V rfl (ov_pick_false rfl (guard_eq rfl hc4) rfl) ?_
    exact WL.nil ⟨Sub.cons' rfl (congrArg Value.bool (orF hc4)) (Sub.dropn 3 rfl), fun _ s => s⟩
   refine WL.nil (tn ?_)
   refine WP.cond rfl (fun hc5 => ?_) (fun hc5 => ?_)
   ·
    replace hm := ite_t hc5 hm
    refine WP.seq (WP.region (Va rfl (WL.nil (tn (WP.ret (then_ret (block_ret (then_ret (then_ret (block_ret (then_ret ?_)))))))))))
    obtain rfl := Option.some.inj hm
    refine retQ_ret results26 (Res.tmp rfl Res.nil) rfl (fun w' s => ⟨s.below, ?_⟩)
    exact rfl
   replace hm := ite_f hc5 hm
   refine WP.skip (tn (WP.region (Vm rfl (Vm rfl (Vm rfl ?_)))))
   obtain ⟨u1, e2, hm⟩ := bind_some hm
   replace e2 := guardO_some e2
   refine V rfl (ov_quo rfl rfl rfl (by simpa using e2)) (V rfl (ov_add rfl rfl rfl) (Va rfl (WL.nil (bn (tn (WP.region (V rfl (ov_add rfl rfl rfl) (Vm rfl (WL.nil (tn ?_))))))))))
   exact ⟨(IntKind.wrap .i64 (i1 + (IntKind.wrap .i64 (Int.tdiv x1 p_unit)))), (IntKind.wrap .i64 (i2 + 1)), (Sub.all rfl), fun w' s => s, hm⟩
  replace hm := ite_f hc3 hm
  refine WP.exit (then_exit (then_exit (block_here (tn ?_))))
  exact ⟨i1, (Sub.all rfl), fun w' s => s, hm⟩
 rintro g' S' ⟨i3, hsub2, hS2, hm⟩
 refine WP.sub hsub2 (WP.weaken hS2 ?_)
 replace hm := (congrFun hk1 i3).symm.trans hm
 refine WP.seq (WP.region (Vm rfl (V rfl (ov_leq rfl rfl rfl) (Vm rfl ?_))))
 refine WL.cut_bool 3 33 (x := ((decide (i3 ≤ 200)) || (decide (i3 > 4096)))) ?_ ?_
 ·
  rcases Bool.eq_false_or_eq_true (decide (i3 ≤ 200)) with hc6 | hc6
  ·
   refine Vi rfl (Idle.no rfl rfl rfl hc6) (Vi rfl (Idle.no rfl rfl rfl hc6) (V rfl (ov_pick_true rfl (guard_eq rfl hc6) rfl) ?_))
   exact WL.nil ⟨Sub.cons' rfl (congrArg Value.bool (orT hc6)) (Sub.dropn 3 rfl), fun _ s => s⟩
  refine wy hc6 rfl (ov_move rfl rfl) ?_
  refine wy hc6 rfl (ov_gtr rfl rfl rfl) ?_
  refine V rfl (ov_pick_false rfl (guard_eq rfl hc6) rfl) ?_
  exact WL.nil ⟨Sub.cons' rfl (congrArg Value.bool (orF hc6)) (Sub.dropn 3 rfl), fun _ s => s⟩
 refine Va rfl (WL.nil (tn (WP.ret ?_)))
 obtain rfl := Option.some.inj hm
 refine retQ_ret results26 (Res.tmp rfl Res.nil) rfl (fun w' s => ⟨s.below, ?_⟩)
 exact rfl
theorem diagram_Scale_con (p_s : Sequence) (p_times : (List Int)) (p_unit : Int) (ao1 : Option Addr) (cap1 : Nat) (ao2 : Option Addr) (cap2 : Nat) (w : World) (H : Heap) (hH : Le H (hp w)) (h1 : SL H encStep ao1 p_s.steps) (hc1 : p_s.steps.length ≤ cap1) (h2 : SL H (encInt .i64) ao2 p_times) (hc2 : p_times.length ≤ cap2) (hG : Glob H) (r : ((List (List UInt8)) × Int)) (hm : diagram_Scale p_s p_times p_unit = some r) :
  Con prog 27 [(.agg #[(.int .i64 p_s.actuators), (.slice ao1 p_s.steps.length cap1)]), (.slice ao2 p_times.length cap2), (.int .i64 p_unit)] w H (fun v H' => ∃ (ao3 : Option Addr) (cap3 : Nat), v = (.tuple #[(.slice ao3 r.1.length cap3), (.int .i64 r.2)]) ∧ SL H' encStr ao3 r.1 ∧ r.1.length ≤ cap3) := by
 unfold diagram_Scale at hm
 refine con_of hH func27 rfl 62 ntmps27 rfl ?_
 refine WP.seq (WP.region ?_)
 refine ws rfl (os_box (cs := [(.int .i64 p_s.actuators), (.slice ao1 p_s.steps.length cap1)]) rfl rfl rfl (fun b1 => ?_))
 refine Va rfl (Va rfl (WL.nil (tn (WP.seq (WP.seq (WP.region (V rfl (ov_load_whole (i := 0) isAgg24 sizeOf24 rfl rfl rfl rfl) ?_)))))))
 obtain ⟨r1, e1, hm⟩ := bind_some hm
 refine wo rfl (oq_con (r := (.int .i64 r1)) call40 rfl rfl (fun w' s => ⟨_, (sequence_Check_con p_s ao1 cap1  w' H s.hold h1 hc1 hG r1 e1)⟩)) ?_
 refine Va rfl (WL.nil (tn (WP.seq (WP.region (Vm rfl (V rfl (ov_neq rfl rfl rfl) (WL.nil (tn ?_))))))))
 refine WP.cond rfl (fun hc4 => ?_) (fun hc4 => ?_)
 ·
  replace hm := ite_t hc4 hm
  refine WP.seq (WP.region (Vm rfl (Va rfl (Va rfl (WL.nil (tn (WP.ret (then_ret ?_))))))))
  obtain rfl := Option.some.inj hm
  refine retQ_ret results27 (Res.tmp rfl (Res.tmp rfl Res.nil)) rfl (fun w' s => ⟨s.below, ?_⟩)
  exact ⟨none, 0, rfl, SL.nil _ _ _, Nat.le_refl _⟩
 replace hm := ite_f hc4 hm
 refine WP.skip (tn (WP.seq (WP.seq (WP.region (Vm rfl (V rfl (ov_len_slice underlying39 rfl rfl) (V rfl (ov_fieldAddr underlying24 rfl rfl rfl sizeOf22 rfl rfl) (Vl 0 isAgg22 rfl (V rfl (ov_len_slice underlying22 rfl rfl) (V rfl (ov_neq rfl rfl rfl) (WL.nil (tn ?_))))))))))))
 refine WP.cond rfl (fun hc5 => ?_) (fun hc5 => ?_)
 ·
  replace hm := ite_t hc5 hm
  refine WP.seq (WP.region (Va rfl (Va rfl (WL.nil (tn (WP.ret (then_ret ?_)))))))
  obtain rfl := Option.some.inj hm
  refine retQ_ret results27 (Res.tmp rfl (Res.tmp rfl Res.nil)) rfl (fun w' s => ⟨s.below, ?_⟩)
  exact ⟨none, 0, rfl, SL.nil _ _ _, Nat.le_refl _⟩
 replace hm := ite_f hc5 hm
 refine WP.skip (tn (WP.seq ?_))
 obtain ⟨k1, hk1, hm⟩ := joinK_some hm
 refine WP.seq_join (fun g' S' => ∃ (c1 : Bool), Sub [(1, (.slice ao2 p_times.length cap2)), (2, (.int .i64 p_unit)), (3, (pB b1 0)), (34, (.bool c1)), (1000000007, (.bool false))] g' ∧ (∀ w', S' w' → St w H [.blk b1 24 [(.int .i64 p_s.actuators), (.slice ao1 p_s.steps.length cap1)]] H w') ∧ k1 c1 = some r) ?_ ?_
 ·
  refine WP.region (Vm rfl ?_)
  refine ws rfl (os_inline (cap := []) (vs := [(.slice ao2 p_times.length cap2), (.func (.func 63) #[] #[])]) call62 rfl rfl rfl func62 rfl 9 ntmps62 rfl (fun w' s => ?_))
  refine WP.seq (WP.region (Va rfl (WL.nil (tn (WP.seq (WP.region (Vm rfl (Vm rfl ?_))))))))
  refine ws rfl (os_inline (cap := []) (vs := [(.slice ao2 p_times.length cap2), (.func (.func 63) #[] #[])]) call99 rfl rfl rfl func99 rfl 19 ntmps99 rfl (fun w' s => ?_))
  refine WP.seq (WP.region (Va rfl (WL.nil (tn ?_))))
  obtain ⟨k2, hk2, hm⟩ := joinK_some hm
  refine WP.seq_join (fun g' S' => Sub [(1000000007, (.bool false))] g' ∧ (∀ w', S' w' → St w H [.blk b1 24 [(.int .i64 p_s.actuators), (.slice ao1 p_s.steps.length cap1)]] H w') ∧ k2 = some r) ?_ ?_
  ·
   refine WP.seq (WP.region (Vm rfl (V rfl (ov_len_slice underlying39 rfl rfl) (Vm rfl (WL.nil (tn (WP.block ?_)))))))
   refine WP.loop (fun m1 g' S' => ∃ (i1 : Int), Sub [(0, (.slice ao2 p_times.length cap2)), (1, (.func (.func 63) #[] #[])), (7, (.int .i64 (p_times.length : Int))), (8, (.int .i64 i1)), (1000000007, (.bool false))] g' ∧ (∀ w', S' w' → St w H [.blk b1 24 [(.int .i64 p_s.actuators), (.slice ao1 p_s.steps.length cap1)]] H w') ∧ diagram_Scale_loop1 p_times k1 k2 p_unit m1 i1 = some r) ((Int.toNat ((p_times.length : Int) - 0) + 1)) ⟨0, (Sub.all rfl), fun w' s => s, hm⟩ ?_ ?_
   ·
    rintro g' S' ⟨_, _, _, hm⟩
    exact none_some hm
   rintro m1 g' S' ⟨i1, hsub1, hS1, hm⟩
   refine WP.sub hsub1 (WP.weaken hS1 ?_)
   rw [diagram_Scale_loop1] at hm
   refine WP.seq (WP.region (V rfl (ov_lss rfl rfl rfl) (WL.nil (tn (WP.seq ?_)))))
   refine WP.cond rfl (fun hc6 => ?_) (fun hc6 => ?_)
   ·
    replace hm := ite_t hc6 hm
    refine WP.skip (tn (WP.seq (WP.block (WP.seq (WP.region (Vm rfl (Va rfl (WL.nil (tn (WP.seq (WP.region (Vm rfl (Vm rfl ?_)))))))))))))
    refine Vm rfl ?_
    obtain ⟨x1, e2, hm⟩ := bind_some hm
    obtain ⟨h4, h5, h6, cs1, h7, h8⟩ := h2.get e2 (by decide)
    obtain rfl : cs1 = [(.int .i64 x1)] := h7
    refine V rfl (ov_indexAddr underlying39 sizeOf3 rfl rfl rfl h4 h5 h6) (V rfl (ov_load_elem (v := (.int .i64 x1)) isAgg3 rfl rfl h8) ?_)
    refine ws rfl (os_inline (cap := []) (vs := [(.int .i64 x1)]) call63 rfl rfl rfl func63 rfl 9 ntmps63 rfl (fun w' s => ?_))
    refine WP.seq (WP.region (Va rfl (WL.nil (tn (WP.seq (WP.region (Vm rfl (V rfl (ov_lss rfl rfl rfl) (Vm rfl ?_)))))))))
    refine WL.cut_bool 3 8 (x := ((decide (x1 < 0)) || (decide (x1 > 1000000)))) ?_ ?_
    ·
     rcases Bool.eq_false_or_eq_true (decide (x1 < 0)) with hc7 | hc7
     ·
      refine Vi rfl (Idle.no rfl rfl rfl hc7) (Vi rfl (Idle.no rfl rfl rfl hc7) (V rfl (ov_pick_true rfl (guard_eq rfl hc7) rfl) ?_))
      exact WL.nil ⟨Sub.cons' rfl (congrArg Value.bool (orT hc7)) (Sub.dropn 3 rfl), fun _ s => s⟩
     refine wy hc7 rfl (ov_move rfl rfl) ?_
     refine wy hc7 rfl (ov_gtr rfl rfl rfl) ?_
     refine V rfl (ov_pick_false rfl (guard_eq rfl hc7) rfl) ?_
     exact WL.nil ⟨Sub.cons' rfl (congrArg Value.bool (orF hc7)) (Sub.dropn 3 rfl), fun _ s => s⟩
    refine Va rfl (WL.nil (tn (WP.ret ?_)))
    refine retQ_ret (v := (.bool ((decide (x1 < 0)) || (decide (x1 > 1000000))))) results63 (Res.tmp rfl Res.nil) rfl (fun w' s => ⟨_, ?_, s⟩)
    refine WL.nil (tn ?_)
    refine WP.cond rfl (fun hc8 => ?_) (fun hc8 => ?_)
    ·
     replace hm := ite_t hc8 hm
     refine WP.seq (WP.region (Vm rfl (Va rfl (WL.nil (tn (WP.ret (block_ret (then_ret (then_ret (block_ret (then_ret ?_)))))))))))
     refine retQ_ret (v := (.int .i64 i1)) results99 (Res.tmp rfl Res.nil) rfl (fun w' s => ⟨_, ?_, s⟩)
     refine V rfl (ov_geq rfl rfl rfl) (Va rfl (WL.nil (tn (WP.ret ?_))))
     refine retQ_ret (v := (.bool (decide (i1 ≥ 0)))) results62 (Res.tmp rfl Res.nil) rfl (fun w' s => ⟨_, ?_, s⟩)
     refine Vm rfl ?_
     refine WL.cut_bool 3 30 (x := ((decide (i1 ≥ 0)) || (decide (p_unit < 1)))) ?_ ?_
     ·
      rcases Bool.eq_false_or_eq_true (decide (i1 ≥ 0)) with hc9 | hc9
      ·
       refine Vi rfl (Idle.no rfl rfl rfl hc9) (Vi rfl (Idle.no rfl rfl rfl hc9) (V rfl (ov_pick_true rfl (guard_eq rfl hc9) rfl) ?_))
       exact WL.nil ⟨Sub.cons' rfl (congrArg Value.bool (orT hc9)) (Sub.dropn 3 rfl), fun _ s => s⟩
      refine wy hc9 rfl (ov_move rfl rfl) ?_
      refine wy hc9 rfl (ov_lss rfl rfl rfl) ?_
      refine V rfl (ov_pick_false rfl (guard_eq rfl hc9) rfl) ?_
      exact WL.nil ⟨Sub.cons' rfl (congrArg Value.bool (orF hc9)) (Sub.dropn 3 rfl), fun _ s => s⟩
     refine Vm rfl ?_
     refine WL.cut_bool 3 34 (x := (((decide (i1 ≥ 0)) || (decide (p_unit < 1))) || (decide (p_unit > 1000000)))) ?_ ?_
     ·
      rcases Bool.eq_false_or_eq_true ((decide (i1 ≥ 0)) || (decide (p_unit < 1))) with hc10 | hc10
      ·
       refine Vi rfl (Idle.no rfl rfl rfl hc10) (Vi rfl (Idle.no rfl rfl rfl hc10) (V rfl (ov_pick_true rfl (guard_eq rfl hc10) rfl) ?_))
       exact WL.nil ⟨Sub.cons' rfl (congrArg Value.bool (orT hc10)) (Sub.dropn 3 rfl), fun _ s => s⟩
      refine wy hc10 rfl (ov_move rfl rfl) ?_
      refine wy hc10 rfl (ov_gtr rfl rfl rfl) ?_
      refine V rfl (ov_pick_false rfl (guard_eq rfl hc10) rfl) ?_
      exact WL.nil ⟨Sub.cons' rfl (congrArg Value.bool (orF hc10)) (Sub.dropn 3 rfl), fun _ s => s⟩
     refine WL.nil (tn ?_)
     exact ⟨(((decide (i1 ≥ 0)) || (decide (p_unit < 1))) || (decide (p_unit > 1000000))), (Sub.all rfl), fun w' s => s, hm⟩
    replace hm := ite_f hc8 hm
    refine WP.skip (bn (tn (WP.region (V rfl (ov_add rfl rfl rfl) (Vm rfl (WL.nil (tn ?_)))))))
    exact ⟨(IntKind.wrap .i64 (i1 + 1)), (Sub.all rfl), fun w' s => s, hm⟩
   replace hm := ite_f hc6 hm
   refine WP.exit (then_exit (then_exit (block_here (tn ?_))))
   exact ⟨(Sub.all rfl), fun w' s => s, hm⟩
  rintro g' S' ⟨hsub2, hS2, hm⟩
  refine WP.sub hsub2 (WP.weaken hS2 ?_)
  replace hm := hk2.symm.trans hm
  refine WP.seq (WP.region (Va rfl (WL.nil (tn (WP.ret ?_)))))
  refine retQ_ret (v := (.int .i64 (-1))) results99 (Res.tmp rfl Res.nil) rfl (fun w' s => ⟨_, ?_, s⟩)
  refine V rfl (ov_geq rfl rfl rfl) (Va rfl (WL.nil (tn (WP.ret ?_))))
  refine retQ_ret (v := (.bool (decide (((-1) : Int) ≥ 0)))) results62 (Res.tmp rfl Res.nil) rfl (fun w' s => ⟨_, ?_, s⟩)
  refine Vm rfl ?_
  refine WL.cut_bool 3 30 (x := ((decide (((-1) : Int) ≥ 0)) || (decide (p_unit < 1)))) ?_ ?_
  ·
   rcases Bool.eq_false_or_eq_true (decide (((-1) : Int) ≥ 0)) with hc11 | hc11
   ·
    refine Vi rfl (Idle.no rfl rfl rfl hc11) (Vi rfl (Idle.no rfl rfl rfl hc11) (V rfl (ov_pick_true rfl (guard_eq rfl hc11) rfl) ?_))
    exact WL.nil ⟨Sub.cons' rfl (congrArg Value.bool (orT hc11)) (Sub.dropn 3 rfl), fun _ s => s⟩
   refine wy hc11 rfl (ov_move rfl rfl) ?_
   refine wy hc11 rfl (ov_lss rfl rfl rfl) ?_
   refine V rfl (ov_pick_false rfl (guard_eq rfl hc11) rfl) ?_
   exact WL.nil ⟨Sub.cons' rfl (congrArg Value.bool (orF hc11)) (Sub.dropn 3 rfl), fun _ s => s⟩
  refine Vm rfl ?_
  refine WL.cut_bool 3 34 (x := (((decide (((-1) : Int) ≥ 0)) || (decide (p_unit < 1))) || (decide (p_unit > 1000000)))) ?_ ?_
  ·
   rcases Bool.eq_false_or_eq_true ((decide (((-1) : Int) ≥ 0)) || (decide (p_unit < 1))) with hc12 | hc12
   ·
    refine Vi rfl (Idle.no rfl rfl rfl hc12) (Vi rfl (Idle.no rfl rfl rfl hc12) (V rfl (ov_pick_true rfl (guard_eq rfl hc12) rfl) ?_))
    exact WL.nil ⟨Sub.cons' rfl (congrArg Value.bool (orT hc12)) (Sub.dropn 3 rfl), fun _ s => s⟩
   refine wy hc12 rfl (ov_move rfl rfl) ?_
   refine wy hc12 rfl (ov_gtr rfl rfl rfl) ?_
   refine V rfl (ov_pick_false rfl (guard_eq rfl hc12) rfl) ?_
   exact WL.nil ⟨Sub.cons' rfl (congrArg Value.bool (orF hc12)) (Sub.dropn 3 rfl), fun _ s => s⟩
  refine WL.nil (tn ?_)
  exact ⟨(((decide (((-1) : Int) ≥ 0)) || (decide (p_unit < 1))) || (decide (p_unit > 1000000))), (Sub.all rfl), fun w' s => s, hm⟩
 rintro g' S' ⟨c1, hsub3, hS3, hm⟩
 refine WP.sub hsub3 (WP.weaken hS3 ?_)
 replace hm := (congrFun hk1 c1).symm.trans hm
 refine WP.cond rfl (fun hc13 => ?_) (fun hc13 => ?_)
 ·
  replace hm := ite_t hc13 hm
  refine WP.seq (WP.region (Va rfl (Va rfl (WL.nil (tn (WP.ret (then_ret ?_)))))))
  obtain rfl := Option.some.inj hm
  refine retQ_ret results27 (Res.tmp rfl (Res.tmp rfl Res.nil)) rfl (fun w' s => ⟨s.below, ?_⟩)
  exact ⟨none, 0, rfl, SL.nil _ _ _, Nat.le_refl _⟩
 replace hm := ite_f hc13 hm
 refine WP.skip (tn (WP.seq (WP.region (Va rfl (WL.nil (tn (WP.seq (WP.region (Va rfl (WL.nil (tn ?_)))))))))))
 obtain ⟨k3, hk3, hm⟩ := joinK_some hm
 refine WP.seq_join (fun g' S' => ∃ (i4 : Int) (l3 : (List Int)) (ao6 : Option Addr) (cap6 : Nat) (xs2 : List Value), RL H (encInt .i64) l3 xs2 ∧ Sub [(3, (pB b1 0)), (9, (.slice ao6 l3.length cap6)), (10, (.int .i64 i4)), (1000000007, (.bool false))] g' ∧ (∀ w', S' w' → St w H [.row 3 ((encInt .i64)).size l3.length (.slice ao6 l3.length cap6) xs2, .blk b1 24 [(.int .i64 p_s.actuators), (.slice ao1 p_s.steps.length cap1)]] H w') ∧ k3 i4 l3 = some r) ?_ ?_
 ·
  refine WP.seq (WP.region (Vm rfl (V rfl (ov_len_slice underlying39 rfl rfl) (Vm rfl (WL.nil (tn (WP.block ?_)))))))
  have rl1 := RL.nil (α := Int) H (encInt .i64)
  refine WP.weaken (fun _ s => s.nilrow 3 ((encInt .i64)).size) ?_
  refine WP.loop (fun m2 g' S' => ∃ (i2 : Int) (i3 : Int) (l1 : (List Int)) (ao4 : Option Addr) (cap4 : Nat) (xs1 : List Value), RL H (encInt .i64) l1 xs1 ∧ Sub [(2, (.int .i64 p_unit)), (3, (pB b1 0)), (9, (.slice ao4 l1.length cap4)), (10, (.int .i64 i2)), (35, (.slice ao2 p_times.length cap2)), (36, (.int .i64 (p_times.length : Int))), (37, (.int .i64 i3)), (1000000007, (.bool false))] g' ∧ (∀ w', S' w' → St w H [.row 3 ((encInt .i64)).size l1.length (.slice ao4 l1.length cap4) xs1, .blk b1 24 [(.int .i64 p_s.actuators), (.slice ao1 p_s.steps.length cap1)]] H w') ∧ diagram_Scale_loop2 p_times p_unit k3 m2 i2 i3 l1 = some r) ((Int.toNat ((p_times.length : Int) - 0) + 1)) ⟨3, 0, ([] : List Int), none, 0, [], rl1, (Sub.all rfl), fun w' s => s, hm⟩ ?_ ?_
  ·
   rintro g' S' ⟨_, _, _, _, _, _, _, _, _, hm⟩
   exact none_some hm
  rintro m2 g' S' ⟨i2, i3, l1, ao4, cap4, xs1, rl2, hsub4, hS4, hm⟩
  refine WP.sub hsub4 (WP.weaken hS4 ?_)
  rw [diagram_Scale_loop2] at hm
  refine WP.seq (WP.region (V rfl (ov_lss rfl rfl rfl) (WL.nil (tn (WP.seq ?_)))))
  refine WP.cond rfl (fun hc14 => ?_) (fun hc14 => ?_)
  ·
   replace hm := ite_t hc14 hm
   refine WP.skip (tn (WP.seq (WP.block (WP.seq (WP.region ?_)))))
   obtain ⟨x2, e3, hm⟩ := bind_some hm
   obtain ⟨h9, h10, h11, cs2, h12, h13⟩ := h2.get e3 (by decide)
   obtain rfl : cs2 = [(.int .i64 x2)] := h12
   refine V rfl (ov_indexAddr underlying39 sizeOf3 rfl rfl rfl h9 h10 h11) (V rfl (ov_load_elem (v := (.int .i64 x2)) isAgg3 rfl rfl h13) (Va rfl (WL.nil (tn (WP.seq (WP.region (Vm rfl (Vm rfl (V rfl (ov_add rfl rfl rfl) (V rfl (ov_sub rfl rfl rfl) (Vm rfl ?_)))))))))))
   obtain ⟨u1, e4, hm⟩ := bind_some hm
   replace e4 := guardO_some e4
   refine V rfl (ov_quo rfl rfl rfl (by simpa using e4)) (V rfl (ov_max rfl rfl rfl) (Va rfl (WL.nil (tn (WP.seq (WP.region (Vm rfl (Vm rfl ?_))))))))
   have rl3 : RL H (encInt .i64) ([(if (IntKind.wrap .i64 (Int.tdiv (IntKind.wrap .i64 ((IntKind.wrap .i64 (x2 + p_unit)) - 1)) p_unit)) > 1 then (IntKind.wrap .i64 (Int.tdiv (IntKind.wrap .i64 ((IntKind.wrap .i64 (x2 + p_unit)) - 1)) p_unit)) else 1)] : List Int) [(.int .i64 (if (IntKind.wrap .i64 (Int.tdiv (IntKind.wrap .i64 ((IntKind.wrap .i64 (x2 + p_unit)) - 1)) p_unit)) > 1 then (IntKind.wrap .i64 (Int.tdiv (IntKind.wrap .i64 ((IntKind.wrap .i64 (x2 + p_unit)) - 1)) p_unit)) else 1))] := RL.cons (cs := [(.int .i64 (if (IntKind.wrap .i64 (Int.tdiv (IntKind.wrap .i64 ((IntKind.wrap .i64 (x2 + p_unit)) - 1)) p_unit)) > 1 then (IntKind.wrap .i64 (Int.tdiv (IntKind.wrap .i64 ((IntKind.wrap .i64 (x2 + p_unit)) - 1)) p_unit)) else 1))]) (xs := []) rfl (RL.nil _ _)
   refine ws rfl (os_buildSlice (cs := [(.int .i64 (if (IntKind.wrap .i64 (Int.tdiv (IntKind.wrap .i64 ((IntKind.wrap .i64 (x2 + p_unit)) - 1)) p_unit)) > 1 then (IntKind.wrap .i64 (Int.tdiv (IntKind.wrap .i64 ((IntKind.wrap .i64 (x2 + p_unit)) - 1)) p_unit)) else 1))]) (E := 3) (sz := 1) rfl rfl (fun _ => by kernel_rfl) rfl (by decide) (fun b2 => ?_))
   obtain ⟨l2, e5, hm⟩ := bind_some hm
   refine ws rfl (os_app (i := 1) (j := 0) (En := (encInt .i64)) (xs := xs1) (ys := [(.int .i64 (if (IntKind.wrap .i64 (Int.tdiv (IntKind.wrap .i64 ((IntKind.wrap .i64 (x2 + p_unit)) - 1)) p_unit)) > 1 then (IntKind.wrap .i64 (Int.tdiv (IntKind.wrap .i64 ((IntKind.wrap .i64 (x2 + p_unit)) - 1)) p_unit)) else 1))]) underlying39 (by kernel_rfl : (prog.info? 3).map (fun i => (i.zero, i.size, i.bytes)) = some (some (.int .i64 0), ((encInt .i64)).size, 8)) rfl (by decide) rfl rfl rfl rfl rfl rfl rl2 rl3 e5 (fun ao5 cap5 rl4 => ?_))
   refine Va rfl (WL.nil (tn (WP.region (Vm rfl (Vm rfl (V rfl (ov_add rfl rfl rfl) (V rfl (ov_add rfl rfl rfl) (Va rfl (WL.nil (bn (tn (WP.region (V rfl (ov_add rfl rfl rfl) ?_)))))))))))))
   refine Vm rfl (WL.nil (tn ?_))
   exact ⟨(IntKind.wrap .i64 (i2 + (IntKind.wrap .i64 ((if (IntKind.wrap .i64 (Int.tdiv (IntKind.wrap .i64 ((IntKind.wrap .i64 (x2 + p_unit)) - 1)) p_unit)) > 1 then (IntKind.wrap .i64 (Int.tdiv (IntKind.wrap .i64 ((IntKind.wrap .i64 (x2 + p_unit)) - 1)) p_unit)) else 1) + 1)))), (IntKind.wrap .i64 (i3 + 1)), (l1 ++ ([(if (IntKind.wrap .i64 (Int.tdiv (IntKind.wrap .i64 ((IntKind.wrap .i64 (x2 + p_unit)) - 1)) p_unit)) > 1 then (IntKind.wrap .i64 (Int.tdiv (IntKind.wrap .i64 ((IntKind.wrap .i64 (x2 + p_unit)) - 1)) p_unit)) else 1)] : List Int)), ao5, cap5, (xs1 ++ [(.int .i64 (if (IntKind.wrap .i64 (Int.tdiv (IntKind.wrap .i64 ((IntKind.wrap .i64 (x2 + p_unit)) - 1)) p_unit)) > 1 then (IntKind.wrap .i64 (Int.tdiv (IntKind.wrap .i64 ((IntKind.wrap .i64 (x2 + p_unit)) - 1)) p_unit)) else 1))]), rl4, (Sub.all rfl), fun w' s => (s.select [1, 2] (by decide) rfl), hm⟩
  replace hm := ite_f hc14 hm
  refine WP.exit (then_exit (then_exit (block_here (tn ?_))))
  exact ⟨i2, l1, ao4, cap4, xs1, rl2, (Sub.all rfl), fun w' s => s, hm⟩
 rintro g' S' ⟨i4, l3, ao6, cap6, xs2, rl5, hsub5, hS5, hm⟩
 refine WP.sub hsub5 (WP.weaken hS5 ?_)
 replace hm := (congrFun (congrFun hk3 i4) l3).symm.trans hm
 refine WP.seq (WP.seq (WP.region (Vm rfl (V rfl (ov_gtr rfl rfl rfl) (WL.nil (tn ?_))))))
 refine WP.cond rfl (fun hc15 => ?_) (fun hc15 => ?_)
 ·
  replace hm := ite_t hc15 hm
  refine WP.seq (WP.region (Va rfl (Va rfl (WL.nil (tn (WP.ret (then_ret ?_)))))))
  obtain rfl := Option.some.inj hm
  refine retQ_ret results27 (Res.tmp rfl (Res.tmp rfl Res.nil)) rfl (fun w' s => ⟨s.below, ?_⟩)
  exact ⟨none, 0, rfl, SL.nil _ _ _, Nat.le_refl _⟩
 replace hm := ite_f hc15 hm
 refine WP.skip (tn (WP.seq (WP.region (V rfl (ov_load_whole (i := 1) isAgg24 sizeOf24 rfl rfl rfl rfl) (Vm rfl ?_)))))
 refine WL.held rl5 (fun H1 hc16 hle1 h14 => ?_)
 replace h1 := h1.mono hle1
 replace hG := hG.mono hle1
 obtain ⟨r2, e6, hm⟩ := bind_some hm
 refine ws rfl (os_con call64 rfl rfl (fun w' s => (diagram_stretched_con p_s l3 ao1 cap1 ao6 cap6  w' H1 s.hold h1 hc1 h14 hc16 hG r2 e6)) (fun rr1 H2 hle2 hR1 => ?_))
 obtain ⟨ao7, cap7, rfl, h15, hc17⟩ := hR1
 refine Va rfl (Va rfl (WL.nil (tn (WP.ret ?_))))
 obtain rfl := Option.some.inj hm
 refine retQ_ret results27 (Res.tmp rfl (Res.tmp rfl Res.nil)) rfl (fun w' s => ⟨s.below, ?_⟩)
 exact ⟨ao7, cap7, rfl, h15.mono s.le_newer, hc17⟩
end Go.Proofs.YtbckcjjffbgidaaGreatDoor.W
