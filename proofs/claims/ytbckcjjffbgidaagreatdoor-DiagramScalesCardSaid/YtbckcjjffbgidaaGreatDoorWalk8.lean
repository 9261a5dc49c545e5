/- The walks. Written by our own program gen.py; Lean checks it. -/
import Derived.Test.YtbckcjjffbgidaaGreatDoorPlain
import Derived.Test.YtbckcjjffbgidaaGreatDoorEqs
import Derived.Test.YtbckcjjffbgidaaGreatDoorProg
import Derived.Test.YtbckcjjffbgidaaGreatDoorExt
import Derived.Test.YtbckcjjffbgidaaGreatDoorBuild
import Derived.Test.YtbckcjjffbgidaaGreatDoorClone
import Derived.Test.YtbckcjjffbgidaaGreatDoorWalk0
import Derived.Test.YtbckcjjffbgidaaGreatDoorWalk1
import Derived.Test.YtbckcjjffbgidaaGreatDoorWalk7
set_option linter.unusedVariables false
set_option maxRecDepth 100000
set_option maxHeartbeats 4000000
namespace Go.Proofs.YtbckcjjffbgidaaGreatDoor.W
open Go Go.RowKit Go.Proofs.Tryz
theorem slices_Equal_stringstring_con (p_s1 : (List (List UInt8))) (p_s2 : (List (List UInt8))) (ao1 : Option Addr) (cap1 : Nat) (ao2 : Option Addr) (cap2 : Nat) (w : World) (H : Heap) (hH : Le H (hp w)) (h1 : SL H encStr ao1 p_s1) (hc1 : p_s1.length ≤ cap1) (h2 : SL H encStr ao2 p_s2) (hc2 : p_s2.length ≤ cap2) (hG : Glob H) (r : Bool) (hm : slices_Equal_stringstring p_s1 p_s2 = some r) :
  Con prog 19 [(.slice ao1 p_s1.length cap1), (.slice ao2 p_s2.length cap2)] w H (fun v _ => v = (.bool r)) := by
 unfold slices_Equal_stringstring at hm
 refine con_of hH func19 rfl 26 ntmps19 rfl ?_
 refine WP.seq (WP.region (Va rfl (WL.nil (tn (WP.seq (WP.seq (WP.region (Vm rfl (V rfl (ov_len_slice underlying27 rfl rfl) (Vm rfl (V rfl (ov_len_slice underlying27 rfl rfl) (V rfl (ov_neq rfl rfl rfl) (WL.nil ?_)))))))))))))
 refine tn ?_
 refine WP.cond rfl (fun hc3 => ?_) (fun hc3 => ?_)
 ·
  replace hm := ite_t hc3 hm
  refine WP.seq (WP.region (Va rfl (WL.nil (tn (WP.ret (then_ret ?_))))))
  obtain rfl := Option.some.inj hm
  refine retQ_ret results19 (Res.tmp rfl Res.nil) rfl (fun w' s => ⟨s.below, ?_⟩)
  exact rfl
 replace hm := ite_f hc3 hm
 refine WP.skip (tn ?_)
 obtain ⟨k1, hk1, hm⟩ := joinK_some hm
 refine WP.seq_join (fun g' S' => Sub [(1000000007, (.bool false))] g' ∧ (∀ w', S' w' → St w H [] H w') ∧ k1 = some r) ?_ ?_
 ·
  refine WP.seq (WP.region (Vm rfl (V rfl (ov_len_slice underlying27 rfl rfl) (Vm rfl (WL.nil (tn (WP.block ?_)))))))
  refine WP.loop (fun m1 g' S' => ∃ (i1 : Int), Sub [(0, (.slice ao1 p_s1.length cap1)), (1, (.slice ao2 p_s2.length cap2)), (12, (.int .i64 (p_s1.length : Int))), (13, (.int .i64 i1)), (1000000007, (.bool false))] g' ∧ (∀ w', S' w' → St w H [] H w') ∧ slices_Equal_stringstring_loop1 p_s1 p_s2 k1 m1 i1 = some r) ((Int.toNat ((p_s1.length : Int) - 0) + 1)) ⟨0, (Sub.all rfl), fun w' s => s, hm⟩ ?_ ?_
  ·
   rintro g' S' ⟨_, _, _, hm⟩
   exact none_some hm
  rintro m1 g' S' ⟨i1, hsub1, hS1, hm⟩
  refine WP.sub hsub1 (WP.weaken hS1 ?_)
  rw [slices_Equal_stringstring_loop1] at hm
  refine WP.seq (WP.region (V rfl (ov_lss rfl rfl rfl) (WL.nil (tn (WP.seq ?_)))))
  refine WP.cond rfl (fun hc4 => ?_) (fun hc4 => ?_)
  ·
   replace hm := ite_t hc4 hm
   refine WP.skip (tn (WP.seq (WP.block (WP.seq (WP.region (Vm rfl (Va rfl (WL.nil (tn (WP.seq ?_))))))))))
   refine WP.region_draws (by kernel_rfl) (by kernel_rfl) (fun _ s => s.drew) ?_
   refine qf rfl (ov_move rfl rfl) ?_
   refine qf rfl (ov_move rfl rfl) ?_
   obtain ⟨x1, e1, hm⟩ := bind_some hm
   obtain ⟨h3, h4, h5, cs1, h6, h7⟩ := h1.get e1 (by decide)
   obtain rfl : cs1 = [(mkS x1)] := h6
   refine qf rfl (ov_indexAddr underlying27 sizeOf9 rfl rfl rfl h3 h4 h5) ?_
   refine qf rfl (ov_load_elem (v := (mkS x1)) isAgg9 rfl rfl h7) ?_
   refine qf rfl (ov_move rfl rfl) ?_
   refine qf rfl (ov_move rfl rfl) ?_
   obtain ⟨x2, e2, hm⟩ := bind_some hm
   obtain ⟨h8, h9, h10, cs2, h11, h12⟩ := h2.get e2 (by decide)
   obtain rfl : cs2 = [(mkS x2)] := h11
   refine qf rfl (ov_indexAddr underlying27 sizeOf9 rfl rfl rfl h8 h9 h10) ?_
   refine qf rfl (ov_load_elem (v := (mkS x2)) isAgg9 rfl rfl h12) ?_
   refine qf rfl (ov_sneq rfl rfl rfl) ?_
   refine QL.nil ?_
   refine tn ?_
   refine WP.cond rfl (fun hc5 => ?_) (fun hc5 => ?_)
   ·
    replace hm := ite_t hc5 hm
    refine WP.seq (WP.region (Va rfl (WL.nil (tn (WP.ret (block_ret (then_ret (then_ret (block_ret (then_ret ?_))))))))))
    obtain rfl := Option.some.inj hm
    refine retQ_ret results19 (Res.tmp rfl Res.nil) rfl (fun w' s => ⟨s.below, ?_⟩)
    exact rfl
   replace hm := ite_f hc5 hm
   refine WP.skip (bn (tn (WP.region (V rfl (ov_add rfl rfl rfl) (Vm rfl (WL.nil (tn ?_)))))))
   exact ⟨(IntKind.wrap .i64 (i1 + 1)), (Sub.all rfl), fun w' s => s, hm⟩
  replace hm := ite_f hc4 hm
  refine WP.exit (then_exit (then_exit (block_here (tn ?_))))
  exact ⟨(Sub.all rfl), fun w' s => s, hm⟩
 rintro g' S' ⟨hsub2, hS2, hm⟩
 refine WP.sub hsub2 (WP.weaken hS2 ?_)
 replace hm := hk1.symm.trans hm
 refine WP.seq (WP.region (Va rfl (WL.nil (tn (WP.ret ?_)))))
 obtain rfl := Option.some.inj hm
 refine retQ_ret results19 (Res.tmp rfl Res.nil) rfl (fun w' s => ⟨s.below, ?_⟩)
 exact rfl
theorem diagram_Marks_con (p_s : Sequence) (p_before : (List Int)) (ao1 : Option Addr) (cap1 : Nat) (ao2 : Option Addr) (cap2 : Nat) (w : World) (H : Heap) (hH : Le H (hp w)) (h1 : SL H encStep ao1 p_s.steps) (hc1 : p_s.steps.length ≤ cap1) (h2 : SL H (encInt .i64) ao2 p_before) (hc2 : p_before.length ≤ cap2) (hG : Glob H) (r : ((List (List UInt8)) × Int)) (hm : diagram_Marks p_s p_before = some r) :
  Con prog 20 [(.agg #[(.int .i64 p_s.actuators), (.slice ao1 p_s.steps.length cap1)]), (.slice ao2 p_before.length cap2)] w H (fun v H' => ∃ (ao3 : Option Addr) (cap3 : Nat), v = (.tuple #[(.slice ao3 r.1.length cap3), (.int .i64 r.2)]) ∧ SL H' encStr ao3 r.1 ∧ r.1.length ≤ cap3) := by
 unfold diagram_Marks at hm
 refine con_of hH func20 rfl 47 ntmps20 rfl ?_
 refine WP.seq (WP.region ?_)
 refine ws rfl (os_box (cs := [(.int .i64 p_s.actuators), (.slice ao1 p_s.steps.length cap1)]) rfl rfl rfl (fun b1 => ?_))
 refine ws rfl (os_box (cs := [(.slice ao2 p_before.length cap2)]) rfl rfl rfl (fun b2 => ?_))
 refine Va rfl (Va rfl (WL.nil (tn (WP.seq (WP.seq (WP.region (V rfl (ov_load_whole (i := 1) isAgg24 sizeOf24 rfl rfl rfl rfl) ?_)))))))
 obtain ⟨r1, e1, hm⟩ := bind_some hm
 refine wo rfl (oq_con (r := (.int .i64 r1)) call40 rfl rfl (fun w' s => ⟨_, (sequence_Check_con p_s ao1 cap1  w' H s.hold h1 hc1 hG r1 e1)⟩)) ?_
 refine Va rfl (WL.nil (tn (WP.seq (WP.region (Vm rfl (V rfl (ov_neq rfl rfl rfl) (WL.nil (tn ?_))))))))
 refine WP.cond rfl (fun hc4 => ?_) (fun hc4 => ?_)
 ·
  replace hm := ite_t hc4 hm
  refine WP.seq (WP.region (Vm rfl (Va rfl (Va rfl (WL.nil (tn (WP.ret (then_ret ?_))))))))
  obtain rfl := Option.some.inj hm
  refine retQ_ret results20 (Res.tmp rfl (Res.tmp rfl Res.nil)) rfl (fun w' s => ⟨s.below, ?_⟩)
  exact ⟨none, 0, rfl, SL.nil _ _ _, Nat.le_refl _⟩
 replace hm := ite_f hc4 hm
 refine WP.skip (tn ?_)
 obtain ⟨k1, hk1, hm⟩ := joinK_some hm
 refine WP.seq_join (fun g' S' => Sub [(2, (pB b1 0)), (3, (pB b2 0)), (1000000007, (.bool false))] g' ∧ (∀ w', S' w' → St w H [.blk b2 39 [(.slice ao2 p_before.length cap2)], .blk b1 24 [(.int .i64 p_s.actuators), (.slice ao1 p_s.steps.length cap1)]] H w') ∧ k1 = some r) ?_ ?_
 ·
  refine WP.seq (WP.region (Vl 0 isAgg39 rfl (V rfl (ov_len_slice underlying39 rfl rfl) (Vm rfl (WL.nil (tn (WP.block ?_)))))))
  refine WP.loop (fun m1 g' S' => ∃ (i1 : Int), Sub [(2, (pB b1 0)), (3, (pB b2 0)), (14, (.slice ao2 p_before.length cap2)), (15, (.int .i64 (p_before.length : Int))), (16, (.int .i64 i1)), (1000000007, (.bool false))] g' ∧ (∀ w', S' w' → St w H [.blk b2 39 [(.slice ao2 p_before.length cap2)], .blk b1 24 [(.int .i64 p_s.actuators), (.slice ao1 p_s.steps.length cap1)]] H w') ∧ diagram_Marks_loop1 p_s p_before k1 m1 i1 = some r) ((Int.toNat ((p_before.length : Int) - 0) + 1)) ⟨0, (Sub.all rfl), fun w' s => s, hm⟩ ?_ ?_
  ·
   rintro g' S' ⟨_, _, _, hm⟩
   exact none_some hm
  rintro m1 g' S' ⟨i1, hsub1, hS1, hm⟩
  refine WP.sub hsub1 (WP.weaken hS1 ?_)
  rw [diagram_Marks_loop1] at hm
  refine WP.seq (WP.region (V rfl (ov_lss rfl rfl rfl) (WL.nil (tn (WP.seq ?_)))))
  refine WP.cond rfl (fun hc5 => ?_) (fun hc5 => ?_)
  ·
   replace hm := ite_t hc5 hm
   refine WP.skip (tn (WP.seq (WP.block (WP.seq (WP.region (Vm rfl ?_))))))
   obtain ⟨x1, e2, hm⟩ := bind_some hm
   obtain ⟨h4, h5, h6, cs1, h7, h8⟩ := h2.get e2 (by decide)
   obtain rfl : cs1 = [(.int .i64 x1)] := h7
   refine V rfl (ov_indexAddr underlying39 sizeOf3 rfl rfl rfl h4 h5 h6) (V rfl (ov_load_elem (v := (.int .i64 x1)) isAgg3 rfl rfl h8) (Va rfl (Va rfl (WL.nil (tn (WP.block (WP.seq (WP.region (Vm rfl (V rfl (ov_lss rfl rfl rfl) (Vm rfl ?_)))))))))))
   refine WL.cut_bool 6 30 (x := ((decide (x1 < 0)) || (decide (x1 ≥ (p_s.steps.length : Int))))) ?_ ?_
   ·
    rcases Bool.eq_false_or_eq_true (decide (x1 < 0)) with hc6 | hc6
    ·
     refine Vi rfl (Idle.no rfl rfl rfl hc6) (Vi rfl (Idle.no rfl rfl rfl hc6) (Vi rfl (Idle.no rfl rfl rfl hc6) (Vi rfl (Idle.no rfl rfl rfl hc6) (Vi rfl (Idle.no rfl rfl rfl hc6) (V rfl (ov_pick_true rfl (guard_eq rfl hc6) rfl) ?_)))))
     exact WL.nil ⟨Sub.cons' rfl (congrArg Value.bool (orT hc6)) (Sub.dropn 6 rfl), fun _ s => s⟩
    refine wy hc6 rfl (ov_move rfl rfl) ?_
    refine wy hc6 rfl (ov_fieldAddr underlying24 rfl rfl rfl sizeOf22 rfl rfl) ?_
    refine wy hc6 rfl (ov_load_box (i := 1) isAgg22 rfl rfl rfl rfl) ?_
    refine wy hc6 rfl (ov_len_slice underlying22 rfl rfl) ?_
    refine wy hc6 rfl (ov_geq rfl rfl rfl) ?_
    refine V rfl (ov_pick_false rfl (guard_eq rfl hc6) rfl) ?_
    exact WL.nil ⟨Sub.cons' rfl (congrArg Value.bool (orF hc6)) (Sub.dropn 6 rfl), fun _ s => s⟩
   refine Va rfl (WL.nil (tn ?_))
   refine WP.cond rfl (fun hc7 => ?_) (fun hc7 => ?_)
   ·
    replace hm := ite_t hc7 hm
    refine WP.seq (WP.region (Va rfl (Va rfl (WL.nil (tn (WP.ret (block_ret (block_ret (then_ret (then_ret (block_ret (then_ret ?_))))))))))))
    obtain rfl := Option.some.inj hm
    refine retQ_ret results20 (Res.tmp rfl (Res.tmp rfl Res.nil)) rfl (fun w' s => ⟨s.below, ?_⟩)
    exact ⟨none, 0, rfl, SL.nil _ _ _, Nat.le_refl _⟩
   replace hm := ite_f hc7 hm
   refine WP.seq (WP.region (Vm rfl (V rfl (ov_gtr rfl rfl rfl) (Vm rfl ?_))))
   obtain ⟨c1, e3, hm⟩ := bind_some hm
   refine WL.cut_bool 8 42 (x := c1) ?_ ?_
   ·
    rcases Bool.eq_false_or_eq_true (decide (i1 > 0)) with hc8 | hc8
    ·
     replace hm := ite_t hc8 e3
     refine wy hc8 rfl (ov_move rfl rfl) ?_
     refine wy hc8 rfl (ov_load_box (i := 0) isAgg39 rfl rfl rfl rfl) ?_
     refine wy hc8 rfl (ov_move rfl rfl) ?_
     refine wy hc8 rfl (ov_sub rfl rfl rfl) ?_
     obtain ⟨x2, e4, hm⟩ := bind_some hm
     obtain ⟨h9, h10, h11, cs2, h12, h13⟩ := h2.get e4 (by decide)
     obtain rfl : cs2 = [(.int .i64 x2)] := h12
     refine wy hc8 rfl (ov_indexAddr underlying39 sizeOf3 rfl rfl rfl h9 h10 h11) ?_
     refine wy hc8 rfl (ov_load_elem (v := (.int .i64 x2)) isAgg3 rfl rfl h13) ?_
     refine wy hc8 rfl (ov_leq rfl rfl rfl) ?_
     refine V rfl (ov_pick_true rfl (guard_eq rfl hc8) rfl) ?_
     exact WL.nil ⟨Sub.cons' rfl (congrArg Value.bool (Option.some.inj hm)) (Sub.dropn 8 rfl), fun _ s => s⟩
    replace hm := ite_f hc8 e3
    refine Vi rfl (Idle.no rfl rfl rfl hc8) (Vi rfl (Idle.no rfl rfl rfl hc8) (Vi rfl (Idle.no rfl rfl rfl hc8) (Vi rfl (Idle.no rfl rfl rfl hc8) (Vi rfl (Idle.no rfl rfl rfl hc8) (Vi rfl (Idle.no rfl rfl rfl hc8) (Vi rfl (Idle.no rfl rfl rfl hc8) (V rfl (ov_pick_false rfl (guard_eq rfl hc8) rfl) ?_)))))))
    exact WL.nil ⟨Sub.cons' rfl (congrArg Value.bool (Option.some.inj hm)) (Sub.dropn 8 rfl), fun _ s => s⟩
   refine Va rfl (WL.nil (tn ?_))
   refine WP.cond rfl (fun hc9 => ?_) (fun hc9 => ?_)
   ·
    replace hm := ite_t hc9 hm
    refine WP.seq (WP.region (Va rfl (Va rfl (WL.nil (tn (WP.ret (block_ret (block_ret (then_ret (then_ret (block_ret (then_ret ?_))))))))))))
    obtain rfl := Option.some.inj hm
    refine retQ_ret results20 (Res.tmp rfl (Res.tmp rfl Res.nil)) rfl (fun w' s => ⟨s.below, ?_⟩)
    exact ⟨none, 0, rfl, SL.nil _ _ _, Nat.le_refl _⟩
   replace hm := ite_f hc9 hm
   refine WP.skip (bn (bn (tn (WP.region (V rfl (ov_add rfl rfl rfl) (Vm rfl (WL.nil (tn ?_))))))))
   exact ⟨(IntKind.wrap .i64 (i1 + 1)), (Sub.all rfl), fun w' s => s, hm⟩
  replace hm := ite_f hc5 hm
  refine WP.exit (then_exit (then_exit (block_here (tn ?_))))
  exact ⟨(Sub.all rfl), fun w' s => s, hm⟩
 rintro g' S' ⟨hsub2, hS2, hm⟩
 refine WP.sub hsub2 (WP.weaken hS2 ?_)
 replace hm := hk1.symm.trans hm
 refine WP.seq (WP.region (V rfl (ov_load_whole (i := 1) isAgg24 sizeOf24 rfl rfl rfl rfl) (V rfl (ov_makeFunc' (first := []) rfl rfl rfl) ?_)))
 refine ws rfl (os_inline (cap := []) (vs := [(.agg #[(.int .i64 p_s.actuators), (.slice ao1 p_s.steps.length cap1)]), (.func (.func 50) #[] #[(pB b2 0)])]) call49 rfl rfl rfl func49 rfl 46 ntmps49 rfl (fun w' s => ?_))
 refine WP.seq (WP.region ?_)
 refine ws rfl (os_box (cs := [(.int .i64 p_s.actuators), (.slice ao1 p_s.steps.length cap1)]) rfl rfl rfl (fun b3 => ?_))
 refine Va rfl (WL.nil (tn (WP.seq (WP.region (Va rfl (WL.nil (tn ?_)))))))
 obtain ⟨k2, hk2, hm⟩ := joinK_some hm
 refine WP.seq_join (fun g' S' => ∃ (H2 : Heap) (l11 : (List (List UInt8))) (ao16 : Option Addr) (cap16 : Nat) (xs6 : List Value), Le H H2 ∧ RL H2 encStr l11 xs6 ∧ Sub [(5, (.slice ao16 l11.length cap16)), (1000000007, (.bool false))] g' ∧ (∀ w', S' w' → St w H [.row 9 (encStr).size l11.length (.slice ao16 l11.length cap16) xs6, .blk b2 39 [(.slice ao2 p_before.length cap2)], .blk b1 24 [(.int .i64 p_s.actuators), (.slice ao1 p_s.steps.length cap1)]] H2 w') ∧ k2 l11 = some r) ?_ ?_
 ·
  refine WP.seq (WP.region (V rfl (ov_load_whole (i := 0) isAgg24 sizeOf24 rfl rfl rfl rfl) ?_))
  obtain ⟨r2, e5, hm⟩ := bind_some hm
  refine ws rfl (os_con call43 rfl rfl (fun w' s => (diagram_cells_con p_s ao1 cap1  w' H s.hold h1 hc1 hG r2 e5)) (fun rr1 H1 hle1 hR1 => ?_))
  replace h1 := h1.mono hle1
  replace h2 := h2.mono hle1
  replace hG := hG.mono hle1
  obtain ⟨ao4, cap4, rfl, h14, hc10⟩ := hR1
  refine V rfl (ov_len_slice underlying76 rfl rfl) (Vm rfl (WL.nil (tn (WP.block ?_))))
  have rl1 := RL.nil (α := (List UInt8)) H1 encStr
  refine WP.weaken (fun _ s => s.nilrow 9 (encStr).size) ?_
  refine WP.loop (fun m2 g' S' => ∃ (i2 : Int) (l1 : (List (List UInt8))) (ao5 : Option Addr) (cap5 : Nat) (xs1 : List Value), RL H1 encStr l1 xs1 ∧ Sub [(1, (.func (.func 50) #[] #[(pB b2 0)])), (5, (.slice ao5 l1.length cap5)), (12, (.slice ao4 r2.length cap4)), (13, (.int .i64 (r2.length : Int))), (14, (.int .i64 i2)), (1000000007, (.bool false))] g' ∧ (∀ w', S' w' → St w H [.row 9 (encStr).size l1.length (.slice ao5 l1.length cap5) xs1, .blk b2 39 [(.slice ao2 p_before.length cap2)], .blk b1 24 [(.int .i64 p_s.actuators), (.slice ao1 p_s.steps.length cap1)]] H1 w') ∧ diagram_Marks_loop2 k2 r2 p_before m2 i2 l1 = some r) ((Int.toNat ((r2.length : Int) - 0) + 1)) ⟨0, ([] : List (List UInt8)), none, 0, [], rl1, (Sub.all rfl), fun w' s => (s.select [0, 2, 3] (by decide) rfl), hm⟩ ?_ ?_
  ·
   rintro g' S' ⟨_, _, _, _, _, _, _, _, hm⟩
   exact none_some hm
  rintro m2 g' S' ⟨i2, l1, ao5, cap5, xs1, rl2, hsub3, hS3, hm⟩
  refine WP.sub hsub3 (WP.weaken hS3 ?_)
  rw [diagram_Marks_loop2] at hm
  refine WP.seq (WP.region (V rfl (ov_lss rfl rfl rfl) (WL.nil (tn (WP.seq ?_)))))
  refine WP.cond rfl (fun hc11 => ?_) (fun hc11 => ?_)
  ·
   replace hm := ite_t hc11 hm
   refine WP.skip (tn ?_)
   obtain ⟨k3, hk3, hm⟩ := joinK_some hm
   refine WP.seq_join (fun g' S' => ∃ (l10 : (List (List UInt8))) (ao15 : Option Addr) (cap15 : Nat) (xs5 : List Value), RL H1 encStr l10 xs5 ∧ Sub [(1, (.func (.func 50) #[] #[(pB b2 0)])), (5, (.slice ao15 l10.length cap15)), (12, (.slice ao4 r2.length cap4)), (13, (.int .i64 (r2.length : Int))), (14, (.int .i64 i2)), (1000000007, (.bool false))] g' ∧ (∀ w', S' w' → St w H [.row 9 (encStr).size l10.length (.slice ao15 l10.length cap15) xs5, .blk b2 39 [(.slice ao2 p_before.length cap2)], .blk b1 24 [(.int .i64 p_s.actuators), (.slice ao1 p_s.steps.length cap1)]] H1 w') ∧ k3 l10 = some r) ?_ ?_
   ·
    refine WP.block (WP.seq (WP.region (Vm rfl ?_)))
    obtain ⟨x3, e6, hm⟩ := bind_some hm
    obtain ⟨h16, h17, h18, cs3, h19, h20⟩ := h14.get e6 (by decide)
    obtain ⟨ao6, cap6, rfl, h15, hc12⟩ := h19
    refine V rfl (ov_indexAddr underlying76 sizeOf78 rfl rfl rfl h16 h17 h18) (V rfl (ov_load_elem (v := (.slice ao6 x3.length cap6)) isAgg78 rfl rfl h20) (Va rfl (Va rfl (WL.nil (tn (WP.seq (WP.region (V rfl (ov_build (r := (.agg #[(.pointer none), (.slice none 0 0)])) rfl rfl (fun _ => by kernel_rfl)) ?_))))))))
    refine WL.within (fun w1 s1 => ?_)
    have sv1 := h14
    replace h14 := h14.mono s1.hold
    have sv2 := h20
    replace h20 := h20.mono s1.hold
    have sv3 := h15
    replace h15 := h15.mono s1.hold
    have sv4 := h1
    replace h1 := h1.mono s1.hold
    have sv5 := rl2
    replace rl2 := rl2.mono s1.hold
    have sv6 := h2
    replace h2 := h2.mono s1.hold
    have sv7 := hG
    replace hG := hG.mono s1.hold
    have h21 : RowAt (hp w1) (some ⟨b2, 0, none⟩) 0 [(.slice ao2 p_before.length cap2)] := s1.box_row (i := 1) rfl
    have h22 : RowAt (hp w1) (some ⟨b1, 0, none⟩) 0 [(.int .i64 p_s.actuators), (.slice ao1 p_s.steps.length cap1)] := s1.box_row (i := 2) rfl
    refine ws rfl (os_box (cs := [(.pointer none), (.slice none 0 0)]) rfl rfl rfl (fun b4 => ?_))
    refine Va rfl (WL.nil (tn (WP.seq (WP.region (Vm rfl (Vm rfl ?_))))))
    obtain ⟨r3, e7, hm⟩ := bind_some hm
    refine wo rfl (oq_con (r := (mkS r3)) call45 rfl rfl (fun w' s => ⟨_, (diagram_letter_con i2  w' (hp w1) s.hold hG r3 e7)⟩)) ?_
    obtain ⟨s2, e8, hm⟩ := bind_some hm
    refine V rfl (ov_sadd' e8 rfl rfl rfl) ?_
    refine ws rfl (os_inline (cap := []) (vs := [(pB b4 0), (mkS s2)]) call82 rfl rfl rfl func82 rfl 19 ntmps82 rfl (fun w' s => ?_))
    refine WP.seq (WP.region (Va rfl (Va rfl (WL.nil (tn (WP.seq (WP.region (Vm rfl ?_))))))))
    refine ws rfl (os_copyCheck (i := 0) rfl rfl rfl (.inl rfl) ?_)
    refine WL.nil (tn (WP.seq (WP.region (Vm rfl (Vm rfl (V rfl (ov_nilCheckB rfl rfl) (V rfl (ov_fieldAddr underlying123 rfl rfl rfl sizeOf75 rfl rfl) (Vl 0 isAgg75 rfl (Vm rfl ?_)))))))))
    have rl3 := RL.nil (α := UInt8) (hp w1) encByte
    refine WL.weaken (fun _ s => s.nilrow 5 (encByte).size) ?_
    obtain ⟨l2, e9, hm⟩ := bind_some hm
    refine ws rfl (os_app_str (i := 0) (xs := []) underlying75 underlying9 (by kernel_rfl : (prog.info? 5).map (fun i => (i.zero, i.size, i.bytes)) = some (some (.int .u8 0), 1, 1)) rfl rfl rfl rfl rl3 e9 (fun ao7 cap7 ys1 rl4 => ?_))
    refine V rfl (ov_nilCheckB rfl rfl) (V rfl (ov_fieldAddr underlying123 rfl rfl rfl sizeOf75 rfl rfl) ?_)
    refine ws0 rfl (os_store (i := 1) (vs := [(.slice ao7 (([] : List UInt8) ++ s2).length cap7)]) (cs' := [(pB b4 0), (.slice ao7 (([] : List UInt8) ++ s2).length cap7)]) sizeOf75 rfl rfl rfl rfl rfl rfl rfl rfl rfl ?_)
    refine WL.nil (tn (WP.seq (WP.region (Vm rfl (V rfl (ov_len_string underlying9 rfl rfl) (Va rfl (Va rfl (WL.nil (tn (WP.ret ?_))))))))))
    refine retQ_ret (v := (.tuple #[(.int .i64 (s2.length : Int)), .nilIface])) results82 (Res.tmp rfl (Res.tmp rfl Res.nil)) rfl (fun w' s => ⟨_, ?_, s⟩)
    refine WL.nil (tn ?_)
    obtain ⟨k4, hk4, hm⟩ := joinK_some hm
    refine WP.seq_join (fun g' S' => ∃ (l8 : (List UInt8)) (ao13 : Option Addr) (cap13 : Nat) (xs4 : List Value), RL (hp w1) encByte l8 xs4 ∧ Sub [(1, (.func (.func 50) #[] #[(pE (some ⟨b2, 0, none⟩) 0)])), (5, (.slice ao5 l1.length cap5)), (8, (pB b4 0)), (12, (.slice ao4 r2.length cap4)), (13, (.int .i64 (r2.length : Int))), (14, (.int .i64 i2)), (1000000007, (.bool false))] g' ∧ (∀ w', S' w' → St w1 (hp w1) [.row 5 (encByte).size l8.length (.slice ao13 l8.length cap13) xs4, .blk b4 123 [(pB b4 0), (.slice ao13 l8.length cap13)]] (hp w1) w') ∧ k4 l8 = some r) ?_ ?_
    ·
     refine WP.seq (WP.region (Vm rfl (V rfl (ov_len_slice underlying78 rfl rfl) (Vm rfl (WL.nil (tn (WP.block ?_)))))))
     refine WP.loop (fun m3 g' S' => ∃ (i3 : Int) (l3 : (List UInt8)) (ao8 : Option Addr) (cap8 : Nat) (xs2 : List Value), RL (hp w1) encByte l3 xs2 ∧ Sub [(1, (.func (.func 50) #[] #[(pE (some ⟨b2, 0, none⟩) 0)])), (5, (.slice ao5 l1.length cap5)), (8, (pB b4 0)), (12, (.slice ao4 r2.length cap4)), (13, (.int .i64 (r2.length : Int))), (14, (.int .i64 i2)), (26, (.slice ao6 x3.length cap6)), (27, (.int .i64 (x3.length : Int))), (28, (.int .i64 i3)), (1000000007, (.bool false))] g' ∧ (∀ w', S' w' → St w1 (hp w1) [.row 5 (encByte).size l3.length (.slice ao8 l3.length cap8) xs2, .blk b4 123 [(pB b4 0), (.slice ao8 l3.length cap8)]] (hp w1) w') ∧ diagram_Marks_loop3 p_before x3 k4 m3 i3 l3 = some r) ((Int.toNat ((x3.length : Int) - 0) + 1)) ⟨0, (([] : List UInt8) ++ s2), ao7, cap7, ([] ++ ys1), rl4, (Sub.all rfl), fun w' s => s, hm⟩ ?_ ?_
     ·
      rintro g' S' ⟨_, _, _, _, _, _, _, _, hm⟩
      exact none_some hm
     rintro m3 g' S' ⟨i3, l3, ao8, cap8, xs2, rl5, hsub4, hS4, hm⟩
     refine WP.sub hsub4 (WP.weaken hS4 ?_)
     rw [diagram_Marks_loop3] at hm
     refine WP.seq (WP.region (V rfl (ov_lss rfl rfl rfl) (WL.nil (tn (WP.seq ?_)))))
     refine WP.cond rfl (fun hc13 => ?_) (fun hc13 => ?_)
     ·
      replace hm := ite_t hc13 hm
      refine WP.skip (tn (WP.seq (WP.block (WP.seq (WP.region (Vm rfl ?_))))))
      obtain ⟨x4, e10, hm⟩ := bind_some hm
      obtain ⟨h23, h24, h25, cs4, h26, h27⟩ := h15.get e10 (by decide)
      obtain rfl : cs4 = [(.int .u8 x4.first), (.int .u8 x4.second)] := h26
      refine V rfl (ov_indexAddr underlying78 sizeOf80 rfl rfl rfl h23 h24 h25) (V rfl (ov_load_elems (vs := [(.int .u8 x4.first), (.int .u8 x4.second)]) isAgg80 sizeOf80 rfl rfl rfl h27 h25) ?_)
      refine ws rfl (os_alloc (cs := [(.int .u8 0), (.int .u8 0)]) zeroValue80 rfl rfl (fun b5 => ?_))
      refine Va rfl ?_
      refine ws0 rfl (os_store (i := 0) (vs := [(.int .u8 x4.first), (.int .u8 x4.second)]) (cs' := [(.int .u8 x4.first), (.int .u8 x4.second)]) sizeOf80 rfl rfl rfl rfl rfl rfl rfl rfl rfl ?_)
      refine WL.nil (tn (WP.region (Vm rfl (Vm rfl (Vm rfl (V rfl (ov_load_whole (i := 0) isAgg80 sizeOf80 rfl rfl rfl rfl) ?_))))))
      refine ws rfl (os_inline (cap := [(pE (some ⟨b2, 0, none⟩) 0)]) (vs := [(pB b4 0), (.int .i64 i3), (.agg #[(.int .u8 x4.first), (.int .u8 x4.second)])]) call50 rfl rfl rfl func50 rfl 16 ntmps50 rfl (fun w' s => ?_))
      refine WP.seq (WP.region ?_)
      refine ws rfl (os_box (cs := [(.int .u8 x4.first), (.int .u8 x4.second)]) rfl rfl rfl (fun b6 => ?_))
      refine WL.nil (tn ?_)
      obtain ⟨k5, hk5, hm⟩ := joinK_some hm
      refine WP.seq_join (fun g' S' => ∃ (l5 : (List UInt8)) (ao10 : Option Addr) (cap10 : Nat) (xs3 : List Value), RL (hp w1) encByte l5 xs3 ∧ Sub [(0, (pB b4 0)), (1, (.int .i64 i3)), (6, (pB b6 0)), (1000000007, (.bool false))] g' ∧ (∀ w', S' w' → St w1 (hp w1) [.blk b6 80 [(.int .u8 x4.first), (.int .u8 x4.second)], .blk b5 80 [(.int .u8 x4.first), (.int .u8 x4.second)], .row 5 (encByte).size l5.length (.slice ao10 l5.length cap10) xs3, .blk b4 123 [(pB b4 0), (.slice ao10 l5.length cap10)]] (hp w1) w') ∧ k5 l5 = some r) ?_ ?_
      ·
       refine WP.seq (WP.region (V rfl (ov_load_elem (v := (.slice ao2 p_before.length cap2)) isAgg39 rfl rfl h21) (Vm rfl ?_)))
       obtain ⟨r4, e11, hm⟩ := bind_some hm
       refine wo rfl (oq_con (r := (.bool r4)) call51 rfl rfl (fun w' s => ⟨_, (slices_Contains_intint_con p_before i3 ao2 cap2  w' (hp w1) s.hold h2 hc2 hG r4 e11)⟩)) ?_
       refine WL.nil (tn ?_)
       refine WP.cond rfl (fun hc14 => ?_) (fun hc14 => ?_)
       ·
        replace hm := ite_t hc14 hm
        refine WP.region (Vm rfl ?_)
        refine ws rfl (os_inline (cap := []) (vs := [(pB b4 0), (.int .u8 124)]) call52 rfl rfl rfl func52 rfl 17 ntmps52 rfl (fun w' s => ?_))
        refine WP.seq (WP.region (Va rfl (WL.nil (tn (WP.seq (WP.region (Vm rfl ?_)))))))
        refine ws rfl (os_copyCheck (i := 3) rfl rfl rfl (.inr rfl) ?_)
        refine WL.nil (tn (WP.seq (WP.region (Vm rfl (Vm rfl (V rfl (ov_nilCheckB rfl rfl) (V rfl (ov_fieldAddr underlying123 rfl rfl rfl sizeOf75 rfl rfl) (Vl 3 isAgg75 rfl (Vm rfl ?_)))))))))
        have rl6 : RL (hp w1) encByte ([124] : List UInt8) [(.int .u8 124)] := RL.one rfl
        refine ws rfl (os_buildSlice (cs := [(.int .u8 124)]) (E := 5) (sz := 1) rfl rfl (fun _ => by kernel_rfl) rfl (by decide) (fun b7 => ?_))
        obtain ⟨l4, e12, hm⟩ := bind_some hm
        refine ws rfl (os_app (i := 3) (j := 0) (En := encByte) (xs := xs2) (ys := [(.int .u8 124)]) underlying75 (by kernel_rfl : (prog.info? 5).map (fun i => (i.zero, i.size, i.bytes)) = some (some (.int .u8 0), (encByte).size, 1)) rfl (by decide) rfl rfl rfl rfl rfl rfl rl5 rl6 e12 (fun ao9 cap9 rl7 => ?_))
        refine V rfl (ov_nilCheckB rfl rfl) (V rfl (ov_fieldAddr underlying123 rfl rfl rfl sizeOf75 rfl rfl) ?_)
        refine ws0 rfl (os_store (i := 4) (vs := [(.slice ao9 (l3 ++ ([124] : List UInt8)).length cap9)]) (cs' := [(pB b4 0), (.slice ao9 (l3 ++ ([124] : List UInt8)).length cap9)]) sizeOf75 rfl rfl rfl rfl rfl rfl rfl rfl rfl ?_)
        refine WL.nil (tn (WP.seq (WP.region (Va rfl (WL.nil (tn (WP.ret ?_)))))))
        refine retQ_ret (v := .nilIface) results52 (Res.tmp rfl Res.nil) rfl (fun w' s => ⟨_, ?_, s⟩)
        refine WL.nil (tn ?_)
        exact ⟨(l3 ++ ([124] : List UInt8)), ao9, cap9, (xs2 ++ [(.int .u8 124)]), rl7, (Sub.all rfl), fun w' s => (s.select [1, 2, 3, 4] (by decide) rfl), hm⟩
       replace hm := ite_f hc14 hm
       refine WP.skip (tn ?_)
       exact ⟨l3, ao8, cap8, xs2, rl5, (Sub.all rfl), fun w' s => s, hm⟩
      rintro g' S' ⟨l5, ao10, cap10, xs3, rl8, hsub5, hS5, hm⟩
      refine WP.sub hsub5 (WP.weaken hS5 ?_)
      replace hm := (congrFun hk5 l5).symm.trans hm
      refine WP.region (Vm rfl (Vm rfl (V rfl (ov_load_whole (i := 0) isAgg80 sizeOf80 rfl rfl rfl rfl) ?_)))
      refine ws rfl (os_inline (cap := []) (vs := [(pB b4 0), (.int .i64 i3), (.agg #[(.int .u8 x4.first), (.int .u8 x4.second)])]) call53 rfl rfl rfl func53 rfl 14 ntmps53 rfl (fun w' s => ?_))
      refine WP.seq (WP.region ?_)
      refine ws rfl (os_box (cs := [(.int .u8 x4.first), (.int .u8 x4.second)]) rfl rfl rfl (fun b8 => ?_))
      refine WL.nil (tn (WP.seq (WP.region (Vm rfl (V rfl (ov_fieldAddr underlying80 rfl rfl rfl sizeOf5 rfl rfl) (Vl 0 isAgg5 rfl ?_))))))
      refine ws rfl (os_inline (cap := []) (vs := [(pB b4 0), (.int .u8 x4.first)]) call52 rfl rfl rfl func52 rfl 17 ntmps52 rfl (fun w' s => ?_))
      refine WP.seq (WP.region (Va rfl (WL.nil (tn (WP.seq (WP.region (Vm rfl ?_)))))))
      refine ws rfl (os_copyCheck (i := 4) rfl rfl rfl (.inr rfl) ?_)
      refine WL.nil (tn (WP.seq (WP.region (Vm rfl (Vm rfl (V rfl (ov_nilCheckB rfl rfl) (V rfl (ov_fieldAddr underlying123 rfl rfl rfl sizeOf75 rfl rfl) (Vl 4 isAgg75 rfl (Vm rfl ?_)))))))))
      obtain ⟨u1, e13, hm⟩ := bind_some hm
      replace e13 := guardO_some e13
      have rl9 : RL (hp w1) encByte ([(UInt8.ofNat (Int.toNat x4.first))] : List UInt8) [(.int .u8 x4.first)] := RL.byte1 e13
      refine ws rfl (os_buildSlice (cs := [(.int .u8 x4.first)]) (E := 5) (sz := 1) rfl rfl (fun _ => by kernel_rfl) rfl (by decide) (fun b9 => ?_))
      obtain ⟨l6, e14, hm⟩ := bind_some hm
      refine ws rfl (os_app (i := 4) (j := 0) (En := encByte) (xs := xs3) (ys := [(.int .u8 x4.first)]) underlying75 (by kernel_rfl : (prog.info? 5).map (fun i => (i.zero, i.size, i.bytes)) = some (some (.int .u8 0), (encByte).size, 1)) rfl (by decide) rfl rfl rfl rfl rfl rfl rl8 rl9 e14 (fun ao11 cap11 rl10 => ?_))
      refine V rfl (ov_nilCheckB rfl rfl) (V rfl (ov_fieldAddr underlying123 rfl rfl rfl sizeOf75 rfl rfl) ?_)
      refine ws0 rfl (os_store (i := 5) (vs := [(.slice ao11 (l5 ++ ([(UInt8.ofNat (Int.toNat x4.first))] : List UInt8)).length cap11)]) (cs' := [(pB b4 0), (.slice ao11 (l5 ++ ([(UInt8.ofNat (Int.toNat x4.first))] : List UInt8)).length cap11)]) sizeOf75 rfl rfl rfl rfl rfl rfl rfl rfl rfl ?_)
      refine WL.nil (tn (WP.seq (WP.region (Va rfl (WL.nil (tn (WP.ret ?_)))))))
      refine retQ_ret (v := .nilIface) results52 (Res.tmp rfl Res.nil) rfl (fun w' s => ⟨_, ?_, s⟩)
      refine WL.nil (tn (WP.region (Vm rfl (V rfl (ov_fieldAddr underlying80 rfl rfl rfl sizeOf5 rfl rfl) (Vl 1 isAgg5 rfl ?_)))))
      refine ws rfl (os_inline (cap := []) (vs := [(pB b4 0), (.int .u8 x4.second)]) call52 rfl rfl rfl func52 rfl 17 ntmps52 rfl (fun w' s => ?_))
      refine WP.seq (WP.region (Va rfl (WL.nil (tn (WP.seq (WP.region (Vm rfl ?_)))))))
      refine ws rfl (os_copyCheck (i := 5) rfl rfl rfl (.inr rfl) ?_)
      refine WL.nil (tn (WP.seq (WP.region (Vm rfl (Vm rfl (V rfl (ov_nilCheckB rfl rfl) (V rfl (ov_fieldAddr underlying123 rfl rfl rfl sizeOf75 rfl rfl) (Vl 5 isAgg75 rfl (Vm rfl ?_)))))))))
      obtain ⟨u2, e15, hm⟩ := bind_some hm
      replace e15 := guardO_some e15
      have rl11 : RL (hp w1) encByte ([(UInt8.ofNat (Int.toNat x4.second))] : List UInt8) [(.int .u8 x4.second)] := RL.byte1 e15
      refine ws rfl (os_buildSlice (cs := [(.int .u8 x4.second)]) (E := 5) (sz := 1) rfl rfl (fun _ => by kernel_rfl) rfl (by decide) (fun b10 => ?_))
      obtain ⟨l7, e16, hm⟩ := bind_some hm
      refine ws rfl (os_app (i := 5) (j := 0) (En := encByte) (xs := (xs3 ++ [(.int .u8 x4.first)])) (ys := [(.int .u8 x4.second)]) underlying75 (by kernel_rfl : (prog.info? 5).map (fun i => (i.zero, i.size, i.bytes)) = some (some (.int .u8 0), (encByte).size, 1)) rfl (by decide) rfl rfl rfl rfl rfl rfl rl10 rl11 e16 (fun ao12 cap12 rl12 => ?_))
      refine V rfl (ov_nilCheckB rfl rfl) (V rfl (ov_fieldAddr underlying123 rfl rfl rfl sizeOf75 rfl rfl) ?_)
      refine ws0 rfl (os_store (i := 6) (vs := [(.slice ao12 ((l5 ++ ([(UInt8.ofNat (Int.toNat x4.first))] : List UInt8)) ++ ([(UInt8.ofNat (Int.toNat x4.second))] : List UInt8)).length cap12)]) (cs' := [(pB b4 0), (.slice ao12 ((l5 ++ ([(UInt8.ofNat (Int.toNat x4.first))] : List UInt8)) ++ ([(UInt8.ofNat (Int.toNat x4.second))] : List UInt8)).length cap12)]) sizeOf75 rfl rfl rfl rfl rfl rfl rfl rfl rfl ?_)
      refine WL.nil (tn (WP.seq (WP.region (Va rfl (WL.nil (tn (WP.ret ?_)))))))
      refine retQ_ret (v := .nilIface) results52 (Res.tmp rfl Res.nil) rfl (fun w' s => ⟨_, ?_, s⟩)
      refine WL.nil ?_
      refine retQ_end (v := (.tuple #[])) results53 Res.nil rfl (fun w' s => ⟨_, ?_, s⟩)
      refine WL.nil ?_
      refine retQ_end (v := (.tuple #[])) results50 Res.nil rfl (fun w' s => ⟨_, ?_, s⟩)
      refine WL.nil (bn (tn (WP.region (V rfl (ov_add rfl rfl rfl) (Vm rfl (WL.nil (tn ?_)))))))
      exact ⟨(IntKind.wrap .i64 (i3 + 1)), ((l5 ++ ([(UInt8.ofNat (Int.toNat x4.first))] : List UInt8)) ++ ([(UInt8.ofNat (Int.toNat x4.second))] : List UInt8)), ao12, cap12, ((xs3 ++ [(.int .u8 x4.first)]) ++ [(.int .u8 x4.second)]), rl12, (Sub.all rfl), fun w' s => (s.select [5, 6] (by decide) rfl), hm⟩
     replace hm := ite_f hc13 hm
     refine WP.exit (then_exit (then_exit (block_here (tn ?_))))
     exact ⟨l3, ao8, cap8, xs2, rl5, (Sub.all rfl), fun w' s => s, hm⟩
    rintro g' S' ⟨l8, ao13, cap13, xs4, rl13, hsub6, hS6, hm⟩
    refine WP.sub hsub6 (WP.weaken hS6 ?_)
    replace hm := (congrFun hk4 l8).symm.trans hm
    refine WP.region (Vm rfl (Vm rfl ?_))
    have h14 := sv1
    have h20 := sv2
    have h15 := sv3
    have h1 := sv4
    have rl2 := sv5
    have h2 := sv6
    have hG := sv7
    refine ws rfl (os_bstring_in s1 (i := 1) (j := 0) rfl rfl rfl rfl (.inr rfl) rl13 ?_)
    have rl14 : RL H1 encStr ([l8] : List (List UInt8)) [(mkS l8)] := RL.cons (cs := [(mkS l8)]) (xs := []) rfl (RL.nil _ _)
    refine ws rfl (os_buildSlice (cs := [(mkS l8)]) (E := 9) (sz := 1) rfl rfl (fun _ => by kernel_rfl) rfl (by decide) (fun b11 => ?_))
    obtain ⟨l9, e17, hm⟩ := bind_some hm
    refine ws rfl (os_app (i := 1) (j := 0) (En := encStr) (xs := xs1) (ys := [(mkS l8)]) underlying27 (by kernel_rfl : (prog.info? 9).map (fun i => (i.zero, i.size, i.bytes)) = some (some (mkS []), (encStr).size, 16)) rfl (by decide) rfl rfl rfl rfl rfl rfl rl2 rl14 e17 (fun ao14 cap14 rl15 => ?_))
    refine Va rfl (WL.nil (bn (tn ?_)))
    exact ⟨(l1 ++ ([l8] : List (List UInt8))), ao14, cap14, (xs1 ++ [(mkS l8)]), rl15, (Sub.all rfl), fun w' s => (s.select [1, 2, 3] (by decide) rfl), hm⟩
   rintro g' S' ⟨l10, ao15, cap15, xs5, rl16, hsub7, hS7, hm⟩
   refine WP.sub hsub7 (WP.weaken hS7 ?_)
   replace hm := (congrFun hk3 l10).symm.trans hm
   refine WP.region (V rfl (ov_add rfl rfl rfl) (Vm rfl (WL.nil (tn ?_))))
   exact ⟨(IntKind.wrap .i64 (i2 + 1)), l10, ao15, cap15, xs5, rl16, (Sub.all rfl), fun w' s => s, hm⟩
  replace hm := ite_f hc11 hm
  refine WP.exit (then_exit (then_exit (block_here (tn ?_))))
  exact ⟨H1, l1, ao5, cap5, xs1, hle1, rl2, (Sub.all rfl), fun w' s => s, hm⟩
 rintro g' S' ⟨H2, l11, ao16, cap16, xs6, hle2, rl17, hsub8, hS8, hm⟩
 refine WP.sub hsub8 (WP.weaken hS8 ?_)
 replace hm := (congrFun hk2 l11).symm.trans hm
 refine WP.seq (WP.region (Vm rfl (Va rfl (WL.nil (tn (WP.ret ?_))))))
 refine retQ_ret (v := (.slice ao16 l11.length cap16)) results49 (Res.tmp rfl Res.nil) rfl (fun w' s => ⟨_, ?_, s⟩)
 refine Va rfl (Va rfl (WL.nil (tn (WP.ret ?_))))
 obtain rfl := Option.some.inj hm
 refine retQ_ret results20 (Res.tmp rfl (Res.tmp rfl Res.nil)) rfl (fun w' s => ⟨s.below, ?_⟩)
 obtain ⟨h28, hc15⟩ := s.ret_row (i := 0) rfl rl17
 exact ⟨ao16, cap16, rfl, h28, hc15⟩
theorem diagram_given_con (p_l : (List (List UInt8))) (p_most : Int) (ao1 : Option Addr) (cap1 : Nat) (w : World) (H : Heap) (hH : Le H (hp w)) (h1 : SL H encStr ao1 p_l) (hc1 : p_l.length ≤ cap1) (hG : Glob H) (r : Int) (hm : diagram_given p_l p_most = some r) :
  Con prog 66 [(.slice ao1 p_l.length cap1), (.int .i64 p_most)] w H (fun v _ => v = (.int .i64 r)) := by
 unfold diagram_given at hm
 refine con_of hH func66 rfl 11 ntmps66 rfl ?_
 refine WP.seq (WP.region (Va rfl (WL.nil (tn (WP.seq (WP.seq (WP.region (Vm rfl (V rfl (ov_len_slice underlying27 rfl rfl) (Vm rfl (V rfl (ov_gtr rfl rfl rfl) (WL.nil (tn ?_)))))))))))))
 refine WP.cond rfl (fun hc2 => ?_) (fun hc2 => ?_)
 ·
  replace hm := ite_t hc2 hm
  refine WP.seq (WP.region (Va rfl (WL.nil (tn (WP.ret (then_ret ?_))))))
  obtain rfl := Option.some.inj hm
  refine retQ_ret results66 (Res.tmp rfl Res.nil) rfl (fun w' s => ⟨s.below, ?_⟩)
  exact rfl
 replace hm := ite_f hc2 hm
 refine WP.skip (tn (WP.seq (WP.seq (WP.region (Vm rfl ?_)))))
 obtain ⟨r1, e1, hm⟩ := bind_some hm
 refine wo rfl (oq_con (r := (.bool r1)) call102 rfl rfl (fun w' s => ⟨_, (slices_ContainsFunc_stringstring_diagram_given_1_con p_l ao1 cap1  w' H s.hold h1 hc1 hG r1 e1)⟩)) ?_
 refine WL.nil (tn ?_)
 refine WP.cond rfl (fun hc3 => ?_) (fun hc3 => ?_)
 ·
  replace hm := ite_t hc3 hm
  refine WP.seq (WP.region (Va rfl (WL.nil (tn (WP.ret (then_ret ?_))))))
  obtain rfl := Option.some.inj hm
  refine retQ_ret results66 (Res.tmp rfl Res.nil) rfl (fun w' s => ⟨s.below, ?_⟩)
  exact rfl
 replace hm := ite_f hc3 hm
 refine WP.skip (tn (WP.seq (WP.region (Va rfl (WL.nil (tn (WP.ret ?_)))))))
 obtain rfl := Option.some.inj hm
 refine retQ_ret results66 (Res.tmp rfl Res.nil) rfl (fun w' s => ⟨s.below, ?_⟩)
 exact rfl
theorem internal_stringslite_HasPrefix_con (p_s : (List UInt8)) (p_prefix : (List UInt8)) (w : World) (H : Heap) (hH : Le H (hp w)) (hG : Glob H) (r : Bool) (hm : internal_stringslite_HasPrefix p_s p_prefix = some r) :
  Con prog 104 [(mkS p_s), (mkS p_prefix)] w H (fun v _ => v = (.bool r)) := by
 unfold internal_stringslite_HasPrefix at hm
 refine con_of hH func104 rfl 18 ntmps104 rfl ?_
 refine WP.seq (WP.region (Va rfl (WL.nil (tn (WP.seq (WP.region (Vm rfl (V rfl (ov_len_string underlying9 rfl rfl) (Vm rfl (V rfl (ov_len_string underlying9 rfl rfl) (V rfl (ov_geq rfl rfl rfl) (Vm rfl ?_))))))))))))
 obtain ⟨c1, e1, hm⟩ := bind_some hm
 refine WL.cut_bool 7 17 (x := c1) ?_ ?_
 ·
  rcases Bool.eq_false_or_eq_true (decide ((p_s.length : Int) ≥ (p_prefix.length : Int))) with hc1 | hc1
  ·
   replace hm := ite_t hc1 e1
   refine wy hc1 rfl (ov_move rfl rfl) ?_
   refine wy hc1 rfl (ov_move rfl rfl) ?_
   refine wy hc1 rfl (ov_len_string underlying9 rfl rfl) ?_
   obtain ⟨s1, e2, hm⟩ := bind_some hm
   refine wy hc1 rfl (ov_slice_string_to underlying9 rfl rfl rfl e2) ?_
   refine wy hc1 rfl (ov_move rfl rfl) ?_
   refine wy hc1 rfl (ov_seql rfl rfl rfl) ?_
   refine V rfl (ov_pick_true rfl (guard_eq rfl hc1) rfl) ?_
   exact WL.nil ⟨Sub.cons' rfl (congrArg Value.bool (Option.some.inj hm)) (Sub.dropn 7 rfl), fun _ s => s⟩
  replace hm := ite_f hc1 e1
  refine Vi rfl (Idle.no rfl rfl rfl hc1) (Vi rfl (Idle.no rfl rfl rfl hc1) (Vi rfl (Idle.no rfl rfl rfl hc1) (Vi rfl (Idle.no rfl rfl rfl hc1) (Vi rfl (Idle.no rfl rfl rfl hc1) (Vi rfl (Idle.no rfl rfl rfl hc1) (V rfl (ov_pick_false rfl (guard_eq rfl hc1) rfl) ?_))))))
  exact WL.nil ⟨Sub.cons' rfl (congrArg Value.bool (Option.some.inj hm)) (Sub.dropn 7 rfl), fun _ s => s⟩
 refine Va rfl (WL.nil (tn (WP.ret ?_)))
 obtain rfl := Option.some.inj hm
 refine retQ_ret results104 (Res.tmp rfl Res.nil) rfl (fun w' s => ⟨s.below, ?_⟩)
 exact rfl
theorem strings_HasPrefix_con (p_s : (List UInt8)) (p_prefix : (List UInt8)) (w : World) (H : Heap) (hH : Le H (hp w)) (hG : Glob H) (r : Bool) (hm : strings_HasPrefix p_s p_prefix = some r) :
  Con prog 67 [(mkS p_s), (mkS p_prefix)] w H (fun v _ => v = (.bool r)) := by
 unfold strings_HasPrefix at hm
 refine con_of hH func67 rfl 8 ntmps67 rfl ?_
 refine WP.seq (WP.region (Va rfl (WL.nil (tn (WP.seq (WP.region (Vm rfl (Vm rfl ?_))))))))
 obtain ⟨r1, e1, hm⟩ := bind_some hm
 refine wo rfl (oq_con (r := (.bool r1)) call104 rfl rfl (fun w' s => ⟨_, (internal_stringslite_HasPrefix_con p_s p_prefix  w' H s.hold hG r1 e1)⟩)) ?_
 refine Va rfl (WL.nil (tn (WP.ret ?_)))
 obtain rfl := Option.some.inj hm
 refine retQ_ret results67 (Res.tmp rfl Res.nil) rfl (fun w' s => ⟨s.below, ?_⟩)
 exact rfl
theorem slices_Index_bytebyte_con (p_s : (List Int)) (p_v : Int) (ao1 : Option Addr) (cap1 : Nat) (w : World) (H : Heap) (hH : Le H (hp w)) (h1 : SL H (encInt .u8) ao1 p_s) (hc1 : p_s.length ≤ cap1) (hG : Glob H) (r : Int) (hm : slices_Index_bytebyte p_s p_v = some r) :
  Con prog 105 [(.slice ao1 p_s.length cap1), (.int .u8 p_v)] w H (fun v _ => v = (.int .i64 r)) := by
 unfold slices_Index_bytebyte at hm
 refine con_of hH func105 rfl 19 ntmps105 rfl ?_
 refine WP.seq (WP.region (Va rfl (WL.nil (tn ?_))))
 obtain ⟨k1, hk1, hm⟩ := joinK_some hm
 refine WP.seq_join (fun g' S' => Sub [(1000000007, (.bool false))] g' ∧ (∀ w', S' w' → St w H [] H w') ∧ k1 = some r) ?_ ?_
 ·
  refine WP.seq (WP.region (Vm rfl (V rfl (ov_len_slice underlying75 rfl rfl) (Vm rfl (WL.nil (tn (WP.block ?_)))))))
  refine WP.loop (fun m1 g' S' => ∃ (i1 : Int), Sub [(0, (.slice ao1 p_s.length cap1)), (1, (.int .u8 p_v)), (7, (.int .i64 (p_s.length : Int))), (8, (.int .i64 i1)), (1000000007, (.bool false))] g' ∧ (∀ w', S' w' → St w H [] H w') ∧ slices_Index_bytebyte_loop1 p_s p_v k1 m1 i1 = some r) ((Int.toNat ((p_s.length : Int) - 0) + 1)) ⟨0, (Sub.all rfl), fun w' s => s, hm⟩ ?_ ?_
  ·
   rintro g' S' ⟨_, _, _, hm⟩
   exact none_some hm
  rintro m1 g' S' ⟨i1, hsub1, hS1, hm⟩
  refine WP.sub hsub1 (WP.weaken hS1 ?_)
  rw [slices_Index_bytebyte_loop1] at hm
  refine WP.seq (WP.region (V rfl (ov_lss rfl rfl rfl) (WL.nil (tn (WP.seq ?_)))))
  refine WP.cond rfl (fun hc2 => ?_) (fun hc2 => ?_)
  ·
   replace hm := ite_t hc2 hm
   refine WP.skip (tn (WP.seq (WP.block (WP.seq (WP.region (Vm rfl (Va rfl (WL.nil (tn (WP.seq (WP.region (Vm rfl (Vm rfl ?_)))))))))))))
   refine Vm rfl ?_
   obtain ⟨x1, e1, hm⟩ := bind_some hm
   obtain ⟨h2, h3, h4, cs1, h5, h6⟩ := h1.get e1 (by decide)
   obtain rfl : cs1 = [(.int .u8 x1)] := h5
   refine V rfl (ov_indexAddr underlying75 sizeOf5 rfl rfl rfl h2 h3 h4) (V rfl (ov_load_elem (v := (.int .u8 x1)) isAgg5 rfl rfl h6) (V rfl (ov_eql rfl rfl rfl) (WL.nil (tn ?_))))
   refine WP.cond rfl (fun hc3 => ?_) (fun hc3 => ?_)
   ·
    replace hm := ite_t hc3 hm
    refine WP.seq (WP.region (Vm rfl (Va rfl (WL.nil (tn (WP.ret (block_ret (then_ret (then_ret (block_ret (then_ret ?_)))))))))))
    obtain rfl := Option.some.inj hm
    refine retQ_ret results105 (Res.tmp rfl Res.nil) rfl (fun w' s => ⟨s.below, ?_⟩)
    exact rfl
   replace hm := ite_f hc3 hm
   refine WP.skip (bn (tn (WP.region (V rfl (ov_add rfl rfl rfl) (Vm rfl (WL.nil (tn ?_)))))))
   exact ⟨(IntKind.wrap .i64 (i1 + 1)), (Sub.all rfl), fun w' s => s, hm⟩
  replace hm := ite_f hc2 hm
  refine WP.exit (then_exit (then_exit (block_here (tn ?_))))
  exact ⟨(Sub.all rfl), fun w' s => s, hm⟩
 rintro g' S' ⟨hsub2, hS2, hm⟩
 refine WP.sub hsub2 (WP.weaken hS2 ?_)
 replace hm := hk1.symm.trans hm
 refine WP.seq (WP.region (Va rfl (WL.nil (tn (WP.ret ?_)))))
 obtain rfl := Option.some.inj hm
 refine retQ_ret results105 (Res.tmp rfl Res.nil) rfl (fun w' s => ⟨s.below, ?_⟩)
 exact rfl
end Go.Proofs.YtbckcjjffbgidaaGreatDoor.W
