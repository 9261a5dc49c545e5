/- The walks. Written by our own program gen.py; Lean checks it. -/
import Derived.Test.YtbckcjjffbgidaaGreatDoorPlain
import Derived.Test.YtbckcjjffbgidaaGreatDoorEqs
import Derived.Test.YtbckcjjffbgidaaGreatDoorProg
import Derived.Test.YtbckcjjffbgidaaGreatDoorExt
import Derived.Test.YtbckcjjffbgidaaGreatDoorBuild
import Derived.Test.YtbckcjjffbgidaaGreatDoorClone
import Derived.Test.YtbckcjjffbgidaaGreatDoorWalk0
import Derived.Test.YtbckcjjffbgidaaGreatDoorWalk2
import Derived.Test.YtbckcjjffbgidaaGreatDoorWalk3
set_option linter.unusedVariables false
set_option maxRecDepth 100000
set_option maxHeartbeats 4000000
namespace Go.Proofs.YtbckcjjffbgidaaGreatDoor.W
open Go Go.RowKit Go.Proofs.Tryz
theorem ref16_FewLines_con (p_l : (List (List UInt8))) (ao1 : Option Addr) (cap1 : Nat) (w : World) (H : Heap) (hH : Le H (hp w)) (h1 : SL H encStr ao1 p_l) (hc1 : p_l.length ≤ cap1) (hG : Glob H) (r : Bool) (hm : ref16_FewLines p_l = some r) :
  Con prog 29 [(.slice ao1 p_l.length cap1)] w H (fun v _ => v = (.bool r)) := by
 unfold ref16_FewLines at hm
 refine con_of hH func29 rfl 39 ntmps29 rfl ?_
 refine WP.seq (WP.region (Va rfl (WL.nil (tn ?_))))
 obtain ⟨k1, hk1, hm⟩ := joinK_some hm
 refine WP.seq_join (fun g' S' => Sub [(0, (.slice ao1 p_l.length cap1)), (1000000007, (.bool false))] g' ∧ (∀ w', S' w' → St w H [] H w') ∧ k1 = some r) ?_ ?_
 ·
  refine WP.seq (WP.region (Va rfl (WL.nil (tn (WP.block ?_)))))
  refine WP.loop (fun m1 g' S' => ∃ (i1 : Int), Sub [(0, (.slice ao1 p_l.length cap1)), (3, (.int .i64 i1)), (1000000007, (.bool false))] g' ∧ (∀ w', S' w' → St w H [] H w') ∧ ref16_FewLines_loop1 p_l k1 m1 i1 = some r) (11) ⟨0, (Sub.all rfl), fun w' s => s, hm⟩ ?_ ?_
  ·
   rintro g' S' ⟨_, _, _, hm⟩
   exact none_some hm
  rintro m1 g' S' ⟨i1, hsub1, hS1, hm⟩
  refine WP.sub hsub1 (WP.weaken hS1 ?_)
  rw [ref16_FewLines_loop1] at hm
  refine WP.seq (WP.seq (WP.region (Vm rfl (Vm rfl (V rfl (ov_len_slice underlying27 rfl rfl) (V rfl (ov_lss rfl rfl rfl) (Vm rfl ?_)))))))
  refine WL.cut_bool 3 11 (x := ((decide (i1 < (p_l.length : Int))) && (decide (i1 < 10)))) ?_ ?_
  ·
   rcases Bool.eq_false_or_eq_true (decide (i1 < (p_l.length : Int))) with hc2 | hc2
   ·
    refine wy hc2 rfl (ov_move rfl rfl) ?_
    refine wy hc2 rfl (ov_lss rfl rfl rfl) ?_
    refine V rfl (ov_pick_true rfl (guard_eq rfl hc2) rfl) ?_
    exact WL.nil ⟨Sub.cons' rfl (congrArg Value.bool (andT hc2)) (Sub.dropn 3 rfl), fun _ s => s⟩
   refine Vi rfl (Idle.no rfl rfl rfl hc2) (Vi rfl (Idle.no rfl rfl rfl hc2) (V rfl (ov_pick_false rfl (guard_eq rfl hc2) rfl) ?_))
   exact WL.nil ⟨Sub.cons' rfl (congrArg Value.bool (andF hc2)) (Sub.dropn 3 rfl), fun _ s => s⟩
  refine WL.nil (tn ?_)
  refine WP.cond rfl (fun hc3 => ?_) (fun hc3 => ?_)
  ·
   replace hm := ite_t hc3 hm
   refine WP.skip (tn (WP.seq (WP.block (WP.seq (WP.region (Vm rfl (Vm rfl ?_)))))))
   obtain ⟨x1, e1, hm⟩ := bind_some hm
   obtain ⟨h2, h3, h4, cs1, h5, h6⟩ := h1.get e1 (by decide)
   obtain rfl : cs1 = [(mkS x1)] := h5
   refine V rfl (ov_indexAddr underlying27 sizeOf9 rfl rfl rfl h2 h3 h4) (V rfl (ov_load_elem (v := (mkS x1)) isAgg9 rfl rfl h6) (V rfl (ov_len_string underlying9 rfl rfl) (V rfl (ov_gtr rfl rfl rfl) (Vm rfl ?_))))
   obtain ⟨c1, e2, hm⟩ := bind_some hm
   refine WL.cut_bool 15 35 (x := c1) ?_ ?_
   ·
    rcases Bool.eq_false_or_eq_true (decide ((x1.length : Int) > 300)) with hc4 | hc4
    ·
     replace hm := ite_t hc4 e2
     refine wy hc4 rfl (ov_move rfl rfl) ?_
     refine wy hc4 rfl (ov_move rfl rfl) ?_
     obtain ⟨x2, e3, hm⟩ := bind_some hm
     obtain ⟨h7, h8, h9, cs2, h10, h11⟩ := h1.get e3 (by decide)
     obtain rfl : cs2 = [(mkS x2)] := h10
     refine wy hc4 rfl (ov_indexAddr underlying27 sizeOf9 rfl rfl rfl h7 h8 h9) ?_
     refine wy hc4 rfl (ov_load_elem (v := (mkS x2)) isAgg9 rfl rfl h11) ?_
     refine wy hc4 rfl (ov_len_string underlying9 rfl rfl) ?_
     refine wy hc4 rfl (ov_leq rfl rfl rfl) ?_
     refine wy hc4 rfl (ov_move rfl rfl) ?_
     obtain ⟨c2, e4, hm⟩ := bind_some hm
     refine WL.cut_bool 7 34 (x := c2) ?_ ?_
     ·
      rcases Bool.eq_false_or_eq_true (decide ((x2.length : Int) ≤ 4096)) with hc5 | hc5
      ·
       replace hm := ite_t hc5 e4
       refine Vi rfl (Idle.no rfl rfl rfl hc5) (Vi rfl (Idle.no rfl rfl rfl hc5) (Vi rfl (Idle.no rfl rfl rfl hc5) (Vi rfl (Idle.no rfl rfl rfl hc5) (Vi rfl (Idle.no rfl rfl rfl hc5) (Vi rfl (Idle.no rfl rfl rfl hc5) ?_)))))
       refine wy hc4 rfl (ov_pick_true rfl (guard_eq rfl hc5) rfl) ?_
       exact WL.nil ⟨Sub.cons' rfl (congrArg Value.bool (Option.some.inj hm)) (Sub.dropn 7 rfl), fun _ s => s⟩
      replace hm := ite_f hc5 e4
      refine wy hc5 rfl (ov_move rfl rfl) ?_
      refine wy hc5 rfl (ov_move rfl rfl) ?_
      obtain ⟨x3, e5, hm⟩ := bind_some hm
      obtain ⟨h12, h13, h14, cs3, h15, h16⟩ := h1.get e5 (by decide)
      obtain rfl : cs3 = [(mkS x3)] := h15
      refine wy hc5 rfl (ov_indexAddr underlying27 sizeOf9 rfl rfl rfl h12 h13 h14) ?_
      refine wy hc5 rfl (ov_load_elem (v := (mkS x3)) isAgg9 rfl rfl h16) ?_
      refine wy hc5 rfl (ov_len_string underlying9 rfl rfl) ?_
      refine wy hc5 rfl (ov_gtr rfl rfl rfl) ?_
      refine wy hc4 rfl (ov_pick_false rfl (guard_eq rfl hc5) rfl) ?_
      exact WL.nil ⟨Sub.cons' rfl (congrArg Value.bool (Option.some.inj hm)) (Sub.dropn 7 rfl), fun _ s => s⟩
     refine V rfl (ov_pick_true rfl (guard_eq rfl hc4) rfl) ?_
     exact WL.nil ⟨Sub.cons' rfl (congrArg Value.bool (Option.some.inj hm)) (Sub.dropn 9 rfl), fun _ s => s⟩
    replace hm := ite_f hc4 e2
    refine Vi rfl (Idle.no rfl rfl rfl hc4) (Vi rfl (Idle.no rfl rfl rfl hc4) (Vi rfl (Idle.no rfl rfl rfl hc4) (Vi rfl (Idle.no rfl rfl rfl hc4) (Vi rfl (Idle.no rfl rfl rfl hc4) (Vi rfl (Idle.no rfl rfl rfl hc4) (Vi rfl (Idle.no rfl rfl rfl hc4) (Vi rfl (Idle.undef rfl rfl rfl) (Vi rfl (Idle.undef rfl rfl rfl) (Vi rfl (Idle.undef rfl rfl rfl) (Vi rfl (Idle.undef rfl rfl rfl) (Vi rfl (Idle.undef rfl rfl rfl) (Vi rfl (Idle.undef rfl rfl rfl) (Vi rfl (Idle.no rfl rfl rfl hc4) ?_)))))))))))))
    refine V rfl (ov_pick_false rfl (guard_eq rfl hc4) rfl) ?_
    exact WL.nil ⟨Sub.cons' rfl (congrArg Value.bool (Option.some.inj hm)) (Sub.dropn 15 rfl), fun _ s => s⟩
   refine WL.nil (tn ?_)
   refine WP.cond rfl (fun hc6 => ?_) (fun hc6 => ?_)
   ·
    replace hm := ite_t hc6 hm
    refine WP.seq (WP.region (Va rfl (WL.nil (tn (WP.ret (block_ret (then_ret (then_ret (block_ret (then_ret ?_))))))))))
    obtain rfl := Option.some.inj hm
    refine retQ_ret results29 (Res.tmp rfl Res.nil) rfl (fun w' s => ⟨s.below, ?_⟩)
    exact rfl
   replace hm := ite_f hc6 hm
   refine WP.skip (bn (tn (WP.region (Vm rfl (V rfl (ov_add rfl rfl rfl) (Va rfl (WL.nil (tn ?_))))))))
   exact ⟨(IntKind.wrap .i64 (i1 + 1)), (Sub.all rfl), fun w' s => s, hm⟩
  replace hm := ite_f hc3 hm
  refine WP.exit (then_exit (then_exit (block_here (tn ?_))))
  exact ⟨(Sub.all rfl), fun w' s => s, hm⟩
 rintro g' S' ⟨hsub2, hS2, hm⟩
 refine WP.sub hsub2 (WP.weaken hS2 ?_)
 replace hm := hk1.symm.trans hm
 refine WP.seq (WP.region (Vm rfl (V rfl (ov_len_slice underlying27 rfl rfl) (V rfl (ov_leq rfl rfl rfl) (Va rfl (WL.nil (tn (WP.ret ?_))))))))
 obtain rfl := Option.some.inj hm
 refine retQ_ret results29 (Res.tmp rfl Res.nil) rfl (fun w' s => ⟨s.below, ?_⟩)
 exact rfl
theorem ref16_limited_con (p_lines : (List (List UInt8))) (p_most : Int) (ao1 : Option Addr) (cap1 : Nat) (w : World) (H : Heap) (hH : Le H (hp w)) (h1 : SL H encStr ao1 p_lines) (hc1 : p_lines.length ≤ cap1) (hG : Glob H) (r : Int) (hm : ref16_limited p_lines p_most = some r) :
  Con prog 70 [(.slice ao1 p_lines.length cap1), (.int .i64 p_most)] w H (fun v _ => v = (.int .i64 r)) := by
 unfold ref16_limited at hm
 refine con_of hH func70 rfl 22 ntmps70 rfl ?_
 refine WP.seq (WP.region (Va rfl (WL.nil (tn (WP.seq (WP.seq (WP.region (Vm rfl (V rfl (ov_len_slice underlying27 rfl rfl) (Vm rfl (V rfl (ov_gtr rfl rfl rfl) (WL.nil (tn ?_)))))))))))))
 refine WP.cond rfl (fun hc2 => ?_) (fun hc2 => ?_)
 ·
  replace hm := ite_t hc2 hm
  refine WP.seq (WP.region (Va rfl (WL.nil (tn (WP.ret (then_ret ?_))))))
  obtain rfl := Option.some.inj hm
  refine retQ_ret results70 (Res.tmp rfl Res.nil) rfl (fun w' s => ⟨s.below, ?_⟩)
  exact rfl
 replace hm := ite_f hc2 hm
 refine WP.skip (tn ?_)
 obtain ⟨k1, hk1, hm⟩ := joinK_some hm
 refine WP.seq_join (fun g' S' => Sub [(1000000007, (.bool false))] g' ∧ (∀ w', S' w' → St w H [] H w') ∧ k1 = some r) ?_ ?_
 ·
  refine WP.seq (WP.region (Va rfl (WL.nil (tn (WP.block ?_)))))
  refine WP.loop (fun m1 g' S' => ∃ (i1 : Int), Sub [(0, (.slice ao1 p_lines.length cap1)), (5, (.int .i64 i1)), (1000000007, (.bool false))] g' ∧ (∀ w', S' w' → St w H [] H w') ∧ ref16_limited_loop1 p_lines k1 m1 i1 = some r) ((Int.toNat ((p_lines.length : Int) - 0) + 1)) ⟨0, (Sub.all rfl), fun w' s => s, hm⟩ ?_ ?_
  ·
   rintro g' S' ⟨_, _, _, hm⟩
   exact none_some hm
  rintro m1 g' S' ⟨i1, hsub1, hS1, hm⟩
  refine WP.sub hsub1 (WP.weaken hS1 ?_)
  rw [ref16_limited_loop1] at hm
  refine WP.seq (WP.seq (WP.region (Vm rfl (Vm rfl (V rfl (ov_len_slice underlying27 rfl rfl) (V rfl (ov_lss rfl rfl rfl) (WL.nil (tn ?_))))))))
  refine WP.cond rfl (fun hc3 => ?_) (fun hc3 => ?_)
  ·
   replace hm := ite_t hc3 hm
   refine WP.skip (tn (WP.seq (WP.block (WP.seq (WP.region (Vm rfl (Vm rfl ?_)))))))
   obtain ⟨x1, e1, hm⟩ := bind_some hm
   obtain ⟨h2, h3, h4, cs1, h5, h6⟩ := h1.get e1 (by decide)
   obtain rfl : cs1 = [(mkS x1)] := h5
   refine V rfl (ov_indexAddr underlying27 sizeOf9 rfl rfl rfl h2 h3 h4) (V rfl (ov_load_elem (v := (mkS x1)) isAgg9 rfl rfl h6) (V rfl (ov_len_string underlying9 rfl rfl) (V rfl (ov_gtr rfl rfl rfl) (WL.nil (tn ?_)))))
   refine WP.cond rfl (fun hc4 => ?_) (fun hc4 => ?_)
   ·
    replace hm := ite_t hc4 hm
    refine WP.seq (WP.region (Va rfl (WL.nil (tn (WP.ret (block_ret (then_ret (then_ret (block_ret (then_ret ?_))))))))))
    obtain rfl := Option.some.inj hm
    refine retQ_ret results70 (Res.tmp rfl Res.nil) rfl (fun w' s => ⟨s.below, ?_⟩)
    exact rfl
   replace hm := ite_f hc4 hm
   refine WP.skip (bn (tn (WP.region (Vm rfl (V rfl (ov_add rfl rfl rfl) (Va rfl (WL.nil (tn ?_))))))))
   exact ⟨(IntKind.wrap .i64 (i1 + 1)), (Sub.all rfl), fun w' s => s, hm⟩
  replace hm := ite_f hc3 hm
  refine WP.exit (then_exit (then_exit (block_here (tn ?_))))
  exact ⟨(Sub.all rfl), fun w' s => s, hm⟩
 rintro g' S' ⟨hsub2, hS2, hm⟩
 refine WP.sub hsub2 (WP.weaken hS2 ?_)
 replace hm := hk1.symm.trans hm
 refine WP.seq (WP.region (Va rfl (WL.nil (tn (WP.ret ?_)))))
 obtain rfl := Option.some.inj hm
 refine retQ_ret results70 (Res.tmp rfl Res.nil) rfl (fun w' s => ⟨s.below, ?_⟩)
 exact rfl
theorem ref12_Fields_con (p_line : (List UInt8)) (w : World) (H : Heap) (hH : Le H (hp w)) (hG : Glob H) (r : (List (List UInt8))) (hm : ref12_Fields p_line = some r) :
  Con prog 130 [(mkS p_line)] w H (fun v H' => ∃ (ao1 : Option Addr) (cap1 : Nat), v = (.slice ao1 r.length cap1) ∧ SL H' encStr ao1 r ∧ r.length ≤ cap1) := by
 unfold ref12_Fields at hm
 refine con_of hH func130 rfl 36 ntmps130 rfl ?_
 refine WP.seq (WP.region (Va rfl (WL.nil (tn (WP.seq (WP.region (Va rfl (WL.nil (tn (WP.seq (WP.region (Va rfl (WL.nil ?_)))))))))))))
 refine tn ?_
 obtain ⟨k1, hk1, hm⟩ := joinK_some hm
 refine WP.seq_join (fun g' S' => ∃ (l5 : (List (List UInt8))) (ao6 : _) (cap6 : _) (xs4 : _), RL H encStr l5 xs4 ∧ Sub [(3, (.slice ao6 l5.length cap6)), (1000000007, (.bool false))] g' ∧ (∀ w', S' w' → St w H [rowE 9 encStr l5 ao6 cap6 xs4] H w') ∧ k1 l5 = some r) ?_ ?_
 ·
  refine WP.seq (WP.region (Va rfl (WL.nil (tn (WP.block ?_)))))
  have rl1 := RL.nil (α := (List UInt8)) H encStr
  refine WP.weaken (fun _ s => s.nilrow 9 (encStr).size) ?_
  refine WP.loop (fun m1 g' S' => ∃ (s1 : (List UInt8)) (i1 : Int) (l1 : (List (List UInt8))) (ao2 : _) (cap2 : _) (xs1 : _), RL H encStr l1 xs1 ∧ Sub [(0, (mkS p_line)), (3, (.slice ao2 l1.length cap2)), (4, (mkS s1)), (5, (.int .i64 i1)), (1000000007, (.bool false))] g' ∧ (∀ w', S' w' → St w H [rowE 9 encStr l1 ao2 cap2 xs1] H w') ∧ ref12_Fields_loop1 p_line k1 m1 s1 i1 l1 = some r) ((p_line.length + 2)) ⟨[], 0, ([] : List (List UInt8)), none, 0, [], rl1, (Sub.all rfl), fun w' s => s, hm⟩ ?_ ?_
  ·
   rintro g' S' ⟨_, _, _, _, _, _, _, _, _, hm⟩
   exact none_some hm
  rintro m1 g' S' ⟨s1, i1, l1, ao2, cap2, xs1, rl2, hsub1, hS1, hm⟩
  refine WP.sub hsub1 (WP.weaken hS1 ?_)
  rw [ref12_Fields_loop1] at hm
  refine WP.seq (WP.seq (WP.region (Vm rfl (Vm rfl (V rfl (ov_len_string underlying9 rfl rfl) (V rfl (ov_leq rfl rfl rfl) (WL.nil (tn ?_))))))))
  refine WP.cond rfl (fun hc2 => ?_) (fun hc2 => ?_)
  ·
   replace hm := ite_t hc2 hm
   refine WP.skip (tn ?_)
   obtain ⟨k2, hk2, hm⟩ := joinK_some hm
   refine WP.seq_join (fun g' S' => ∃ (s4 : (List UInt8)) (l4 : (List (List UInt8))) (ao5 : _) (cap5 : _) (xs3 : _), RL H encStr l4 xs3 ∧ Sub [(0, (mkS p_line)), (3, (.slice ao5 l4.length cap5)), (4, (mkS s4)), (5, (.int .i64 i1)), (1000000007, (.bool false))] g' ∧ (∀ w', S' w' → St w H [rowE 9 encStr l4 ao5 cap5 xs3] H w') ∧ k2 s4 l4 = some r) ?_ ?_
   ·
    refine WP.block (WP.seq (WP.seq (WP.region (Vm rfl (Vm rfl (V rfl (ov_len_string underlying9 rfl rfl) (V rfl (ov_lss rfl rfl rfl) (Vm rfl ?_))))))))
    obtain ⟨c1, e1, hm⟩ := bind_some hm
    refine WL.cut_bool 5 21 (x := c1) ?_ ?_
    ·
     rcases Bool.eq_false_or_eq_true (decide (i1 < (p_line.length : Int))) with hc3 | hc3
     ·
      replace hm := ite_t hc3 e1
      refine wy hc3 rfl (ov_move rfl rfl) ?_
      refine wy hc3 rfl (ov_move rfl rfl) ?_
      obtain ⟨b1, e2, hm⟩ := bind_some hm
      refine wy hc3 rfl (ov_index_string underlying9 rfl rfl rfl e2) ?_
      refine wy hc3 rfl (ov_neq rfl rfl rfl) ?_
      refine V rfl (ov_pick_true rfl (guard_eq rfl hc3) rfl) ?_
      exact WL.nil ⟨Sub.cons' rfl (congrArg Value.bool (Option.some.inj hm)) (Sub.dropn 5 rfl), fun _ s => s⟩
     replace hm := ite_f hc3 e1
     refine Vi rfl (Idle.no rfl rfl rfl hc3) (Vi rfl (Idle.no rfl rfl rfl hc3) (Vi rfl (Idle.no rfl rfl rfl hc3) (Vi rfl (Idle.no rfl rfl rfl hc3) (V rfl (ov_pick_false rfl (guard_eq rfl hc3) rfl) ?_))))
     exact WL.nil ⟨Sub.cons' rfl (congrArg Value.bool (Option.some.inj hm)) (Sub.dropn 5 rfl), fun _ s => s⟩
    refine WL.nil (tn ?_)
    refine WP.cond rfl (fun hc4 => ?_) (fun hc4 => ?_)
    ·
     replace hm := ite_t hc4 hm
     refine WP.seq (WP.region (Vm rfl (Vm rfl (Vm rfl (Vm rfl (V rfl (ov_add rfl rfl rfl) ?_))))))
     obtain ⟨s2, e3, hm⟩ := bind_some hm
     refine V rfl (ov_slice_string underlying9 rfl rfl rfl rfl e3) ?_
     obtain ⟨s3, e4, hm⟩ := bind_some hm
     refine V rfl (ov_sadd' e4 rfl rfl rfl) (Va rfl (WL.nil (tn (WP.exit (then_exit (block_here (tn ?_)))))))
     exact ⟨s3, l1, ao2, cap2, xs1, rl2, (Sub.all rfl), fun w' s => s, hm⟩
    replace hm := ite_f hc4 hm
    refine WP.skip (tn ?_)
    obtain ⟨k3, hk3, hm⟩ := joinK_some hm
    refine WP.seq_join (fun g' S' => ∃ (l3 : (List (List UInt8))) (ao4 : _) (cap4 : _) (xs2 : _), RL H encStr l3 xs2 ∧ Sub [(0, (mkS p_line)), (3, (.slice ao4 l3.length cap4)), (5, (.int .i64 i1)), (1000000007, (.bool false))] g' ∧ (∀ w', S' w' → St w H [rowE 9 encStr l3 ao4 cap4 xs2] H w') ∧ k3 l3 = some r) ?_ ?_
    ·
     refine WP.seq (WP.region (Vm rfl (V rfl (ov_sneq rfl rfl rfl) (WL.nil (tn ?_)))))
     refine WP.cond rfl (fun hc5 => ?_) (fun hc5 => ?_)
     ·
      replace hm := ite_t hc5 hm
      refine WP.region (Vm rfl (Vm rfl ?_))
      have rl3 : RL H encStr ([s1] : List (List UInt8)) [(mkS s1)] := RL.cons (cs := [(mkS s1)]) (xs := []) rfl (RL.nil _ _)
      refine ws rfl (os_buildSlice (cs := [(mkS s1)]) (E := 9) (sz := 1) rfl rfl (fun _ => by kernel_rfl) rfl (by decide) (fun b2 => ?_))
      obtain ⟨l2, e5, hm⟩ := bind_some hm
      refine ws rfl (os_app (i := 1) (j := 0) (En := encStr) (xs := xs1) (ys := [(mkS s1)]) underlying27 (by kernel_rfl : (prog.info? 9).map (fun i => (i.zero, i.size, i.bytes)) = some (some (mkS []), (encStr).size, 16)) rfl (by decide) rfl rfl rfl rfl rfl rfl rl2 rl3 e5 (fun ao3 cap3 rl4 => ?_))
      refine Va rfl (WL.nil (tn ?_))
      exact ⟨(l1 ++ ([s1] : List (List UInt8))), ao3, cap3, (xs1 ++ [(mkS s1)]), rl4, (Sub.all rfl), fun w' s => (s.sl [1]), hm⟩
     replace hm := ite_f hc5 hm
     refine WP.skip (tn ?_)
     exact ⟨l1, ao2, cap2, xs1, rl2, (Sub.all rfl), fun w' s => s, hm⟩
    rintro g' S' ⟨l3, ao4, cap4, xs2, rl5, hsub2, hS2, hm⟩
    refine WP.sub hsub2 (WP.weaken hS2 ?_)
    replace hm := (congrFun hk3 l3).symm.trans hm
    refine WP.region (Va rfl (WL.nil (bn (tn ?_))))
    exact ⟨[], l3, ao4, cap4, xs2, rl5, (Sub.all rfl), fun w' s => s, hm⟩
   rintro g' S' ⟨s4, l4, ao5, cap5, xs3, rl6, hsub3, hS3, hm⟩
   refine WP.sub hsub3 (WP.weaken hS3 ?_)
   replace hm := (congrFun (congrFun hk2 s4) l4).symm.trans hm
   refine WP.region (Vm rfl (V rfl (ov_add rfl rfl rfl) (Va rfl (WL.nil (tn ?_)))))
   exact ⟨s4, (IntKind.wrap .i64 (i1 + 1)), l4, ao5, cap5, xs3, rl6, (Sub.all rfl), fun w' s => s, hm⟩
  replace hm := ite_f hc2 hm
  refine WP.exit (then_exit (then_exit (block_here (tn ?_))))
  exact ⟨l1, ao2, cap2, xs1, rl2, (Sub.all rfl), fun w' s => s, hm⟩
 rintro g' S' ⟨l5, ao6, cap6, xs4, rl7, hsub4, hS4, hm⟩
 refine WP.sub hsub4 (WP.weaken hS4 ?_)
 replace hm := (congrFun hk1 l5).symm.trans hm
 refine WP.seq (WP.region (Vm rfl (Va rfl (WL.nil (tn (WP.ret ?_))))))
 obtain rfl := Option.some.inj hm
 refine retQ_ret results130 (Res.tmp rfl Res.nil) rfl (fun w' s => ⟨s.below, ?_⟩)
 obtain ⟨h2, hc6⟩ := s.ret_row (i := 0) rfl rl7
 exact ⟨ao6, cap6, rfl, h2, hc6⟩
theorem ref12_Digit_con (p_b : Int) (w : World) (H : Heap) (hH : Le H (hp w)) (hG : Glob H) (r : Bool) (hm : ref12_Digit p_b = some r) :
  Con prog 157 [(.int .u8 p_b)] w H (fun v _ => v = (.bool r)) := by
 unfold ref12_Digit at hm
 refine con_of hH func157 rfl 9 ntmps157 rfl ?_
 refine WP.seq (WP.region (Va rfl (WL.nil (tn (WP.seq (WP.region (Vm rfl (V rfl (ov_geq rfl rfl rfl) (Vm rfl ?_)))))))))
 refine WL.cut_bool 3 8 (x := ((decide (p_b ≥ 48)) && (decide (p_b ≤ 57)))) ?_ ?_
 ·
  rcases Bool.eq_false_or_eq_true (decide (p_b ≥ 48)) with hc1 | hc1
  ·
   refine wy hc1 rfl (ov_move rfl rfl) ?_
   refine wy hc1 rfl (ov_leq rfl rfl rfl) ?_
   refine V rfl (ov_pick_true rfl (guard_eq rfl hc1) rfl) ?_
   exact WL.nil ⟨Sub.cons' rfl (congrArg Value.bool (andT hc1)) (Sub.dropn 3 rfl), fun _ s => s⟩
  refine Vi rfl (Idle.no rfl rfl rfl hc1) (Vi rfl (Idle.no rfl rfl rfl hc1) (V rfl (ov_pick_false rfl (guard_eq rfl hc1) rfl) ?_))
  exact WL.nil ⟨Sub.cons' rfl (congrArg Value.bool (andF hc1)) (Sub.dropn 3 rfl), fun _ s => s⟩
 refine Va rfl (WL.nil (tn (WP.ret ?_)))
 obtain rfl := Option.some.inj hm
 refine retQ_ret results157 (Res.tmp rfl Res.nil) rfl (fun w' s => ⟨s.below, ?_⟩)
 exact rfl
theorem ref12_Number_con (p_s : (List UInt8)) (w : World) (H : Heap) (hH : Le H (hp w)) (hG : Glob H) (r : Int) (hm : ref12_Number p_s = some r) :
  Con prog 148 [(mkS p_s)] w H (fun v _ => v = (.int .i64 r)) := by
 unfold ref12_Number at hm
 refine con_of hH func148 rfl 31 ntmps148 rfl ?_
 refine WP.seq (WP.region (Va rfl (WL.nil (tn (WP.seq (WP.seq (WP.region (Vm rfl (V rfl (ov_len_string underlying9 rfl rfl) (V rfl (ov_eql rfl rfl rfl) (Vm rfl ?_)))))))))))
 obtain ⟨c1, e1, hm⟩ := bind_some hm
 refine WL.cut_bool 9 16 (x := c1) ?_ ?_
 ·
  rcases Bool.eq_false_or_eq_true ((p_s.length : Int) == 0) with hc1 | hc1
  ·
   replace hm := ite_t hc1 e1
   refine Vi rfl (Idle.no rfl rfl rfl hc1) (Vi rfl (Idle.no rfl rfl rfl hc1) (Vi rfl (Idle.no rfl rfl rfl hc1) (Vi rfl (Idle.no rfl rfl rfl hc1) (Vi rfl (Idle.undef rfl rfl rfl) (Vi rfl (Idle.undef rfl rfl rfl) (Vi rfl (Idle.undef rfl rfl rfl) (Vi rfl (Idle.no rfl rfl rfl hc1) (V rfl (ov_pick_true rfl (guard_eq rfl hc1) rfl) ?_))))))))
   exact WL.nil ⟨Sub.cons' rfl (congrArg Value.bool (Option.some.inj hm)) (Sub.dropn 9 rfl), fun _ s => s⟩
  replace hm := ite_f hc1 e1
  refine wy hc1 rfl (ov_move rfl rfl) ?_
  refine wy hc1 rfl (ov_len_string underlying9 rfl rfl) ?_
  refine wy hc1 rfl (ov_gtr rfl rfl rfl) ?_
  refine wy hc1 rfl (ov_move rfl rfl) ?_
  obtain ⟨c2, e2, hm⟩ := bind_some hm
  refine WL.cut_bool 4 15 (x := c2) ?_ ?_
  ·
   rcases Bool.eq_false_or_eq_true (decide ((p_s.length : Int) > 1)) with hc2 | hc2
   ·
    replace hm := ite_t hc2 e2
    refine wy hc2 rfl (ov_move rfl rfl) ?_
    obtain ⟨b1, e3, hm⟩ := bind_some hm
    refine wy hc2 rfl (ov_index_string underlying9 rfl rfl rfl e3) ?_
    refine wy hc2 rfl (ov_eql rfl rfl rfl) ?_
    refine wy hc1 rfl (ov_pick_true rfl (guard_eq rfl hc2) rfl) ?_
    exact WL.nil ⟨Sub.cons' rfl (congrArg Value.bool (Option.some.inj hm)) (Sub.dropn 4 rfl), fun _ s => s⟩
   replace hm := ite_f hc2 e2
   refine Vi rfl (Idle.no rfl rfl rfl hc2) (Vi rfl (Idle.no rfl rfl rfl hc2) (Vi rfl (Idle.no rfl rfl rfl hc2) ?_))
   refine wy hc1 rfl (ov_pick_false rfl (guard_eq rfl hc2) rfl) ?_
   exact WL.nil ⟨Sub.cons' rfl (congrArg Value.bool (Option.some.inj hm)) (Sub.dropn 4 rfl), fun _ s => s⟩
  refine V rfl (ov_pick_false rfl (guard_eq rfl hc1) rfl) ?_
  exact WL.nil ⟨Sub.cons' rfl (congrArg Value.bool (Option.some.inj hm)) (Sub.dropn 6 rfl), fun _ s => s⟩
 refine WL.nil (tn ?_)
 refine WP.cond rfl (fun hc3 => ?_) (fun hc3 => ?_)
 ·
  replace hm := ite_t hc3 hm
  refine WP.seq (WP.region (Va rfl (WL.nil (tn (WP.ret (then_ret ?_))))))
  obtain rfl := Option.some.inj hm
  refine retQ_ret results148 (Res.tmp rfl Res.nil) rfl (fun w' s => ⟨s.below, ?_⟩)
  exact rfl
 replace hm := ite_f hc3 hm
 refine WP.skip (tn ?_)
 obtain ⟨k1, hk1, hm⟩ := joinK_some hm
 refine WP.seq_join (fun g' S' => Sub [(0, (mkS p_s)), (1000000007, (.bool false))] g' ∧ (∀ w', S' w' → St w H [] H w') ∧ k1 = some r) ?_ ?_
 ·
  refine WP.seq (WP.region (Va rfl (WL.nil (tn (WP.block ?_)))))
  refine WP.loop (fun m1 g' S' => ∃ (i1 : Int), Sub [(0, (mkS p_s)), (3, (.int .i64 i1)), (1000000007, (.bool false))] g' ∧ (∀ w', S' w' → St w H [] H w') ∧ ref12_Number_loop1 p_s k1 m1 i1 = some r) ((Int.toNat ((p_s.length : Int) - 0) + 1)) ⟨0, (Sub.all rfl), fun w' s => s, hm⟩ ?_ ?_
  ·
   rintro g' S' ⟨_, _, _, hm⟩
   exact none_some hm
  rintro m1 g' S' ⟨i1, hsub1, hS1, hm⟩
  refine WP.sub hsub1 (WP.weaken hS1 ?_)
  rw [ref12_Number_loop1] at hm
  refine WP.seq (WP.seq (WP.region (Vm rfl (Vm rfl (V rfl (ov_len_string underlying9 rfl rfl) (V rfl (ov_lss rfl rfl rfl) (WL.nil (tn ?_))))))))
  refine WP.cond rfl (fun hc4 => ?_) (fun hc4 => ?_)
  ·
   replace hm := ite_t hc4 hm
   refine WP.skip (tn (WP.seq (WP.block (WP.seq (WP.region (Vm rfl (Vm rfl ?_)))))))
   obtain ⟨b2, e4, hm⟩ := bind_some hm
   refine V rfl (ov_index_string underlying9 rfl rfl rfl e4) ?_
   obtain ⟨r1, e5, hm⟩ := bind_some hm
   refine wo rfl (oq_con (r := (.bool r1)) call157 rfl rfl (fun w' s => ⟨_, (ref12_Digit_con (b2.toNat : Int)  w' H s.hold hG r1 e5)⟩)) ?_
   refine V rfl (ov_not rfl rfl) (WL.nil (tn ?_))
   refine WP.cond rfl (fun hc5 => ?_) (fun hc5 => ?_)
   ·
    replace hm := ite_t hc5 hm
    refine WP.seq (WP.region (Va rfl (WL.nil (tn (WP.ret (block_ret (then_ret (then_ret (block_ret (then_ret ?_))))))))))
    obtain rfl := Option.some.inj hm
    refine retQ_ret results148 (Res.tmp rfl Res.nil) rfl (fun w' s => ⟨s.below, ?_⟩)
    exact rfl
   replace hm := ite_f hc5 hm
   refine WP.skip (bn (tn (WP.region (Vm rfl (V rfl (ov_add rfl rfl rfl) (Va rfl (WL.nil (tn ?_))))))))
   exact ⟨(IntKind.wrap .i64 (i1 + 1)), (Sub.all rfl), fun w' s => s, hm⟩
  replace hm := ite_f hc4 hm
  refine WP.exit (then_exit (then_exit (block_here (tn ?_))))
  exact ⟨(Sub.all rfl), fun w' s => s, hm⟩
 rintro g' S' ⟨hsub2, hS2, hm⟩
 refine WP.sub hsub2 (WP.weaken hS2 ?_)
 replace hm := hk1.symm.trans hm
 refine WP.seq (WP.seq (WP.region (Vm rfl (V rfl (ov_len_string underlying9 rfl rfl) (V rfl (ov_gtr rfl rfl rfl) (WL.nil (tn ?_)))))))
 refine WP.cond rfl (fun hc6 => ?_) (fun hc6 => ?_)
 ·
  replace hm := ite_t hc6 hm
  refine WP.seq (WP.region (Va rfl (WL.nil (tn (WP.ret (then_ret ?_))))))
  obtain rfl := Option.some.inj hm
  refine retQ_ret results148 (Res.tmp rfl Res.nil) rfl (fun w' s => ⟨s.below, ?_⟩)
  exact rfl
 replace hm := ite_f hc6 hm
 refine WP.skip (tn (WP.seq (WP.region (Va rfl (WL.nil (tn (WP.ret ?_)))))))
 obtain rfl := Option.some.inj hm
 refine retQ_ret results148 (Res.tmp rfl Res.nil) rfl (fun w' s => ⟨s.below, ?_⟩)
 exact rfl
theorem ref12_Worth_con (p_s : (List UInt8)) (w : World) (H : Heap) (hH : Le H (hp w)) (hG : Glob H) (r : Int) (hm : ref12_Worth p_s = some r) :
  Con prog 149 [(mkS p_s)] w H (fun v _ => v = (.int .i64 r)) := by
 unfold ref12_Worth at hm
 refine con_of hH func149 rfl 20 ntmps149 rfl ?_
 refine WP.seq (WP.region (Va rfl (WL.nil (tn (WP.seq (WP.region (Va rfl (WL.nil (tn ?_)))))))))
 obtain ⟨k1, hk1, hm⟩ := joinK_some hm
 refine WP.seq_join (fun g' S' => ∃ (i3 : Int), Sub [(3, (.int .i64 i3)), (1000000007, (.bool false))] g' ∧ (∀ w', S' w' → St w H [] H w') ∧ k1 i3 = some r) ?_ ?_
 ·
  refine WP.seq (WP.region (Va rfl (WL.nil (tn (WP.block ?_)))))
  refine WP.loop (fun m1 g' S' => ∃ (i1 : Int) (i2 : Int), Sub [(0, (mkS p_s)), (3, (.int .i64 i1)), (4, (.int .i64 i2)), (1000000007, (.bool false))] g' ∧ (∀ w', S' w' → St w H [] H w') ∧ ref12_Worth_loop1 p_s k1 m1 i1 i2 = some r) ((Int.toNat ((p_s.length : Int) - 0) + 1)) ⟨0, 0, (Sub.all rfl), fun w' s => s, hm⟩ ?_ ?_
  ·
   rintro g' S' ⟨_, _, _, _, hm⟩
   exact none_some hm
  rintro m1 g' S' ⟨i1, i2, hsub1, hS1, hm⟩
  refine WP.sub hsub1 (WP.weaken hS1 ?_)
  rw [ref12_Worth_loop1] at hm
  refine WP.seq (WP.seq (WP.region (Vm rfl (Vm rfl (V rfl (ov_len_string underlying9 rfl rfl) (V rfl (ov_lss rfl rfl rfl) (WL.nil (tn ?_))))))))
  refine WP.cond rfl (fun hc1 => ?_) (fun hc1 => ?_)
  ·
   replace hm := ite_t hc1 hm
   refine WP.skip (tn (WP.seq (WP.block (WP.region (Vm rfl (V rfl (ov_mul rfl rfl rfl) (Vm rfl (Vm rfl ?_))))))))
   obtain ⟨b1, e1, hm⟩ := bind_some hm
   refine V rfl (ov_index_string underlying9 rfl rfl rfl e1) (V rfl (ov_sub rfl rfl rfl) (V rfl (ov_convert_int underlying5 underlying3 rfl rfl) (V rfl (ov_add rfl rfl rfl) (Va rfl (WL.nil (bn (tn (WP.region (Vm rfl (V rfl (ov_add rfl rfl rfl) (Va rfl (WL.nil (tn ?_)))))))))))))
   exact ⟨(IntKind.wrap .i64 ((IntKind.wrap .i64 (10 * i1)) + (IntKind.wrap .i64 (IntKind.wrap .u8 ((b1.toNat : Int) - 48))))), (IntKind.wrap .i64 (i2 + 1)), (Sub.all rfl), fun w' s => s, hm⟩
  replace hm := ite_f hc1 hm
  refine WP.exit (then_exit (then_exit (block_here (tn ?_))))
  exact ⟨i1, (Sub.all rfl), fun w' s => s, hm⟩
 rintro g' S' ⟨i3, hsub2, hS2, hm⟩
 refine WP.sub hsub2 (WP.weaken hS2 ?_)
 replace hm := (congrFun hk1 i3).symm.trans hm
 refine WP.seq (WP.region (Vm rfl (Va rfl (WL.nil (tn (WP.ret ?_))))))
 obtain rfl := Option.some.inj hm
 refine retQ_ret results149 (Res.tmp rfl Res.nil) rfl (fun w' s => ⟨s.below, ?_⟩)
 exact rfl
theorem ref12_Value_con (p_s : (List UInt8)) (w : World) (H : Heap) (hH : Le H (hp w)) (hG : Glob H) (r : (Int × Int)) (hm : ref12_Value p_s = some r) :
  Con prog 131 [(mkS p_s)] w H (fun v _ => v = (.tuple #[(.int .i64 r.1), (.int .i64 r.2)])) := by
 unfold ref12_Value at hm
 refine con_of hH func131 rfl 31 ntmps131 rfl ?_
 refine WP.seq (WP.region (Va rfl (Va rfl (WL.nil (tn (WP.seq (WP.region (Va rfl (WL.nil (tn ?_))))))))))
 obtain ⟨k1, hk1, hm⟩ := joinK_some hm
 refine WP.seq_join (fun g' S' => ∃ (s2 : (List UInt8)) (i1 : Int), Sub [(0, (mkS s2)), (4, (.int .i64 i1)), (1000000007, (.bool false))] g' ∧ (∀ w', S' w' → St w H [] H w') ∧ k1 s2 i1 = some r) ?_ ?_
 ·
  refine WP.seq (WP.region (Vm rfl (V rfl (ov_len_string underlying9 rfl rfl) (V rfl (ov_gtr rfl rfl rfl) (Vm rfl ?_)))))
  obtain ⟨c1, e1, hm⟩ := bind_some hm
  refine WL.cut_bool 4 13 (x := c1) ?_ ?_
  ·
   rcases Bool.eq_false_or_eq_true (decide ((p_s.length : Int) > 0)) with hc1 | hc1
   ·
    replace hm := ite_t hc1 e1
    refine wy hc1 rfl (ov_move rfl rfl) ?_
    obtain ⟨b1, e2, hm⟩ := bind_some hm
    refine wy hc1 rfl (ov_index_string underlying9 rfl rfl rfl e2) ?_
    refine wy hc1 rfl (ov_eql rfl rfl rfl) ?_
    refine V rfl (ov_pick_true rfl (guard_eq rfl hc1) rfl) ?_
    exact WL.nil ⟨Sub.cons' rfl (congrArg Value.bool (Option.some.inj hm)) (Sub.dropn 4 rfl), fun _ s => s⟩
   replace hm := ite_f hc1 e1
   refine Vi rfl (Idle.no rfl rfl rfl hc1) (Vi rfl (Idle.no rfl rfl rfl hc1) (Vi rfl (Idle.no rfl rfl rfl hc1) (V rfl (ov_pick_false rfl (guard_eq rfl hc1) rfl) ?_)))
   exact WL.nil ⟨Sub.cons' rfl (congrArg Value.bool (Option.some.inj hm)) (Sub.dropn 4 rfl), fun _ s => s⟩
  refine WL.nil (tn ?_)
  refine WP.cond rfl (fun hc2 => ?_) (fun hc2 => ?_)
  ·
   replace hm := ite_t hc2 hm
   refine WP.region (Vm rfl ?_)
   obtain ⟨s1, e3, hm⟩ := bind_some hm
   refine V rfl (ov_slice_string_from underlying9 rfl rfl rfl e3) (Va rfl (Va rfl (WL.nil (tn ?_))))
   exact ⟨s1, (-1), (Sub.all rfl), fun w' s => s, hm⟩
  replace hm := ite_f hc2 hm
  refine WP.skip (tn ?_)
  exact ⟨p_s, 1, (Sub.all rfl), fun w' s => s, hm⟩
 rintro g' S' ⟨s2, i1, hsub1, hS1, hm⟩
 refine WP.sub hsub1 (WP.weaken hS1 ?_)
 replace hm := (congrFun (congrFun hk1 s2) i1).symm.trans hm
 refine WP.seq (WP.seq (WP.region (Vm rfl (V rfl (ov_lss rfl rfl rfl) (Vm rfl ?_)))))
 refine WL.cut_bool 3 21 (x := ((decide (i1 < 0)) && (s2 == [48]))) ?_ ?_
 ·
  rcases Bool.eq_false_or_eq_true (decide (i1 < 0)) with hc3 | hc3
  ·
   refine wy hc3 rfl (ov_move rfl rfl) ?_
   refine wy hc3 rfl (ov_seql rfl rfl rfl) ?_
   refine V rfl (ov_pick_true rfl (guard_eq rfl hc3) rfl) ?_
   exact WL.nil ⟨Sub.cons' rfl (congrArg Value.bool (andT hc3)) (Sub.dropn 3 rfl), fun _ s => s⟩
  refine Vi rfl (Idle.no rfl rfl rfl hc3) (Vi rfl (Idle.no rfl rfl rfl hc3) (V rfl (ov_pick_false rfl (guard_eq rfl hc3) rfl) ?_))
  exact WL.nil ⟨Sub.cons' rfl (congrArg Value.bool (andF hc3)) (Sub.dropn 3 rfl), fun _ s => s⟩
 refine WL.nil (tn ?_)
 refine WP.cond rfl (fun hc4 => ?_) (fun hc4 => ?_)
 ·
  replace hm := ite_t hc4 hm
  refine WP.seq (WP.region (Va rfl (Va rfl (WL.nil (tn (WP.ret (then_ret ?_)))))))
  obtain rfl := Option.some.inj hm
  refine retQ_ret results131 (Res.tmp rfl (Res.tmp rfl Res.nil)) rfl (fun w' s => ⟨s.below, ?_⟩)
  exact rfl
 replace hm := ite_f hc4 hm
 refine WP.skip (tn (WP.seq (WP.seq (WP.region (Vm rfl ?_)))))
 obtain ⟨r1, e4, hm⟩ := bind_some hm
 refine wo rfl (oq_con (r := (.int .i64 r1)) call148 rfl rfl (fun w' s => ⟨_, (ref12_Number_con s2  w' H s.hold hG r1 e4)⟩)) ?_
 refine Va rfl (WL.nil (tn (WP.seq (WP.region (Vm rfl (V rfl (ov_neq rfl rfl rfl) (WL.nil (tn ?_))))))))
 refine WP.cond rfl (fun hc5 => ?_) (fun hc5 => ?_)
 ·
  replace hm := ite_t hc5 hm
  refine WP.seq (WP.region (Vm rfl (Va rfl (Va rfl (WL.nil (tn (WP.ret (then_ret ?_))))))))
  obtain rfl := Option.some.inj hm
  refine retQ_ret results131 (Res.tmp rfl (Res.tmp rfl Res.nil)) rfl (fun w' s => ⟨s.below, ?_⟩)
  exact rfl
 replace hm := ite_f hc5 hm
 refine WP.skip (tn (WP.seq (WP.region (Vm rfl (Vm rfl ?_)))))
 obtain ⟨r2, e5, hm⟩ := bind_some hm
 refine wo rfl (oq_con (r := (.int .i64 r2)) call149 rfl rfl (fun w' s => ⟨_, (ref12_Worth_con s2  w' H s.hold hG r2 e5)⟩)) ?_
 refine V rfl (ov_mul rfl rfl rfl) (Va rfl (Va rfl (WL.nil (tn (WP.ret ?_)))))
 obtain rfl := Option.some.inj hm
 refine retQ_ret results131 (Res.tmp rfl (Res.tmp rfl Res.nil)) rfl (fun w' s => ⟨s.below, ?_⟩)
 exact rfl
theorem ref16_delays_con (p_line : (List UInt8)) (w : World) (H : Heap) (hH : Le H (hp w)) (hG : Glob H) (r : (List Int)) (hm : ref16_delays p_line = some r) :
  Con prog 108 [(mkS p_line)] w H (fun v H' => ∃ (ao1 : Option Addr) (cap1 : Nat), v = (.slice ao1 r.length cap1) ∧ SL H' (encInt .i64) ao1 r ∧ r.length ≤ cap1) := by
 unfold ref16_delays at hm
 refine con_of hH func108 rfl 29 ntmps108 rfl ?_
 refine WP.seq (WP.region (Va rfl (WL.nil (tn (WP.seq (WP.region (Va rfl (WL.nil (tn (WP.seq (WP.region (Vm rfl ?_))))))))))))
 obtain ⟨r1, e1, hm⟩ := bind_some hm
 refine ws rfl (os_con call130 rfl rfl (fun w' s => (ref12_Fields_con p_line  w' H s.hold hG r1 e1)) (fun rr1 H1 hle1 hR1 => ?_))
 replace hG := hG.mono hle1
 obtain ⟨ao2, cap2, rfl, h2, hc2⟩ := hR1
 refine Va rfl (WL.nil (tn ?_))
 obtain ⟨k1, hk1, hm⟩ := joinK_some hm
 refine WP.seq_join (fun g' S' => ∃ (l3 : (List Int)) (ao5 : _) (cap5 : _) (xs2 : _), RL H1 (encInt .i64) l3 xs2 ∧ Sub [(3, (.slice ao5 l3.length cap5)), (1000000007, (.bool false))] g' ∧ (∀ w', S' w' → St w H [.row 3 ((encInt .i64)).size l3.length (.slice ao5 l3.length cap5) xs2] H1 w') ∧ k1 l3 = some r) ?_ ?_
 ·
  refine WP.seq (WP.region (Va rfl (WL.nil (tn (WP.block ?_)))))
  have rl1 := RL.nil (α := Int) H1 (encInt .i64)
  refine WP.weaken (fun _ s => s.nilrow 3 ((encInt .i64)).size) ?_
  refine WP.loop (fun m1 g' S' => ∃ (i1 : Int) (l1 : (List Int)) (ao3 : _) (cap3 : _) (xs1 : _), RL H1 (encInt .i64) l1 xs1 ∧ Sub [(3, (.slice ao3 l1.length cap3)), (4, (.slice ao2 r1.length cap2)), (5, (.int .i64 i1)), (1000000007, (.bool false))] g' ∧ (∀ w', S' w' → St w H [.row 3 ((encInt .i64)).size l1.length (.slice ao3 l1.length cap3) xs1] H1 w') ∧ ref16_delays_loop1 r1 k1 m1 i1 l1 = some r) ((Int.toNat ((r1.length : Int) - 1) + 1)) ⟨1, ([] : List Int), none, 0, [], rl1, (Sub.all rfl), fun w' s => s, hm⟩ ?_ ?_
  ·
   rintro g' S' ⟨_, _, _, _, _, _, _, _, hm⟩
   exact none_some hm
  rintro m1 g' S' ⟨i1, l1, ao3, cap3, xs1, rl2, hsub1, hS1, hm⟩
  refine WP.sub hsub1 (WP.weaken hS1 ?_)
  rw [ref16_delays_loop1] at hm
  refine WP.seq (WP.seq (WP.region (Vm rfl (Vm rfl (V rfl (ov_len_slice underlying27 rfl rfl) (V rfl (ov_lss rfl rfl rfl) (WL.nil (tn ?_))))))))
  refine WP.cond rfl (fun hc3 => ?_) (fun hc3 => ?_)
  ·
   replace hm := ite_t hc3 hm
   refine WP.skip (tn (WP.seq (WP.block (WP.seq (WP.region (Vm rfl (Vm rfl ?_)))))))
   obtain ⟨x1, e2, hm⟩ := bind_some hm
   obtain ⟨h3, h4, h5, cs1, h6, h7⟩ := h2.get e2 (by decide)
   obtain rfl : cs1 = [(mkS x1)] := h6
   refine V rfl (ov_indexAddr underlying27 sizeOf9 rfl rfl rfl h3 h4 h5) (V rfl (ov_load_elem (v := (mkS x1)) isAgg9 rfl rfl h7) ?_)
   obtain ⟨r2, e3, hm⟩ := bind_some hm
   refine wo rfl (oq_con (r := (.tuple #[(.int .i64 r2.1), (.int .i64 r2.2)])) call131 rfl rfl (fun w' s => ⟨_, (ref12_Value_con x1  w' H1 s.hold hG r2 e3)⟩)) ?_
   refine Vm rfl (Ve rfl (Ve rfl (Va rfl (Va rfl (WL.nil (tn (WP.region (Vm rfl (Vm rfl ?_)))))))))
   have rl3 : RL H1 (encInt .i64) ([r2.1] : List Int) [(.int .i64 r2.1)] := RL.cons (cs := [(.int .i64 r2.1)]) (xs := []) rfl (RL.nil _ _)
   refine ws rfl (os_buildSlice (cs := [(.int .i64 r2.1)]) (E := 3) (sz := 1) rfl rfl (fun _ => by kernel_rfl) rfl (by decide) (fun b1 => ?_))
   obtain ⟨l2, e4, hm⟩ := bind_some hm
   refine ws rfl (os_app (i := 1) (j := 0) (En := (encInt .i64)) (xs := xs1) (ys := [(.int .i64 r2.1)]) underlying39 (by kernel_rfl : (prog.info? 3).map (fun i => (i.zero, i.size, i.bytes)) = some (some (.int .i64 0), ((encInt .i64)).size, 8)) rfl (by decide) rfl rfl rfl rfl rfl rfl rl2 rl3 e4 (fun ao4 cap4 rl4 => ?_))
   refine Va rfl (WL.nil (bn (tn (WP.region (Vm rfl (V rfl (ov_add rfl rfl rfl) (Va rfl (WL.nil (tn ?_)))))))))
   exact ⟨(IntKind.wrap .i64 (i1 + 1)), (l1 ++ ([r2.1] : List Int)), ao4, cap4, (xs1 ++ [(.int .i64 r2.1)]), rl4, (Sub.all rfl), fun w' s => (s.sl [1]), hm⟩
  replace hm := ite_f hc3 hm
  refine WP.exit (then_exit (then_exit (block_here (tn ?_))))
  exact ⟨l1, ao3, cap3, xs1, rl2, (Sub.all rfl), fun w' s => s, hm⟩
 rintro g' S' ⟨l3, ao5, cap5, xs2, rl5, hsub2, hS2, hm⟩
 refine WP.sub hsub2 (WP.weaken hS2 ?_)
 replace hm := (congrFun hk1 l3).symm.trans hm
 refine WP.seq (WP.region (Vm rfl (Va rfl (WL.nil (tn (WP.ret ?_))))))
 obtain rfl := Option.some.inj hm
 refine retQ_ret results108 (Res.tmp rfl Res.nil) rfl (fun w' s => ⟨s.below, ?_⟩)
 obtain ⟨h8, hc4⟩ := s.ret_row (i := 0) rfl rl5
 exact ⟨ao5, cap5, rfl, h8, hc4⟩
theorem ref16_moved_con (p_lines : (List (List UInt8))) (p_at : Int) (ao1 : Option Addr) (cap1 : Nat) (w : World) (H : Heap) (hH : Le H (hp w)) (h1 : SL H encStr ao1 p_lines) (hc1 : p_lines.length ≤ cap1) (hG : Glob H) (r : Step) (hm : ref16_moved p_lines p_at = some r) :
  Con prog 109 [(.slice ao1 p_lines.length cap1), (.int .i64 p_at)] w H (fun v H' => ∃ (ao2 : Option Addr) (cap2 : Nat), v = (.agg #[(.slice ao2 r.strokes.length cap2), (.int .i64 r.wait)]) ∧ SL H' encStroke ao2 r.strokes ∧ r.strokes.length ≤ cap2) := by
 unfold ref16_moved at hm
 refine con_of hH func109 rfl 53 ntmps109 rfl ?_
 refine WP.seq (WP.region ?_)
 refine ws rfl (os_alloc (cs := [(.slice none 0 0), (.int .i64 0)]) zeroValue45 rfl rfl (fun b1 => ?_))
 refine WL.nil (tn (WP.seq (WP.region ?_)))
 refine ws rfl (os_alloc (cs := [(.slice none 0 0), (.int .i64 0)]) zeroValue45 rfl rfl (fun b2 => ?_))
 refine WL.nil (tn ?_)
 obtain ⟨k1, hk1, hm⟩ := joinK_some hm
 refine WP.seq_join (fun g' S' => ∃ (l4 : (List Stroke)) (ao6 : _) (cap6 : _) (xs3 : _), RL H encStroke l4 xs3 ∧ Sub [(4, (pB b1 0)), (5, (pB b2 0)), (1000000007, (.bool false))] g' ∧ (∀ w', S' w' → St w H [rowE 48 encStroke l4 ao6 cap6 xs3, .blk b2 45 [(.slice ao6 l4.length cap6), (.int .i64 0)], .blk b1 45 [(.slice none 0 0), (.int .i64 0)]] H w') ∧ k1 l4 = some r) ?_ ?_
 ·
  refine WP.seq (WP.region (Va rfl (WL.nil (tn (WP.block ?_)))))
  have rl1 := RL.nil (α := Stroke) H encStroke
  refine WP.weaken (fun _ s => s.nilrow 48 (encStroke).size) ?_
  refine WP.loop (fun m1 g' S' => ∃ (i1 : Int) (l1 : (List Stroke)) (ao3 : _) (cap3 : _) (xs1 : _), RL H encStroke l1 xs1 ∧ Sub [(0, (.slice ao1 p_lines.length cap1)), (1, (.int .i64 p_at)), (4, (pB b1 0)), (5, (pB b2 0)), (6, (.int .i64 i1)), (1000000007, (.bool false))] g' ∧ (∀ w', S' w' → St w H [rowE 48 encStroke l1 ao3 cap3 xs1, .blk b2 45 [(.slice ao3 l1.length cap3), (.int .i64 0)], .blk b1 45 [(.slice none 0 0), (.int .i64 0)]] H w') ∧ ref16_moved_loop1 p_lines p_at k1 m1 i1 l1 = some r) ((Int.toNat ((p_lines.length : Int) - 0) + 1)) ⟨0, ([] : List Stroke), none, 0, [], rl1, (Sub.all rfl), fun w' s => s, hm⟩ ?_ ?_
  ·
   rintro g' S' ⟨_, _, _, _, _, _, _, _, hm⟩
   exact none_some hm
  rintro m1 g' S' ⟨i1, l1, ao3, cap3, xs1, rl2, hsub1, hS1, hm⟩
  refine WP.sub hsub1 (WP.weaken hS1 ?_)
  rw [ref16_moved_loop1] at hm
  refine WP.seq (WP.seq (WP.region (Vm rfl (Vm rfl (V rfl (ov_len_slice underlying27 rfl rfl) (V rfl (ov_lss rfl rfl rfl) (WL.nil (tn ?_))))))))
  refine WP.cond rfl (fun hc3 => ?_) (fun hc3 => ?_)
  ·
   replace hm := ite_t hc3 hm
   refine WP.skip (tn ?_)
   obtain ⟨k2, hk2, hm⟩ := joinK_some hm
   refine WP.seq_join (fun g' S' => ∃ (l3 : (List Stroke)) (ao5 : _) (cap5 : _) (xs2 : _), RL H encStroke l3 xs2 ∧ Sub [(0, (.slice ao1 p_lines.length cap1)), (1, (.int .i64 p_at)), (4, (pB b1 0)), (5, (pB b2 0)), (6, (.int .i64 i1)), (1000000007, (.bool false))] g' ∧ (∀ w', S' w' → St w H [rowE 48 encStroke l3 ao5 cap5 xs2, .blk b2 45 [(.slice ao5 l3.length cap5), (.int .i64 0)], .blk b1 45 [(.slice none 0 0), (.int .i64 0)]] H w') ∧ k2 l3 = some r) ?_ ?_
   ·
    refine WP.block (WP.seq (WP.region (Vm rfl (Vm rfl (Vm rfl ?_)))))
    obtain ⟨x1, e1, hm⟩ := bind_some hm
    obtain ⟨h3, h4, h5, cs1, h6, h7⟩ := h1.get e1 (by decide)
    obtain rfl : cs1 = [(mkS x1)] := h6
    refine V rfl (ov_indexAddr underlying27 sizeOf9 rfl rfl rfl h3 h4 h5) (V rfl (ov_load_elem (v := (mkS x1)) isAgg9 rfl rfl h7) (V rfl (ov_len_string underlying9 rfl rfl) (V rfl (ov_lss rfl rfl rfl) (Vm rfl ?_))))
    obtain ⟨c1, e2, hm⟩ := bind_some hm
    refine WL.cut_bool 17 37 (x := c1) ?_ ?_
    ·
     rcases Bool.eq_false_or_eq_true (decide (p_at < (x1.length : Int))) with hc4 | hc4
     ·
      replace hm := ite_t hc4 e2
      refine wy hc4 rfl (ov_move rfl rfl) ?_
      refine wy hc4 rfl (ov_move rfl rfl) ?_
      obtain ⟨x2, e3, hm⟩ := bind_some hm
      obtain ⟨h8, h9, h10, cs2, h11, h12⟩ := h1.get e3 (by decide)
      obtain rfl : cs2 = [(mkS x2)] := h11
      refine wy hc4 rfl (ov_indexAddr underlying27 sizeOf9 rfl rfl rfl h8 h9 h10) ?_
      refine wy hc4 rfl (ov_load_elem (v := (mkS x2)) isAgg9 rfl rfl h12) ?_
      refine wy hc4 rfl (ov_move rfl rfl) ?_
      obtain ⟨b3, e4, hm⟩ := bind_some hm
      refine wy hc4 rfl (ov_index_string underlying9 rfl rfl rfl e4) ?_
      refine wy hc4 rfl (ov_eql rfl rfl rfl) ?_
      refine wy hc4 rfl (ov_move rfl rfl) ?_
      obtain ⟨c2, e5, hm⟩ := bind_some hm
      refine WL.cut_bool 8 36 (x := c2) ?_ ?_
      ·
       rcases Bool.eq_false_or_eq_true ((b3.toNat : Int) == 47) with hc5 | hc5
       ·
        replace hm := ite_t hc5 e5
        refine Vi rfl (Idle.no rfl rfl rfl hc5) (Vi rfl (Idle.no rfl rfl rfl hc5) (Vi rfl (Idle.no rfl rfl rfl hc5) (Vi rfl (Idle.no rfl rfl rfl hc5) (Vi rfl (Idle.no rfl rfl rfl hc5) (Vi rfl (Idle.no rfl rfl rfl hc5) (Vi rfl (Idle.no rfl rfl rfl hc5) ?_))))))
        refine wy hc4 rfl (ov_pick_true rfl (guard_eq rfl hc5) rfl) ?_
        exact WL.nil ⟨Sub.cons' rfl (congrArg Value.bool (Option.some.inj hm)) (Sub.dropn 8 rfl), fun _ s => s⟩
       replace hm := ite_f hc5 e5
       refine wy hc5 rfl (ov_move rfl rfl) ?_
       refine wy hc5 rfl (ov_move rfl rfl) ?_
       obtain ⟨x3, e6, hm⟩ := bind_some hm
       obtain ⟨h13, h14, h15, cs3, h16, h17⟩ := h1.get e6 (by decide)
       obtain rfl : cs3 = [(mkS x3)] := h16
       refine wy hc5 rfl (ov_indexAddr underlying27 sizeOf9 rfl rfl rfl h13 h14 h15) ?_
       refine wy hc5 rfl (ov_load_elem (v := (mkS x3)) isAgg9 rfl rfl h17) ?_
       refine wy hc5 rfl (ov_move rfl rfl) ?_
       obtain ⟨b4, e7, hm⟩ := bind_some hm
       refine wy hc5 rfl (ov_index_string underlying9 rfl rfl rfl e7) ?_
       refine wy hc5 rfl (ov_eql rfl rfl rfl) ?_
       refine wy hc4 rfl (ov_pick_false rfl (guard_eq rfl hc5) rfl) ?_
       exact WL.nil ⟨Sub.cons' rfl (congrArg Value.bool (Option.some.inj hm)) (Sub.dropn 8 rfl), fun _ s => s⟩
      refine V rfl (ov_pick_true rfl (guard_eq rfl hc4) rfl) ?_
      exact WL.nil ⟨Sub.cons' rfl (congrArg Value.bool (Option.some.inj hm)) (Sub.dropn 10 rfl), fun _ s => s⟩
     replace hm := ite_f hc4 e2
     refine Vi rfl (Idle.no rfl rfl rfl hc4) (Vi rfl (Idle.no rfl rfl rfl hc4) (Vi rfl (Idle.no rfl rfl rfl hc4) (Vi rfl (Idle.no rfl rfl rfl hc4) (Vi rfl (Idle.no rfl rfl rfl hc4) (Vi rfl (Idle.no rfl rfl rfl hc4) (Vi rfl (Idle.no rfl rfl rfl hc4) (Vi rfl (Idle.no rfl rfl rfl hc4) (Vi rfl (Idle.undef rfl rfl rfl) (Vi rfl (Idle.undef rfl rfl rfl) (Vi rfl (Idle.undef rfl rfl rfl) (Vi rfl (Idle.undef rfl rfl rfl) (Vi rfl (Idle.undef rfl rfl rfl) (Vi rfl (Idle.undef rfl rfl rfl) ?_)))))))))))))
     refine Vi rfl (Idle.undef rfl rfl rfl) (Vi rfl (Idle.no rfl rfl rfl hc4) (V rfl (ov_pick_false rfl (guard_eq rfl hc4) rfl) ?_))
     exact WL.nil ⟨Sub.cons' rfl (congrArg Value.bool (Option.some.inj hm)) (Sub.dropn 17 rfl), fun _ s => s⟩
    refine WL.nil (tn ?_)
    refine WP.cond rfl (fun hc6 => ?_) (fun hc6 => ?_)
    ·
     replace hm := ite_t hc6 hm
     refine WP.region_any (S₀ := St w H [.blk b1 45 [(.slice none 0 0), (.int .i64 0)]] H) 15 rfl (by kernel_rfl) (fun w' s => (s.sl [2])) (fun _ s => s.drew) ?_
     refine TQ' 0 rfl (ov_fieldAddr underlying45 rfl rfl rfl sizeOf43 rfl rfl) (TQ' 2 rfl (ov_move rfl rfl) (TQ' 3 rfl (ov_move rfl rfl) (TQ' 4 rfl (ov_move rfl rfl) ?_)))
     obtain ⟨x4, e8, hm⟩ := bind_some hm
     obtain ⟨h18, h19, h20, cs4, h21, h22⟩ := h1.get e8 (by decide)
     obtain rfl : cs4 = [(mkS x4)] := h21
     refine TQ' 5 rfl (ov_indexAddr underlying27 sizeOf9 rfl rfl rfl h18 h19 h20) (TQ' 6 rfl (ov_load_elem (v := (mkS x4)) isAgg9 rfl rfl h22) (TQ' 7 rfl (ov_move rfl rfl) ?_))
     obtain ⟨b5, e9, hm⟩ := bind_some hm
     refine TQ' 8 rfl (ov_index_string underlying9 rfl rfl rfl e9) (TQ' 9 rfl (ov_eql rfl rfl rfl) (TQ' 10 rfl (ov_build (r := (.agg #[(.int .i64 i1), (.bool ((b5.toNat : Int) == 47))])) rfl rfl (fun _ => by kernel_rfl)) ?_))
     refine AL.any (rs := [1, 11]) (by kernel_rfl) (by decide) ?_
     refine ALs.cons (i := 1) rfl (Runs.free rfl) rfl rfl ?_ ?_
     ·
      refine OQ.step (OV.quiet (ov_load_box (i := 1) isAgg43 rfl rfl rfl rfl)) ?_
      refine ⟨fun w' s => (s.sl [2]), ?_⟩
      refine AL.any (rs := [11]) (by kernel_rfl) (by decide) ?_
      refine ALs.cons (i := 11) rfl (Runs.free rfl) rfl rfl ?_ ?_
      ·
       have rl3 : RL H encStroke ([(Stroke.mk i1 ((b5.toNat : Int) == 47))] : List Stroke) [(.int .i64 i1), (.bool ((b5.toNat : Int) == 47))] := RL.cons (cs := [(.int .i64 i1), (.bool ((b5.toNat : Int) == 47))]) (xs := []) rfl (RL.nil _ _)
       refine os_buildSlice (cs := [(.int .i64 i1), (.bool ((b5.toNat : Int) == 47))]) (E := 48) (sz := 2) rfl rfl (fun _ => by kernel_rfl) rfl (by decide) (fun b6 => ?_)
       refine ⟨fun w' s => (s.sl [3]), ?_⟩
       refine AL.any (rs := [12]) (by kernel_rfl) (by decide) ?_
       refine ALs.cons (i := 12) rfl (Runs.free rfl) rfl rfl ?_ ?_
       ·
        obtain ⟨l2, e10, hm⟩ := bind_some hm
        refine os_app (i := 1) (j := 0) (En := encStroke) (xs := xs1) (ys := [(.int .i64 i1), (.bool ((b5.toNat : Int) == 47))]) underlying43 (by kernel_rfl : (prog.info? 48).map (fun i => (i.zero, i.size, i.bytes)) = some (some (.agg #[(.int .i64 0), (.bool false)]), (encStroke).size, 16)) rfl (by decide) rfl rfl rfl rfl rfl rfl rl2 rl3 e10 (fun ao4 cap4 rl4 => ?_)
        refine ⟨fun w' s => (s.sl [3]), ?_⟩
        refine TQ' 13 rfl (ov_fieldAddr underlying45 rfl rfl rfl sizeOf43 rfl rfl) ?_
        refine AL.any (rs := [14]) (by kernel_rfl) (by decide) ?_
        refine ALs.cons0 (i := 14) rfl (Runs.free rfl) rfl ?_ ?_
        ·
         refine os_store (i := 2) (vs := [(.slice ao4 (l1 ++ ([(Stroke.mk i1 ((b5.toNat : Int) == 47))] : List Stroke)).length cap4)]) (cs' := [(.slice ao4 (l1 ++ ([(Stroke.mk i1 ((b5.toNat : Int) == 47))] : List Stroke)).length cap4), (.int .i64 0)]) sizeOf43 rfl rfl rfl rfl rfl rfl rfl rfl rfl ?_
         refine ⟨fun w' s => (s.sl [3]), ?_⟩
         refine AL.done (by kernel_rfl) ?_
         refine bn (tn ?_)
         exact ⟨(l1 ++ ([(Stroke.mk i1 ((b5.toNat : Int) == 47))] : List Stroke)), ao4, cap4, (xs1 ++ [(.int .i64 i1), (.bool ((b5.toNat : Int) == 47))]), rl4, (Sub.all rfl), fun w' s => (s.sl [1, 2, 3]), hm⟩
        exact ALs.nil
       exact ALs.nil
      exact ALs.nil
     refine ALs.cons (i := 11) rfl (Runs.free rfl) rfl rfl ?_ ?_
     ·
      have rl3 : RL H encStroke ([(Stroke.mk i1 ((b5.toNat : Int) == 47))] : List Stroke) [(.int .i64 i1), (.bool ((b5.toNat : Int) == 47))] := RL.cons (cs := [(.int .i64 i1), (.bool ((b5.toNat : Int) == 47))]) (xs := []) rfl (RL.nil _ _)
      refine os_buildSlice (cs := [(.int .i64 i1), (.bool ((b5.toNat : Int) == 47))]) (E := 48) (sz := 2) rfl rfl (fun _ => by kernel_rfl) rfl (by decide) (fun b6 => ?_)
      refine ⟨fun w' s => (s.sl [3]), ?_⟩
      refine AL.any (rs := [1]) (by kernel_rfl) (by decide) ?_
      refine ALs.cons (i := 1) rfl (Runs.free rfl) rfl rfl ?_ ?_
      ·
       refine OQ.step (OV.quiet (ov_load_box (i := 2) isAgg43 rfl rfl rfl rfl)) ?_
       refine ⟨fun w' s => (s.sl [3]), ?_⟩
       refine AL.any (rs := [12]) (by kernel_rfl) (by decide) ?_
       refine ALs.cons (i := 12) rfl (Runs.free rfl) rfl rfl ?_ ?_
       ·
        obtain ⟨l2, e10, hm⟩ := bind_some hm
        refine os_app (i := 1) (j := 0) (En := encStroke) (xs := xs1) (ys := [(.int .i64 i1), (.bool ((b5.toNat : Int) == 47))]) underlying43 (by kernel_rfl : (prog.info? 48).map (fun i => (i.zero, i.size, i.bytes)) = some (some (.agg #[(.int .i64 0), (.bool false)]), (encStroke).size, 16)) rfl (by decide) rfl rfl rfl rfl rfl rfl rl2 rl3 e10 (fun ao4 cap4 rl4 => ?_)
        refine ⟨fun w' s => (s.sl [3]), ?_⟩
        refine TQ' 13 rfl (ov_fieldAddr underlying45 rfl rfl rfl sizeOf43 rfl rfl) ?_
        refine AL.any (rs := [14]) (by kernel_rfl) (by decide) ?_
        refine ALs.cons0 (i := 14) rfl (Runs.free rfl) rfl ?_ ?_
        ·
         refine os_store (i := 2) (vs := [(.slice ao4 (l1 ++ ([(Stroke.mk i1 ((b5.toNat : Int) == 47))] : List Stroke)).length cap4)]) (cs' := [(.slice ao4 (l1 ++ ([(Stroke.mk i1 ((b5.toNat : Int) == 47))] : List Stroke)).length cap4), (.int .i64 0)]) sizeOf43 rfl rfl rfl rfl rfl rfl rfl rfl rfl ?_
         refine ⟨fun w' s => (s.sl [3]), ?_⟩
         refine AL.done (by kernel_rfl) ?_
         refine bn (tn ?_)
         exact ⟨(l1 ++ ([(Stroke.mk i1 ((b5.toNat : Int) == 47))] : List Stroke)), ao4, cap4, (xs1 ++ [(.int .i64 i1), (.bool ((b5.toNat : Int) == 47))]), rl4, (Sub.all rfl), fun w' s => (s.sl [1, 2, 3]), hm⟩
        exact ALs.nil
       exact ALs.nil
      exact ALs.nil
     exact ALs.nil
    replace hm := ite_f hc6 hm
    refine WP.skip (bn (tn ?_))
    exact ⟨l1, ao3, cap3, xs1, rl2, (Sub.all rfl), fun w' s => s, hm⟩
   rintro g' S' ⟨l3, ao5, cap5, xs2, rl5, hsub2, hS2, hm⟩
   refine WP.sub hsub2 (WP.weaken hS2 ?_)
   replace hm := (congrFun hk2 l3).symm.trans hm
   refine WP.region (Vm rfl (V rfl (ov_add rfl rfl rfl) (Va rfl (WL.nil (tn ?_)))))
   exact ⟨(IntKind.wrap .i64 (i1 + 1)), l3, ao5, cap5, xs2, rl5, (Sub.all rfl), fun w' s => s, hm⟩
  replace hm := ite_f hc3 hm
  refine WP.exit (then_exit (then_exit (block_here (tn ?_))))
  exact ⟨l1, ao3, cap3, xs1, rl2, (Sub.all rfl), fun w' s => s, hm⟩
 rintro g' S' ⟨l4, ao6, cap6, xs3, rl6, hsub3, hS3, hm⟩
 refine WP.sub hsub3 (WP.weaken hS3 ?_)
 replace hm := (congrFun hk1 l4).symm.trans hm
 refine WP.seq (WP.region (V rfl (ov_load_whole (i := 1) isAgg45 sizeOf45 rfl rfl rfl rfl) ?_))
 refine ws0 rfl (os_store (i := 2) (vs := [(.slice ao6 l4.length cap6), (.int .i64 0)]) (cs' := [(.slice ao6 l4.length cap6), (.int .i64 0)]) sizeOf45 rfl rfl rfl rfl rfl rfl rfl rfl rfl ?_)
 refine WL.nil (tn (WP.ret ?_))
 obtain rfl := Option.some.inj hm
 refine retQ_ret results109 (Res.cell rfl (box_loads (i := 2) isAgg45 sizeOf45 rfl rfl) Res.nil) rfl (fun w' s => ⟨s.below, ?_⟩)
 obtain ⟨h23, hc7⟩ := s.ret_row (i := 0) rfl rl6
 exact ⟨ao6, cap6, rfl, h23, hc7⟩
theorem ref16_Guess_con (p_lines : (List (List UInt8))) (ao1 : Option Addr) (cap1 : Nat) (w : World) (H : Heap) (hH : Le H (hp w)) (h1 : SL H encStr ao1 p_lines) (hc1 : p_lines.length ≤ cap1) (hG : Glob H) (r : Sequence) (hm : ref16_Guess p_lines = some r) :
  Con prog 71 [(.slice ao1 p_lines.length cap1)] w H (fun v H' => ∃ (ao2 : Option Addr) (cap2 : Nat), v = (.agg #[(.int .i64 r.actuators), (.slice ao2 r.steps.length cap2)]) ∧ SL H' encStep ao2 r.steps ∧ r.steps.length ≤ cap2) := by
 unfold ref16_Guess at hm
 refine con_of hH func71 rfl 83 ntmps71 rfl ?_
 refine WP.seq (WP.region ?_)
 refine ws rfl (os_alloc (cs := [(.int .i64 0), (.slice none 0 0)]) zeroValue24 rfl rfl (fun b1 => ?_))
 refine WL.nil (tn (WP.seq (WP.region (Vm rfl (V rfl (ov_len_slice underlying27 rfl rfl) (V rfl (ov_build (r := (.agg #[(.int .i64 (p_lines.length : Int)), (.slice none 0 0)])) rfl rfl (fun _ => by kernel_rfl)) ?_))))))
 refine ws rfl (os_alloc (cs := [(.int .i64 0), (.slice none 0 0)]) zeroValue24 rfl rfl (fun b2 => ?_))
 refine ws0 rfl (os_store (i := 0) (vs := [(.int .i64 (p_lines.length : Int)), (.slice none 0 0)]) (cs' := [(.int .i64 (p_lines.length : Int)), (.slice none 0 0)]) sizeOf24 rfl rfl rfl rfl rfl rfl rfl rfl rfl ?_)
 refine WL.nil (tn (WP.seq (WP.region (Va rfl (WL.nil (tn ?_))))))
 obtain ⟨k1, hk1, hm⟩ := joinK_some hm
 refine WP.seq_join (fun g' S' => ∃ (H2 : Heap) (l2 : (List (List UInt8))) (ao5 : _) (cap5 : _) (l3 : (List Int)) (ao6 : _) (cap6 : _) (i1 : Int), Le H H2 ∧ SL H2 encStr ao5 l2 ∧ l2.length ≤ cap5 ∧ SL H2 (encInt .i64) ao6 l3 ∧ l3.length ≤ cap6 ∧ Sub [(0, (.slice ao5 l2.length cap5)), (2, (pB b1 0)), (3, (pB b2 0)), (4, (.slice ao6 l3.length cap6)), (1000000007, (.bool false))] g' ∧ (∀ w', S' w' → St w H [.blk b2 24 [(.int .i64 i1), (.slice none 0 0)], .blk b1 24 [(.int .i64 0), (.slice none 0 0)]] H2 w') ∧ k1 l2 l3 i1 = some r) ?_ ?_
 ·
  refine WP.seq (WP.region (Vm rfl (V rfl (ov_len_slice underlying27 rfl rfl) (V rfl (ov_sub rfl rfl rfl) (Va rfl (WL.nil (tn (WP.seq (WP.region (Vm rfl (V rfl (ov_geq rfl rfl rfl) (Vm rfl ?_))))))))))))
  obtain ⟨c1, e1, hm⟩ := bind_some hm
  refine WL.cut_bool 7 24 (x := c1) ?_ ?_
  ·
   rcases Bool.eq_false_or_eq_true (decide ((IntKind.wrap .i64 ((p_lines.length : Int) - 1)) ≥ 0)) with hc3 | hc3
   ·
    replace hm := ite_t hc3 e1
    refine wy hc3 rfl (ov_move rfl rfl) ?_
    refine wy hc3 rfl (ov_move rfl rfl) ?_
    obtain ⟨x1, e2, hm⟩ := bind_some hm
    obtain ⟨h3, h4, h5, cs1, h6, h7⟩ := h1.get e2 (by decide)
    obtain rfl : cs1 = [(mkS x1)] := h6
    refine wy hc3 rfl (ov_indexAddr underlying27 sizeOf9 rfl rfl rfl h3 h4 h5) ?_
    refine wy hc3 rfl (ov_load_elem (v := (mkS x1)) isAgg9 rfl rfl h7) ?_
    refine wy hc3 rfl (ov_len_string underlying9 rfl rfl) ?_
    refine wy hc3 rfl (ov_gtr rfl rfl rfl) ?_
    refine V rfl (ov_pick_true rfl (guard_eq rfl hc3) rfl) ?_
    exact WL.nil ⟨Sub.cons' rfl (congrArg Value.bool (Option.some.inj hm)) (Sub.dropn 7 rfl), fun _ s => s⟩
   replace hm := ite_f hc3 e1
   refine Vi rfl (Idle.no rfl rfl rfl hc3) (Vi rfl (Idle.no rfl rfl rfl hc3) (Vi rfl (Idle.no rfl rfl rfl hc3) (Vi rfl (Idle.no rfl rfl rfl hc3) (Vi rfl (Idle.no rfl rfl rfl hc3) (Vi rfl (Idle.no rfl rfl rfl hc3) (V rfl (ov_pick_false rfl (guard_eq rfl hc3) rfl) ?_))))))
   exact WL.nil ⟨Sub.cons' rfl (congrArg Value.bool (Option.some.inj hm)) (Sub.dropn 7 rfl), fun _ s => s⟩
  refine Vm rfl ?_
  obtain ⟨c2, e3, hm⟩ := bind_some hm
  refine WL.cut_bool 7 32 (x := c2) ?_ ?_
  ·
   rcases Bool.eq_false_or_eq_true c1 with hc4 | hc4
   ·
    replace hm := ite_t hc4 e3
    refine wy hc4 rfl (ov_move rfl rfl) ?_
    refine wy hc4 rfl (ov_move rfl rfl) ?_
    obtain ⟨x2, e4, hm⟩ := bind_some hm
    obtain ⟨h8, h9, h10, cs2, h11, h12⟩ := h1.get e4 (by decide)
    obtain rfl : cs2 = [(mkS x2)] := h11
    refine wy hc4 rfl (ov_indexAddr underlying27 sizeOf9 rfl rfl rfl h8 h9 h10) ?_
    refine wy hc4 rfl (ov_load_elem (v := (mkS x2)) isAgg9 rfl rfl h12) ?_
    obtain ⟨b3, e5, hm⟩ := bind_some hm
    refine wy hc4 rfl (ov_index_string underlying9 rfl rfl rfl e5) ?_
    refine wy hc4 rfl (ov_eql rfl rfl rfl) ?_
    refine V rfl (ov_pick_true rfl (guard_eq rfl hc4) rfl) ?_
    exact WL.nil ⟨Sub.cons' rfl (congrArg Value.bool (Option.some.inj hm)) (Sub.dropn 7 rfl), fun _ s => s⟩
   replace hm := ite_f hc4 e3
   refine Vi rfl (Idle.no rfl rfl rfl hc4) (Vi rfl (Idle.no rfl rfl rfl hc4) (Vi rfl (Idle.no rfl rfl rfl hc4) (Vi rfl (Idle.no rfl rfl rfl hc4) (Vi rfl (Idle.no rfl rfl rfl hc4) (Vi rfl (Idle.no rfl rfl rfl hc4) (V rfl (ov_pick_false rfl (guard_eq rfl hc4) rfl) ?_))))))
   exact WL.nil ⟨Sub.cons' rfl (congrArg Value.bool (Option.some.inj hm)) (Sub.dropn 7 rfl), fun _ s => s⟩
  refine WL.nil (tn ?_)
  refine WP.cond rfl (fun hc5 => ?_) (fun hc5 => ?_)
  ·
   replace hm := ite_t hc5 hm
   refine WP.seq (WP.region (Vm rfl (Vm rfl ?_)))
   obtain ⟨x3, e6, hm⟩ := bind_some hm
   obtain ⟨h13, h14, h15, cs3, h16, h17⟩ := h1.get e6 (by decide)
   obtain rfl : cs3 = [(mkS x3)] := h16
   refine V rfl (ov_indexAddr underlying27 sizeOf9 rfl rfl rfl h13 h14 h15) (V rfl (ov_load_elem (v := (mkS x3)) isAgg9 rfl rfl h17) ?_)
   obtain ⟨r1, e7, hm⟩ := bind_some hm
   refine ws rfl (os_con call108 rfl rfl (fun w' s => (ref16_delays_con x3  w' H s.hold hG r1 e7)) (fun rr1 H1 hle1 hR1 => ?_))
   replace h1 := h1.mono hle1
   replace hG := hG.mono hle1
   obtain ⟨ao3, cap3, rfl, h18, hc6⟩ := hR1
   refine Va rfl (WL.nil (tn (WP.seq (WP.region (Vm rfl (Vm rfl ?_))))))
   obtain ⟨l1, e8, hm⟩ := bind_some hm
   obtain ⟨ao4, cap4, h19, h20, hc7⟩ := sl_h h1 hc1 e8
   refine V rfl (h19 underlying27 sizeOf9 rfl rfl rfl ) (Va rfl (WL.nil (tn (WP.region (Vm rfl (V rfl (ov_fieldAddr underlying24 rfl rfl rfl sizeOf3 rfl rfl) ?_))))))
   refine ws0 rfl (os_store (i := 0) (vs := [(.int .i64 (IntKind.wrap .i64 ((p_lines.length : Int) - 1)))]) (cs' := [(.int .i64 (IntKind.wrap .i64 ((p_lines.length : Int) - 1))), (.slice none 0 0)]) sizeOf3 rfl rfl rfl rfl rfl rfl rfl rfl rfl ?_)
   refine WL.nil (tn ?_)
   exact ⟨H1, l1, ao4, cap4, r1, ao3, cap3, (IntKind.wrap .i64 ((p_lines.length : Int) - 1)), hle1, h20, hc7, h18, hc6, (Sub.all rfl), fun w' s => s, hm⟩
  replace hm := ite_f hc5 hm
  refine WP.skip (tn ?_)
  exact ⟨H, p_lines, ao1, cap1, [], none, 0, (p_lines.length : Int), (Le.refl _), h1, hc1, (SL.nil _ _ _), (Nat.le_refl _), (Sub.all rfl), fun w' s => s, hm⟩
 rintro g' S' ⟨H2, l2, ao5, cap5, l3, ao6, cap6, i1, hle2, h21, hc8, h22, hc9, hsub1, hS1, hm⟩
 refine WP.sub hsub1 (WP.weaken hS1 ?_)
 replace hm := (congrFun (congrFun (congrFun hk1 l2) l3) i1).symm.trans hm
 replace hG := hG.mono hle2
 refine WP.seq (WP.seq (WP.region (Vm rfl (V rfl (ov_len_slice underlying27 rfl rfl) (V rfl (ov_eql rfl rfl rfl) (WL.nil (tn ?_)))))))
 refine WP.cond rfl (fun hc10 => ?_) (fun hc10 => ?_)
 ·
  replace hm := ite_t hc10 hm
  refine WP.seq (WP.region (V rfl (ov_load_whole (i := 0) isAgg24 sizeOf24 rfl rfl rfl rfl) ?_))
  refine ws0 rfl (os_store (i := 1) (vs := [(.int .i64 i1), (.slice none 0 0)]) (cs' := [(.int .i64 i1), (.slice none 0 0)]) sizeOf24 rfl rfl rfl rfl rfl rfl rfl rfl rfl ?_)
  refine WL.nil (tn (WP.ret (then_ret ?_)))
  obtain rfl := Option.some.inj hm
  refine retQ_ret results71 (Res.cell rfl (box_loads (i := 1) isAgg24 sizeOf24 rfl rfl) Res.nil) rfl (fun w' s => ⟨s.below, ?_⟩)
  exact ⟨none, 0, rfl, SL.nil _ _ _, Nat.le_refl _⟩
 replace hm := ite_f hc10 hm
 refine WP.skip (tn ?_)
 obtain ⟨k2, hk2, hm⟩ := joinK_some hm
 refine WP.seq_join (fun g' S' => ∃ (H5 : Heap) (l6 : (List Step)) (ao10 : _) (cap10 : _) (xs2 : _), Le H2 H5 ∧ RL H5 encStep l6 xs2 ∧ Sub [(2, (pB b1 0)), (3, (pB b2 0)), (1000000007, (.bool false))] g' ∧ (∀ w', S' w' → St w H [rowE 45 encStep l6 ao10 cap10 xs2, .blk b2 24 [(.int .i64 i1), (.slice ao10 l6.length cap10)], .blk b1 24 [(.int .i64 0), (.slice none 0 0)]] H5 w') ∧ k2 l6 = some r) ?_ ?_
 ·
  refine WP.seq (WP.region (Va rfl (WL.nil (tn (WP.block ?_)))))
  have rl1 := RL.nil (α := Step) H2 encStep
  refine WP.weaken (fun _ s => s.nilrow 45 (encStep).size) ?_
  refine WP.loop (fun m1 g' S' => ∃ (H3 : Heap) (i2 : Int) (l4 : (List Step)) (ao7 : _) (cap7 : _) (xs1 : _), Le H2 H3 ∧ RL H3 encStep l4 xs1 ∧ Sub [(0, (.slice ao5 l2.length cap5)), (2, (pB b1 0)), (3, (pB b2 0)), (4, (.slice ao6 l3.length cap6)), (6, (.int .i64 i2)), (1000000007, (.bool false))] g' ∧ (∀ w', S' w' → St w H [rowE 45 encStep l4 ao7 cap7 xs1, .blk b2 24 [(.int .i64 i1), (.slice ao7 l4.length cap7)], .blk b1 24 [(.int .i64 0), (.slice none 0 0)]] H3 w') ∧ ref16_Guess_loop1 l2 l3 k2 m1 i2 l4 = some r) (70) ⟨H2, 3, ([] : List Step), none, 0, [], (Le.refl _), rl1, (Sub.all rfl), fun w' s => s, hm⟩ ?_ ?_
  ·
   rintro g' S' ⟨_, _, _, _, _, _, _, _, _, _, hm⟩
   exact none_some hm
  rintro m1 g' S' ⟨H3, i2, l4, ao7, cap7, xs1, hle3, rl2, hsub2, hS2, hm⟩
  refine WP.sub hsub2 (WP.weaken hS2 ?_)
  rw [ref16_Guess_loop1] at hm
  replace h21 := h21.mono hle3
  replace h22 := h22.mono hle3
  replace hG := hG.mono hle3
  refine WP.seq (WP.seq (WP.region (Vm rfl (Vm rfl ?_))))
  obtain ⟨x4, e9, hm⟩ := bind_some hm
  obtain ⟨h23, h24, h25, cs4, h26, h27⟩ := h21.get e9 (by decide)
  obtain rfl : cs4 = [(mkS x4)] := h26
  refine V rfl (ov_indexAddr underlying27 sizeOf9 rfl rfl rfl h23 h24 h25) (V rfl (ov_load_elem (v := (mkS x4)) isAgg9 rfl rfl h27) (V rfl (ov_len_string underlying9 rfl rfl) (V rfl (ov_lss rfl rfl rfl) (Vm rfl ?_))))
  refine WL.cut_bool 5 58 (x := ((decide (i2 < (x4.length : Int))) && (decide ((l4.length : Int) ≤ 64)))) ?_ ?_
  ·
   rcases Bool.eq_false_or_eq_true (decide (i2 < (x4.length : Int))) with hc11 | hc11
   ·
    refine wy hc11 rfl (ov_fieldAddr underlying24 rfl rfl rfl sizeOf22 rfl rfl) ?_
    refine wy hc11 rfl (ov_load_box (i := 1) isAgg22 rfl rfl rfl rfl) ?_
    refine wy hc11 rfl (ov_len_slice underlying22 rfl rfl) ?_
    refine wy hc11 rfl (ov_leq rfl rfl rfl) ?_
    refine V rfl (ov_pick_true rfl (guard_eq rfl hc11) rfl) ?_
    exact WL.nil ⟨Sub.cons' rfl (congrArg Value.bool (andT hc11)) (Sub.dropn 5 rfl), fun _ s => s⟩
   refine Vi rfl (Idle.no rfl rfl rfl hc11) (Vi rfl (Idle.no rfl rfl rfl hc11) (Vi rfl (Idle.no rfl rfl rfl hc11) (Vi rfl (Idle.no rfl rfl rfl hc11) (V rfl (ov_pick_false rfl (guard_eq rfl hc11) rfl) ?_))))
   exact WL.nil ⟨Sub.cons' rfl (congrArg Value.bool (andF hc11)) (Sub.dropn 5 rfl), fun _ s => s⟩
  refine WL.nil (tn ?_)
  refine WP.cond rfl (fun hc12 => ?_) (fun hc12 => ?_)
  ·
   replace hm := ite_t hc12 hm
   refine WP.skip (tn (WP.seq (WP.block (WP.seq (WP.region (Vm rfl (Vm rfl ?_)))))))
   obtain ⟨r2, e10, hm⟩ := bind_some hm
   refine ws rfl (os_con call109 rfl rfl (fun w' s => (ref16_moved_con l2 i2 ao5 cap5  w' H3 s.hold h21 hc8 hG r2 e10)) (fun rr2 H4 hle4 hR2 => ?_))
   replace h22 := h22.mono hle4
   replace rl2 := rl2.mono hle4
   obtain ⟨ao8, cap8, rfl, h28, hc13⟩ := hR2
   refine ws rfl (os_alloc (cs := [(.slice none 0 0), (.int .i64 0)]) zeroValue45 rfl rfl (fun b4 => ?_))
   refine ws0 rfl (os_store (i := 0) (vs := [(.slice ao8 r2.strokes.length cap8), (.int .i64 r2.wait)]) (cs' := [(.slice ao8 r2.strokes.length cap8), (.int .i64 r2.wait)]) sizeOf45 rfl rfl rfl rfl rfl rfl rfl rfl rfl ?_)
   refine WL.nil (tn ?_)
   obtain ⟨k3, hk3, hm⟩ := joinK_some hm
   refine WP.seq_join (fun g' S' => ∃ (i3 : Int), Sub [(0, (.slice ao5 l2.length cap5)), (2, (pB b1 0)), (3, (pB b2 0)), (4, (.slice ao6 l3.length cap6)), (6, (.int .i64 i2)), (7, (pB b4 0)), (1000000007, (.bool false))] g' ∧ (∀ w', S' w' → St w H [.blk b4 45 [(.slice ao8 r2.strokes.length cap8), (.int .i64 i3)], rowE 45 encStep l4 ao7 cap7 xs1, .blk b2 24 [(.int .i64 i1), (.slice ao7 l4.length cap7)], .blk b1 24 [(.int .i64 0), (.slice none 0 0)]] H4 w') ∧ k3 i3 = some r) ?_ ?_
   ·
    refine WP.seq (WP.region (V rfl (ov_fieldAddr underlying24 rfl rfl rfl sizeOf22 rfl rfl) (Vl 2 isAgg22 rfl (V rfl (ov_len_slice underlying22 rfl rfl) (Va rfl (WL.nil (tn (WP.seq (WP.region (Vm rfl (Vm rfl (V rfl (ov_len_slice underlying39 rfl rfl) (V rfl (ov_lss rfl rfl rfl) ?_)))))))))))))
    refine WL.nil (tn ?_)
    refine WP.cond rfl (fun hc14 => ?_) (fun hc14 => ?_)
    ·
     replace hm := ite_t hc14 hm
     refine WP.region (Vm rfl (Vm rfl ?_))
     obtain ⟨x5, e11, hm⟩ := bind_some hm
     obtain ⟨h29, h30, h31, cs5, h32, h33⟩ := h22.get e11 (by decide)
     obtain rfl : cs5 = [(.int .i64 x5)] := h32
     refine V rfl (ov_indexAddr underlying39 sizeOf3 rfl rfl rfl h29 h30 h31) (V rfl (ov_load_elem (v := (.int .i64 x5)) isAgg3 rfl rfl h33) (V rfl (ov_fieldAddr underlying45 rfl rfl rfl sizeOf3 rfl rfl) ?_))
     refine ws0 rfl (os_store (i := 0) (vs := [(.int .i64 x5)]) (cs' := [(.slice ao8 r2.strokes.length cap8), (.int .i64 x5)]) sizeOf3 rfl rfl rfl rfl rfl rfl rfl rfl rfl ?_)
     refine WL.nil (tn ?_)
     exact ⟨x5, (Sub.all rfl), fun w' s => s, hm⟩
    replace hm := ite_f hc14 hm
    refine WP.skip (tn ?_)
    exact ⟨r2.wait, (Sub.all rfl), fun w' s => s, hm⟩
   rintro g' S' ⟨i3, hsub3, hS3, hm⟩
   refine WP.sub hsub3 (WP.weaken hS3 ?_)
   replace hm := (congrFun hk3 i3).symm.trans hm
   refine WP.region (V rfl (ov_fieldAddr underlying24 rfl rfl rfl sizeOf22 rfl rfl) (Vl 2 isAgg22 rfl (V rfl (ov_load_whole (i := 0) isAgg45 sizeOf45 rfl rfl rfl rfl) ?_)))
   have rl3 : RL H4 encStep ([(Step.mk r2.strokes i3)] : List Step) [(.slice ao8 r2.strokes.length cap8), (.int .i64 i3)] := RL.cons (cs := [(.slice ao8 r2.strokes.length cap8), (.int .i64 i3)]) (xs := []) ⟨ao8, cap8, rfl, h28, hc13⟩ (RL.nil _ _)
   refine ws rfl (os_buildSlice (cs := [(.slice ao8 r2.strokes.length cap8), (.int .i64 i3)]) (E := 45) (sz := 2) rfl rfl (fun _ => by kernel_rfl) rfl (by decide) (fun b5 => ?_))
   obtain ⟨l5, e12, hm⟩ := bind_some hm
   refine ws rfl (os_app (i := 2) (j := 0) (En := encStep) (xs := xs1) (ys := [(.slice ao8 r2.strokes.length cap8), (.int .i64 i3)]) underlying22 (by kernel_rfl : (prog.info? 45).map (fun i => (i.zero, i.size, i.bytes)) = some (some (.agg #[(.slice none 0 0), (.int .i64 0)]), (encStep).size, 32)) rfl (by decide) rfl rfl rfl rfl rfl rfl rl2 rl3 e12 (fun ao9 cap9 rl4 => ?_))
   refine V rfl (ov_fieldAddr underlying24 rfl rfl rfl sizeOf22 rfl rfl) ?_
   refine ws0 rfl (os_store (i := 3) (vs := [(.slice ao9 (l4 ++ ([(Step.mk r2.strokes i3)] : List Step)).length cap9)]) (cs' := [(.int .i64 i1), (.slice ao9 (l4 ++ ([(Step.mk r2.strokes i3)] : List Step)).length cap9)]) sizeOf22 rfl rfl rfl rfl rfl rfl rfl rfl rfl ?_)
   refine WL.nil (bn (tn (WP.region (Vm rfl (V rfl (ov_add rfl rfl rfl) (Va rfl (WL.nil (tn ?_))))))))
   exact ⟨H4, (IntKind.wrap .i64 (i2 + 2)), (l4 ++ ([(Step.mk r2.strokes i3)] : List Step)), ao9, cap9, (xs1 ++ [(.slice ao8 r2.strokes.length cap8), (.int .i64 i3)]), (hle3.trans hle4), rl4, (Sub.all rfl), fun w' s => (s.sl [2, 3, 4]), hm⟩
  replace hm := ite_f hc12 hm
  refine WP.exit (then_exit (then_exit (block_here (tn ?_))))
  exact ⟨H3, l4, ao7, cap7, xs1, hle3, rl2, (Sub.all rfl), fun w' s => s, hm⟩
 rintro g' S' ⟨H5, l6, ao10, cap10, xs2, hle5, rl5, hsub4, hS4, hm⟩
 refine WP.sub hsub4 (WP.weaken hS4 ?_)
 replace hm := (congrFun hk2 l6).symm.trans hm
 refine WP.seq (WP.region (V rfl (ov_load_whole (i := 1) isAgg24 sizeOf24 rfl rfl rfl rfl) ?_))
 refine ws0 rfl (os_store (i := 2) (vs := [(.int .i64 i1), (.slice ao10 l6.length cap10)]) (cs' := [(.int .i64 i1), (.slice ao10 l6.length cap10)]) sizeOf24 rfl rfl rfl rfl rfl rfl rfl rfl rfl ?_)
 refine WL.nil (tn (WP.ret ?_))
 obtain rfl := Option.some.inj hm
 refine retQ_ret results71 (Res.cell rfl (box_loads (i := 2) isAgg24 sizeOf24 rfl rfl) Res.nil) rfl (fun w' s => ⟨s.below, ?_⟩)
 obtain ⟨h34, hc15⟩ := s.ret_row (i := 0) rfl rl5
 exact ⟨ao10, cap10, rfl, h34, hc15⟩
theorem ref12_SameTexts_con (p_a : (List (List UInt8))) (p_b : (List (List UInt8))) (ao1 : Option Addr) (cap1 : Nat) (ao2 : Option Addr) (cap2 : Nat) (w : World) (H : Heap) (hH : Le H (hp w)) (h1 : SL H encStr ao1 p_a) (hc1 : p_a.length ≤ cap1) (h2 : SL H encStr ao2 p_b) (hc2 : p_b.length ≤ cap2) (hG : Glob H) (r : Bool) (hm : ref12_SameTexts p_a p_b = some r) :
  Con prog 72 [(.slice ao1 p_a.length cap1), (.slice ao2 p_b.length cap2)] w H (fun v _ => v = (.bool r)) := by
 unfold ref12_SameTexts at hm
 refine con_of hH func72 rfl 26 ntmps72 rfl ?_
 refine WP.seq (WP.region (Va rfl (WL.nil (tn (WP.seq (WP.seq (WP.region (Vm rfl (V rfl (ov_len_slice underlying27 rfl rfl) (Vm rfl (V rfl (ov_len_slice underlying27 rfl rfl) (V rfl (ov_neq rfl rfl rfl) (WL.nil ?_)))))))))))))
 refine tn ?_
 refine WP.cond rfl (fun hc3 => ?_) (fun hc3 => ?_)
 ·
  replace hm := ite_t hc3 hm
  refine WP.seq (WP.region (Va rfl (WL.nil (tn (WP.ret (then_ret ?_))))))
  obtain rfl := Option.some.inj hm
  refine retQ_ret results72 (Res.tmp rfl Res.nil) rfl (fun w' s => ⟨s.below, ?_⟩)
  exact rfl
 replace hm := ite_f hc3 hm
 refine WP.skip (tn ?_)
 obtain ⟨k1, hk1, hm⟩ := joinK_some hm
 refine WP.seq_join (fun g' S' => Sub [(1000000007, (.bool false))] g' ∧ (∀ w', S' w' → St w H [] H w') ∧ k1 = some r) ?_ ?_
 ·
  refine WP.seq (WP.region (Va rfl (WL.nil (tn (WP.block ?_)))))
  refine WP.loop (fun m1 g' S' => ∃ (i1 : Int), Sub [(0, (.slice ao1 p_a.length cap1)), (1, (.slice ao2 p_b.length cap2)), (5, (.int .i64 i1)), (1000000007, (.bool false))] g' ∧ (∀ w', S' w' → St w H [] H w') ∧ ref12_SameTexts_loop1 p_a p_b k1 m1 i1 = some r) ((Int.toNat ((p_a.length : Int) - 0) + 1)) ⟨0, (Sub.all rfl), fun w' s => s, hm⟩ ?_ ?_
  ·
   rintro g' S' ⟨_, _, _, hm⟩
   exact none_some hm
  rintro m1 g' S' ⟨i1, hsub1, hS1, hm⟩
  refine WP.sub hsub1 (WP.weaken hS1 ?_)
  rw [ref12_SameTexts_loop1] at hm
  refine WP.seq (WP.seq (WP.region (Vm rfl (Vm rfl (V rfl (ov_len_slice underlying27 rfl rfl) (V rfl (ov_lss rfl rfl rfl) (WL.nil (tn ?_))))))))
  refine WP.cond rfl (fun hc4 => ?_) (fun hc4 => ?_)
  ·
   replace hm := ite_t hc4 hm
   refine WP.skip (tn (WP.seq (WP.block (WP.seq ?_))))
   refine WP.region_draws (by kernel_rfl) (by kernel_rfl) (fun _ s => s.drew) ?_
   refine qf rfl (ov_move rfl rfl) ?_
   refine qf rfl (ov_move rfl rfl) ?_
   obtain ⟨x1, e1, hm⟩ := bind_some hm
   obtain ⟨h3, h4, h5, cs1, h6, h7⟩ := h1.get e1 (by decide)
   obtain rfl : cs1 = [(mkS x1)] := h6
   refine qf rfl (ov_indexAddr underlying27 sizeOf9 rfl rfl rfl h3 h4 h5) ?_
   refine qf rfl (ov_load_elem (v := (mkS x1)) isAgg9 rfl rfl h7) ?_
   refine qf rfl (ov_move rfl rfl) ?_
   refine qf rfl (ov_move rfl rfl) ?_
   obtain ⟨x2, e2, hm⟩ := bind_some hm
   obtain ⟨h8, h9, h10, cs2, h11, h12⟩ := h2.get e2 (by decide)
   obtain rfl : cs2 = [(mkS x2)] := h11
   refine qf rfl (ov_indexAddr underlying27 sizeOf9 rfl rfl rfl h8 h9 h10) ?_
   refine qf rfl (ov_load_elem (v := (mkS x2)) isAgg9 rfl rfl h12) ?_
   refine qf rfl (ov_sneq rfl rfl rfl) ?_
   refine QL.nil ?_
   refine tn ?_
   refine WP.cond rfl (fun hc5 => ?_) (fun hc5 => ?_)
   ·
    replace hm := ite_t hc5 hm
    refine WP.seq (WP.region (Va rfl (WL.nil (tn (WP.ret (block_ret (then_ret (then_ret (block_ret (then_ret ?_))))))))))
    obtain rfl := Option.some.inj hm
    refine retQ_ret results72 (Res.tmp rfl Res.nil) rfl (fun w' s => ⟨s.below, ?_⟩)
    exact rfl
   replace hm := ite_f hc5 hm
   refine WP.skip (bn (tn (WP.region (Vm rfl (V rfl (ov_add rfl rfl rfl) (Va rfl (WL.nil (tn ?_))))))))
   exact ⟨(IntKind.wrap .i64 (i1 + 1)), (Sub.all rfl), fun w' s => s, hm⟩
  replace hm := ite_f hc4 hm
  refine WP.exit (then_exit (then_exit (block_here (tn ?_))))
  exact ⟨(Sub.all rfl), fun w' s => s, hm⟩
 rintro g' S' ⟨hsub2, hS2, hm⟩
 refine WP.sub hsub2 (WP.weaken hS2 ?_)
 replace hm := hk1.symm.trans hm
 refine WP.seq (WP.region (Va rfl (WL.nil (tn (WP.ret ?_)))))
 obtain rfl := Option.some.inj hm
 refine retQ_ret results72 (Res.tmp rfl Res.nil) rfl (fun w' s => ⟨s.below, ?_⟩)
 exact rfl
theorem ref16_Read_con (p_lines : (List (List UInt8))) (ao1 : Option Addr) (cap1 : Nat) (w : World) (H : Heap) (hH : Le H (hp w)) (h1 : SL H encStr ao1 p_lines) (hc1 : p_lines.length ≤ cap1) (hG : Glob H) (r : (Sequence × Int)) (hm : ref16_Read p_lines = some r) :
  Con prog 31 [(.slice ao1 p_lines.length cap1)] w H (fun v H' => ∃ (ao2 : Option Addr) (cap2 : Nat), v = (.tuple #[(.agg #[(.int .i64 r.1.actuators), (.slice ao2 r.1.steps.length cap2)]), (.int .i64 r.2)]) ∧ SL H' encStep ao2 r.1.steps ∧ r.1.steps.length ≤ cap2) := by
 unfold ref16_Read at hm
 refine con_of hH func31 rfl 31 ntmps31 rfl ?_
 refine WP.seq (WP.region ?_)
 refine ws rfl (os_alloc (cs := [(.int .i64 0), (.slice none 0 0)]) zeroValue24 rfl rfl (fun b1 => ?_))
 refine Va rfl (WL.nil (tn (WP.seq (WP.seq (WP.region (Vm rfl ?_))))))
 obtain ⟨r1, e1, hm⟩ := bind_some hm
 refine wo rfl (oq_con (r := (.int .i64 r1)) call70 rfl rfl (fun w' s => ⟨_, (ref16_limited_con p_lines 7 ao1 cap1  w' H s.hold h1 hc1 hG r1 e1)⟩)) ?_
 refine Va rfl (WL.nil (tn (WP.seq (WP.region (Vm rfl (V rfl (ov_neq rfl rfl rfl) (WL.nil (tn ?_))))))))
 refine WP.cond rfl (fun hc3 => ?_) (fun hc3 => ?_)
 ·
  replace hm := ite_t hc3 hm
  refine WP.seq (WP.region (V rfl (ov_build (r := (.agg #[(.int .i64 0), (.slice none 0 0)])) rfl rfl (fun _ => by kernel_rfl)) (Vm rfl ?_)))
  refine ws0 rfl (os_store (i := 0) (vs := [(.int .i64 0), (.slice none 0 0)]) (cs' := [(.int .i64 0), (.slice none 0 0)]) sizeOf24 rfl rfl rfl rfl rfl rfl rfl rfl rfl ?_)
  refine Va rfl (WL.nil (tn (WP.ret (then_ret ?_))))
  obtain rfl := Option.some.inj hm
  refine retQ_ret results31 (Res.cell rfl (box_loads (i := 0) isAgg24 sizeOf24 rfl rfl) (Res.tmp rfl Res.nil)) rfl (fun w' s => ⟨s.below, ?_⟩)
  exact ⟨none, 0, rfl, SL.nil _ _ _, Nat.le_refl _⟩
 replace hm := ite_f hc3 hm
 refine WP.skip (tn (WP.seq (WP.region (Vm rfl ?_))))
 obtain ⟨r2, e2, hm⟩ := bind_some hm
 refine ws rfl (os_con call71 rfl rfl (fun w' s => (ref16_Guess_con p_lines ao1 cap1  w' H s.hold h1 hc1 hG r2 e2)) (fun rr1 H1 hle1 hR1 => ?_))
 replace h1 := h1.mono hle1
 replace hG := hG.mono hle1
 obtain ⟨ao3, cap3, rfl, h3, hc4⟩ := hR1
 refine ws rfl (os_alloc (cs := [(.int .i64 0), (.slice none 0 0)]) zeroValue24 rfl rfl (fun b2 => ?_))
 refine ws0 rfl (os_store (i := 0) (vs := [(.int .i64 r2.actuators), (.slice ao3 r2.steps.length cap3)]) (cs' := [(.int .i64 r2.actuators), (.slice ao3 r2.steps.length cap3)]) sizeOf24 rfl rfl rfl rfl rfl rfl rfl rfl rfl ?_)
 refine WL.nil (tn (WP.seq (WP.region (V rfl (ov_load_whole (i := 0) isAgg24 sizeOf24 rfl rfl rfl rfl) ?_))))
 obtain ⟨r3, e3, hm⟩ := bind_some hm
 refine ws rfl (os_con call14 rfl rfl (fun w' s => (ref16_Draw_con r2 ao3 cap3  w' H1 s.hold h3 hc4 hG r3 e3)) (fun rr2 H2 hle2 hR2 => ?_))
 replace h1 := h1.mono hle2
 replace h3 := h3.mono hle2
 replace hG := hG.mono hle2
 obtain ⟨ao4, cap4, rfl, h4, hc5⟩ := hR2
 refine Vm rfl (Ve rfl (Ve rfl (Va rfl (Va rfl (WL.nil (tn (WP.seq (WP.seq (WP.region (Vm rfl (V rfl (ov_neq rfl rfl rfl) (Vm rfl ?_))))))))))))
 obtain ⟨c1, e4, hm⟩ := bind_some hm
 refine WL.cut_bool 5 28 (x := c1) ?_ ?_
 ·
  rcases Bool.eq_false_or_eq_true (r3.2 != 0) with hc6 | hc6
  ·
   replace hm := ite_t hc6 e4
   refine Vi rfl (Idle.no rfl rfl rfl hc6) (Vi rfl (Idle.no rfl rfl rfl hc6) (Vi rfl (Idle.no rfl rfl rfl hc6) (Vi rfl (Idle.no rfl rfl rfl hc6) (V rfl (ov_pick_true rfl (guard_eq rfl hc6) rfl) ?_))))
   exact WL.nil ⟨Sub.cons' rfl (congrArg Value.bool (Option.some.inj hm)) (Sub.dropn 5 rfl), fun _ s => s⟩
  replace hm := ite_f hc6 e4
  refine wy hc6 rfl (ov_move rfl rfl) ?_
  refine wy hc6 rfl (ov_move rfl rfl) ?_
  obtain ⟨r4, e5, hm⟩ := bind_some hm
  refine WL.quiet (Runs.yes rfl rfl rfl hc6) rfl rfl (oq_con (r := (.bool r4)) call72 rfl rfl (fun w' s => ⟨_, (ref12_SameTexts_con r3.1 p_lines ao4 cap4 ao1 cap1  w' H2 s.hold h4 hc5 h1 hc1 hG r4 e5)⟩)) ?_
  refine wy hc6 rfl (ov_not rfl rfl) ?_
  refine V rfl (ov_pick_false rfl (guard_eq rfl hc6) rfl) ?_
  exact WL.nil ⟨Sub.cons' rfl (congrArg Value.bool (Option.some.inj hm)) (Sub.dropn 5 rfl), fun _ s => s⟩
 refine WL.nil (tn ?_)
 refine WP.cond rfl (fun hc7 => ?_) (fun hc7 => ?_)
 ·
  replace hm := ite_t hc7 hm
  refine WP.seq (WP.region (V rfl (ov_build (r := (.agg #[(.int .i64 0), (.slice none 0 0)])) rfl rfl (fun _ => by kernel_rfl)) ?_))
  refine ws0 rfl (os_store (i := 1) (vs := [(.int .i64 0), (.slice none 0 0)]) (cs' := [(.int .i64 0), (.slice none 0 0)]) sizeOf24 rfl rfl rfl rfl rfl rfl rfl rfl rfl ?_)
  refine Va rfl (WL.nil (tn (WP.ret (then_ret ?_))))
  obtain rfl := Option.some.inj hm
  refine retQ_ret results31 (Res.cell rfl (box_loads (i := 1) isAgg24 sizeOf24 rfl rfl) (Res.tmp rfl Res.nil)) rfl (fun w' s => ⟨s.below, ?_⟩)
  exact ⟨none, 0, rfl, SL.nil _ _ _, Nat.le_refl _⟩
 replace hm := ite_f hc7 hm
 refine WP.skip (tn (WP.seq (WP.region (V rfl (ov_load_whole (i := 0) isAgg24 sizeOf24 rfl rfl rfl rfl) ?_))))
 refine ws0 rfl (os_store (i := 1) (vs := [(.int .i64 r2.actuators), (.slice ao3 r2.steps.length cap3)]) (cs' := [(.int .i64 r2.actuators), (.slice ao3 r2.steps.length cap3)]) sizeOf24 rfl rfl rfl rfl rfl rfl rfl rfl rfl ?_)
 refine Va rfl (WL.nil (tn (WP.ret ?_)))
 obtain rfl := Option.some.inj hm
 refine retQ_ret results31 (Res.cell rfl (box_loads (i := 1) isAgg24 sizeOf24 rfl rfl) (Res.tmp rfl Res.nil)) rfl (fun w' s => ⟨s.below, ?_⟩)
 exact ⟨ao3, cap3, rfl, h3.mono s.le_newer, hc4⟩
theorem diagram_Unscale_con (p_l : (List (List UInt8))) (ao1 : Option Addr) (cap1 : Nat) (w : World) (H : Heap) (hH : Le H (hp w)) (h1 : SL H encStr ao1 p_l) (hc1 : p_l.length ≤ cap1) (hG : Glob H) (r : (Sequence × (List Int) × Int)) (hm : diagram_Unscale p_l = some r) :
  Con prog 32 [(.slice ao1 p_l.length cap1)] w H (fun v H' => ∃ (ao2 : Option Addr) (cap2 : Nat) (ao3 : Option Addr) (cap3 : Nat), v = (.tuple #[(.agg #[(.int .i64 r.1.actuators), (.slice ao2 r.1.steps.length cap2)]), (.slice ao3 r.2.1.length cap3), (.int .i64 r.2.2)]) ∧ SL H' encStep ao2 r.1.steps ∧ r.1.steps.length ≤ cap2 ∧ SL H' (encInt .i64) ao3 r.2.1 ∧ r.2.1.length ≤ cap3) := by
 unfold diagram_Unscale at hm
 refine con_of hH func32 rfl 86 ntmps32 rfl ?_
 refine WP.seq (WP.region ?_)
 refine ws rfl (os_alloc (cs := [(.int .i64 0), (.slice none 0 0)]) zeroValue24 rfl rfl (fun b1 => ?_))
 refine Va rfl (Va rfl (WL.nil (tn (WP.seq (WP.seq (WP.region (Vm rfl ?_)))))))
 obtain ⟨r1, e1, hm⟩ := bind_some hm
 refine wo rfl (oq_con (r := (.int .i64 r1)) call66 rfl rfl (fun w' s => ⟨_, (diagram_given_con p_l 6 ao1 cap1  w' H s.hold h1 hc1 hG r1 e1)⟩)) ?_
 refine Va rfl (WL.nil (tn (WP.seq (WP.region (Vm rfl (V rfl (ov_neq rfl rfl rfl) (WL.nil (tn ?_))))))))
 refine WP.cond rfl (fun hc4 => ?_) (fun hc4 => ?_)
 ·
  replace hm := ite_t hc4 hm
  refine WP.seq (WP.region (V rfl (ov_build (r := (.agg #[(.int .i64 0), (.slice none 0 0)])) rfl rfl (fun _ => by kernel_rfl)) (Vm rfl ?_)))
  refine ws0 rfl (os_store (i := 0) (vs := [(.int .i64 0), (.slice none 0 0)]) (cs' := [(.int .i64 0), (.slice none 0 0)]) sizeOf24 rfl rfl rfl rfl rfl rfl rfl rfl rfl ?_)
  refine Va rfl (Va rfl (WL.nil (tn (WP.ret (then_ret ?_)))))
  obtain rfl := Option.some.inj hm
  refine retQ_ret results32 (Res.cell rfl (box_loads (i := 0) isAgg24 sizeOf24 rfl rfl) (Res.tmp rfl (Res.tmp rfl Res.nil))) rfl (fun w' s => ⟨s.below, ?_⟩)
  exact ⟨none, 0, none, 0, rfl, SL.nil _ _ _, Nat.le_refl _, SL.nil _ _ _, Nat.le_refl _⟩
 replace hm := ite_f hc4 hm
 refine WP.skip (tn (WP.seq (WP.region (Vm rfl (V rfl (ov_len_slice underlying27 rfl rfl) (V rfl (ov_build (r := (.agg #[(.int .i64 (p_l.length : Int)), (.slice none 0 0)])) rfl rfl (fun _ => by kernel_rfl)) ?_))))))
 refine ws rfl (os_alloc (cs := [(.int .i64 0), (.slice none 0 0)]) zeroValue24 rfl rfl (fun b2 => ?_))
 refine ws0 rfl (os_store (i := 0) (vs := [(.int .i64 (p_l.length : Int)), (.slice none 0 0)]) (cs' := [(.int .i64 (p_l.length : Int)), (.slice none 0 0)]) sizeOf24 rfl rfl rfl rfl rfl rfl rfl rfl rfl ?_)
 refine WL.nil (tn (WP.seq (WP.region (Va rfl (WL.nil (tn ?_))))))
 have rl1 := RL.nil (α := Int) H (encInt .i64)
 refine WP.weaken (fun _ s => s.nilrow 3 ((encInt .i64)).size) ?_
 have rl2 := RL.nil (α := Step) H encStep
 refine WP.weaken (fun _ s => s.nilrow 45 (encStep).size) ?_
 obtain ⟨k1, hk1, hm⟩ := joinK_some hm
 refine WP.seq_join (fun g' S' => ∃ (H4 : Heap) (l10 : (List Int)) (ao13 : _) (cap13 : _) (xs7 : _) (l11 : (List Step)) (ao14 : _) (cap14 : _) (xs8 : _), Le H H4 ∧ RL H4 (encInt .i64) l10 xs7 ∧ RL H4 encStep l11 xs8 ∧ Sub [(0, (.slice ao1 p_l.length cap1)), (2, (pB b1 0)), (6, (pB b2 0)), (7, (.slice ao13 l10.length cap13)), (1000000007, (.bool false))] g' ∧ (∀ w', S' w' → St w H [rowE 45 encStep l11 ao14 cap14 xs8, .row 3 ((encInt .i64)).size l10.length (.slice ao13 l10.length cap13) xs7, .blk b2 24 [(.int .i64 (p_l.length : Int)), (.slice ao14 l11.length cap14)], .blk b1 24 [(.int .i64 0), (.slice none 0 0)]] H4 w') ∧ k1 l10 l11 = some r) ?_ ?_
 ·
  refine WP.seq (WP.region (Vm rfl (V rfl (ov_len_slice underlying27 rfl rfl) (V rfl (ov_gtr rfl rfl rfl) (WL.nil (tn ?_))))))
  refine WP.cond rfl (fun hc5 => ?_) (fun hc5 => ?_)
  ·
   replace hm := ite_t hc5 hm
   refine WP.seq (WP.region (Va rfl (WL.nil (tn (WP.seq (WP.region (Vm rfl ?_)))))))
   obtain ⟨x1, e2, hm⟩ := bind_some hm
   obtain ⟨h4, h5, h6, cs1, h7, h8⟩ := h1.get e2 (by decide)
   obtain rfl : cs1 = [(mkS x1)] := h7
   refine V rfl (ov_indexAddr underlying27 sizeOf9 rfl rfl rfl h4 h5 h6) (V rfl (ov_load_elem (v := (mkS x1)) isAgg9 rfl rfl h8) ?_)
   refine ws rfl (os_range underlying9 rfl rfl (fun b3 => ?_))
   refine WL.nil (tn (WP.block ?_))
   refine WP.loop (fun m1 g' S' => ∃ (H1 : Heap) (i1 : Int) (l1 : (List Int)) (ao4 : _) (cap4 : _) (xs1 : _) (n1 : Nat) (l2 : (List Step)) (ao5 : _) (cap5 : _) (xs2 : _), Le H H1 ∧ RL H1 (encInt .i64) l1 xs1 ∧ RL H1 encStep l2 xs2 ∧ Sub [(0, (.slice ao1 p_l.length cap1)), (2, (pB b1 0)), (6, (pB b2 0)), (7, (.slice ao4 l1.length cap4)), (8, (.int .i64 i1)), (26, (pB b3 0)), (1000000007, (.bool false))] g' ∧ (∀ w', S' w' → St w H [.obj b3 (iterO x1 n1), rowE 45 encStep l2 ao5 cap5 xs2, .row 3 ((encInt .i64)).size l1.length (.slice ao4 l1.length cap4) xs1, .blk b2 24 [(.int .i64 (p_l.length : Int)), (.slice ao5 l2.length cap5)], .blk b1 24 [(.int .i64 0), (.slice none 0 0)]] H1 w') ∧ diagram_Unscale_loop1 p_l k1 x1 m1 i1 l1 n1 l2 = some r) ((x1.length - 0 + 1)) ⟨H, 0, ([] : List Int), none, 0, [], 0, ([] : List Step), none, 0, [], (Le.refl _), rl1, rl2, (Sub.all rfl), fun w' s => s, hm⟩ ?_ ?_
   ·
    rintro g' S' ⟨_, _, _, _, _, _, _, _, _, _, _, _, _, _, _, _, hm⟩
    exact none_some hm
   rintro m1 g' S' ⟨H1, i1, l1, ao4, cap4, xs1, n1, l2, ao5, cap5, xs2, hle1, rl3, rl4, hsub1, hS1, hm⟩
   refine WP.sub hsub1 (WP.weaken hS1 ?_)
   rw [diagram_Unscale_loop1] at hm
   replace h1 := h1.mono hle1
   replace hG := hG.mono hle1
   refine WP.seq (WP.region ?_)
   rcases Bool.eq_false_or_eq_true (decide (n1 < x1.length)) with hc6 | hc6
   ·
    replace hm := ite_t hc6 hm
    refine ws rfl (os_next_t (i := 0) rfl rfl rfl (of_decide_eq_true hc6) ?_)
    refine Ve rfl (WL.nil (tn (WP.seq (WP.cond_true rfl (WP.skip (tn (WP.block (WP.seq (WP.region (Ve rfl (Va rfl (WL.nil (tn ?_)))))))))))))
    refine WP.seq (WP.seq (WP.region (Vm rfl (V rfl (ov_lss rfl rfl rfl) (Vm rfl ?_)))))
    refine WL.cut_bool 5 37 (x := ((decide ((n1 : Int) < 3)) || (decide ((l2.length : Int) > 64)))) ?_ ?_
    ·
     rcases Bool.eq_false_or_eq_true (decide ((n1 : Int) < 3)) with hc7 | hc7
     ·
      refine Vi rfl (Idle.no rfl rfl rfl hc7) (Vi rfl (Idle.no rfl rfl rfl hc7) (Vi rfl (Idle.no rfl rfl rfl hc7) (Vi rfl (Idle.no rfl rfl rfl hc7) (V rfl (ov_pick_true rfl (guard_eq rfl hc7) rfl) ?_))))
      exact WL.nil ⟨Sub.cons' rfl (congrArg Value.bool (orT hc7)) (Sub.dropn 5 rfl), fun _ s => s⟩
     refine wy hc7 rfl (ov_fieldAddr underlying24 rfl rfl rfl sizeOf22 rfl rfl) ?_
     refine wy hc7 rfl (ov_load_box (i := 3) isAgg22 rfl rfl rfl rfl) ?_
     refine wy hc7 rfl (ov_len_slice underlying22 rfl rfl) ?_
     refine wy hc7 rfl (ov_gtr rfl rfl rfl) ?_
     refine V rfl (ov_pick_false rfl (guard_eq rfl hc7) rfl) ?_
     exact WL.nil ⟨Sub.cons' rfl (congrArg Value.bool (orF hc7)) (Sub.dropn 5 rfl), fun _ s => s⟩
    refine WL.nil (tn ?_)
    refine WP.cond rfl (fun hc8 => ?_) (fun hc8 => ?_)
    ·
     replace hm := ite_t hc8 hm
     refine WP.exit (then_exit (block_here (tn ?_)))
     exact ⟨H1, i1, l1, ao4, cap4, xs1, (n1 + (decW x1 n1).2), l2, ao5, cap5, xs2, hle1, rl3, rl4, (Sub.all rfl), fun w' s => s, hm⟩
    replace hm := ite_f hc8 hm
    refine WP.skip (tn (WP.seq (WP.region (V rfl (ov_build (r := (.agg #[(.slice none 0 0), (.int .i64 0)])) rfl rfl (fun _ => by kernel_rfl)) (Vm rfl (Vm rfl ?_))))))
    refine ws rfl (os_inline (cap := []) (vs := [(.agg #[(.slice none 0 0), (.int .i64 0)]), (.slice ao1 p_l.length cap1), (.int .i64 (n1 : Int))]) call68 rfl rfl rfl func68 rfl 39 ntmps68 rfl (fun w' s => ?_))
    refine WP.seq (WP.region ?_)
    refine ws rfl (os_box (cs := [(.slice none 0 0), (.int .i64 0)]) rfl rfl rfl (fun b4 => ?_))
    refine ws rfl (os_alloc (cs := [(.slice none 0 0), (.int .i64 0)]) zeroValue45 rfl rfl (fun b5 => ?_))
    refine WL.nil (tn ?_)
    obtain ⟨k2, hk2, hm⟩ := joinK_some hm
    refine WP.seq_join (fun g' S' => ∃ (l6 : (List Stroke)) (ao9 : _) (cap9 : _) (xs5 : _), RL H1 encStroke l6 xs5 ∧ Sub [(3, (pB b4 0)), (6, (pB b5 0)), (1000000007, (.bool false))] g' ∧ (∀ w', S' w' → St w H [rowE 48 encStroke l6 ao9 cap9 xs5, .blk b5 45 [(.slice none 0 0), (.int .i64 0)], .blk b4 45 [(.slice ao9 l6.length cap9), (.int .i64 0)], .obj b3 (iterO x1 (n1 + (decW x1 n1).2)), rowE 45 encStep l2 ao5 cap5 xs2, .row 3 ((encInt .i64)).size l1.length (.slice ao4 l1.length cap4) xs1, .blk b2 24 [(.int .i64 (p_l.length : Int)), (.slice ao5 l2.length cap5)], .blk b1 24 [(.int .i64 0), (.slice none 0 0)]] H1 w') ∧ k2 l6 = some r) ?_ ?_
    ·
     refine WP.seq (WP.region (Vm rfl (V rfl (ov_len_slice underlying27 rfl rfl) (Vm rfl (WL.nil (tn (WP.block ?_)))))))
     have rl5 := RL.nil (α := Stroke) H1 encStroke
     refine WP.weaken (fun _ s => s.nilrow 48 (encStroke).size) ?_
     refine WP.loop (fun m2 g' S' => ∃ (i2 : Int) (l3 : (List Stroke)) (ao6 : _) (cap6 : _) (xs3 : _), RL H1 encStroke l3 xs3 ∧ Sub [(2, (.int .i64 (n1 : Int))), (3, (pB b4 0)), (6, (pB b5 0)), (10, (.slice ao1 p_l.length cap1)), (11, (.int .i64 (p_l.length : Int))), (12, (.int .i64 i2)), (1000000007, (.bool false))] g' ∧ (∀ w', S' w' → St w H [rowE 48 encStroke l3 ao6 cap6 xs3, .blk b5 45 [(.slice none 0 0), (.int .i64 0)], .blk b4 45 [(.slice ao6 l3.length cap6), (.int .i64 0)], .obj b3 (iterO x1 (n1 + (decW x1 n1).2)), rowE 45 encStep l2 ao5 cap5 xs2, .row 3 ((encInt .i64)).size l1.length (.slice ao4 l1.length cap4) xs1, .blk b2 24 [(.int .i64 (p_l.length : Int)), (.slice ao5 l2.length cap5)], .blk b1 24 [(.int .i64 0), (.slice none 0 0)]] H1 w') ∧ diagram_Unscale_loop2 p_l n1 k2 m2 i2 l3 = some r) ((Int.toNat ((p_l.length : Int) - 0) + 1)) ⟨0, ([] : List Stroke), none, 0, [], rl5, (Sub.all rfl), fun w' s => s, hm⟩ ?_ ?_
     ·
      rintro g' S' ⟨_, _, _, _, _, _, _, _, hm⟩
      exact none_some hm
     rintro m2 g' S' ⟨i2, l3, ao6, cap6, xs3, rl6, hsub2, hS2, hm⟩
     refine WP.sub hsub2 (WP.weaken hS2 ?_)
     rw [diagram_Unscale_loop2] at hm
     refine WP.seq (WP.region (V rfl (ov_lss rfl rfl rfl) (WL.nil (tn (WP.seq ?_)))))
     refine WP.cond rfl (fun hc9 => ?_) (fun hc9 => ?_)
     ·
      replace hm := ite_t hc9 hm
      refine WP.skip (tn ?_)
      obtain ⟨k3, hk3, hm⟩ := joinK_some hm
      refine WP.seq_join (fun g' S' => ∃ (l5 : (List Stroke)) (ao8 : _) (cap8 : _) (xs4 : _), RL H1 encStroke l5 xs4 ∧ Sub [(2, (.int .i64 (n1 : Int))), (3, (pB b4 0)), (6, (pB b5 0)), (10, (.slice ao1 p_l.length cap1)), (11, (.int .i64 (p_l.length : Int))), (12, (.int .i64 i2)), (1000000007, (.bool false))] g' ∧ (∀ w', S' w' → St w H [rowE 48 encStroke l5 ao8 cap8 xs4, .blk b5 45 [(.slice none 0 0), (.int .i64 0)], .blk b4 45 [(.slice ao8 l5.length cap8), (.int .i64 0)], .obj b3 (iterO x1 (n1 + (decW x1 n1).2)), rowE 45 encStep l2 ao5 cap5 xs2, .row 3 ((encInt .i64)).size l1.length (.slice ao4 l1.length cap4) xs1, .blk b2 24 [(.int .i64 (p_l.length : Int)), (.slice ao5 l2.length cap5)], .blk b1 24 [(.int .i64 0), (.slice none 0 0)]] H1 w') ∧ k3 l5 = some r) ?_ ?_
      ·
       refine WP.block (WP.seq (WP.region (Vm rfl ?_)))
       obtain ⟨x2, e3, hm⟩ := bind_some hm
       obtain ⟨h9, h10, h11, cs2, h12, h13⟩ := h1.get e3 (by decide)
       obtain rfl : cs2 = [(mkS x2)] := h12
       refine V rfl (ov_indexAddr underlying27 sizeOf9 rfl rfl rfl h9 h10 h11) (V rfl (ov_load_elem (v := (mkS x2)) isAgg9 rfl rfl h13) (Va rfl (Va rfl (WL.nil (tn (WP.seq (WP.seq (WP.region (Vm rfl (Vm rfl (V rfl (ov_len_string underlying9 rfl rfl) (V rfl (ov_geq rfl rfl rfl) (WL.nil ?_)))))))))))))
       refine tn ?_
       refine WP.cond rfl (fun hc10 => ?_) (fun hc10 => ?_)
       ·
        replace hm := ite_t hc10 hm
        refine WP.exit (then_exit (block_here (tn ?_)))
        exact ⟨l3, ao6, cap6, xs3, rl6, (Sub.all rfl), fun w' s => s, hm⟩
       replace hm := ite_f hc10 hm
       refine WP.skip (tn (WP.seq ?_))
       refine WP.region_draws (by kernel_rfl) (by kernel_rfl) (fun _ s => s.drew) ?_
       have h14 : SL H1 (encInt .u8) (some ⟨1, 0, none⟩) diag_going := hG.1.1.2
       have hc11 : diag_going.length ≤ 2 := by decide
       refine qf rfl (ov_slice_arr underlying84 sizeOf5 rfl rfl rfl) ?_
       refine qf rfl (ov_move rfl rfl) ?_
       refine qf rfl (ov_move rfl rfl) ?_
       obtain ⟨b6, e4, hm⟩ := bind_some hm
       refine qf rfl (ov_index_string underlying9 rfl rfl rfl e4) ?_
       obtain ⟨r2, e5, hm⟩ := bind_some hm
       refine QL.quiet (Runs.free rfl) rfl rfl (oq_con (r := (.int .i64 r2)) call105 rfl rfl (fun w' s => ⟨_, (slices_Index_bytebyte_con diag_going (b6.toNat : Int) (some ⟨1, 0, none⟩) 2  w' H1 s.hold h14 hc11 hG r2 e5)⟩)) ?_
       refine qf rfl (ov_assign rfl rfl) ?_
       refine QL.nil ?_
       refine tn (WP.seq (WP.region (Vm rfl (V rfl (ov_geq rfl rfl rfl) (WL.nil (tn ?_))))))
       refine WP.cond rfl (fun hc12 => ?_) (fun hc12 => ?_)
       ·
        replace hm := ite_t hc12 hm
        refine WP.region (V rfl (ov_fieldAddr underlying45 rfl rfl rfl sizeOf43 rfl rfl) (Vl 2 isAgg43 rfl (Vm rfl (Vm rfl (V rfl (ov_eql rfl rfl rfl) (V rfl (ov_build (r := (.agg #[(.int .i64 i2), (.bool (r2 == 1))])) rfl rfl (fun _ => by kernel_rfl)) ?_))))))
        have rl7 : RL H1 encStroke ([(Stroke.mk i2 (r2 == 1))] : List Stroke) [(.int .i64 i2), (.bool (r2 == 1))] := RL.cons (cs := [(.int .i64 i2), (.bool (r2 == 1))]) (xs := []) rfl (RL.nil _ _)
        refine ws rfl (os_buildSlice (cs := [(.int .i64 i2), (.bool (r2 == 1))]) (E := 48) (sz := 2) rfl rfl (fun _ => by kernel_rfl) rfl (by decide) (fun b7 => ?_))
        obtain ⟨l4, e6, hm⟩ := bind_some hm
        refine ws rfl (os_app (i := 1) (j := 0) (En := encStroke) (xs := xs3) (ys := [(.int .i64 i2), (.bool (r2 == 1))]) underlying43 (by kernel_rfl : (prog.info? 48).map (fun i => (i.zero, i.size, i.bytes)) = some (some (.agg #[(.int .i64 0), (.bool false)]), (encStroke).size, 16)) rfl (by decide) rfl rfl rfl rfl rfl rfl rl6 rl7 e6 (fun ao7 cap7 rl8 => ?_))
        refine V rfl (ov_fieldAddr underlying45 rfl rfl rfl sizeOf43 rfl rfl) ?_
        refine ws0 rfl (os_store (i := 3) (vs := [(.slice ao7 (l3 ++ ([(Stroke.mk i2 (r2 == 1))] : List Stroke)).length cap7)]) (cs' := [(.slice ao7 (l3 ++ ([(Stroke.mk i2 (r2 == 1))] : List Stroke)).length cap7), (.int .i64 0)]) sizeOf43 rfl rfl rfl rfl rfl rfl rfl rfl rfl ?_)
        refine WL.nil (bn (tn ?_))
        exact ⟨(l3 ++ ([(Stroke.mk i2 (r2 == 1))] : List Stroke)), ao7, cap7, (xs3 ++ [(.int .i64 i2), (.bool (r2 == 1))]), rl8, (Sub.all rfl), fun w' s => (s.sl [1, 2, 3, 4, 5, 6, 7, 8]), hm⟩
       replace hm := ite_f hc12 hm
       refine WP.skip (bn (tn ?_))
       exact ⟨l3, ao6, cap6, xs3, rl6, (Sub.all rfl), fun w' s => s, hm⟩
      rintro g' S' ⟨l5, ao8, cap8, xs4, rl9, hsub3, hS3, hm⟩
      refine WP.sub hsub3 (WP.weaken hS3 ?_)
      replace hm := (congrFun hk3 l5).symm.trans hm
      refine WP.region (V rfl (ov_add rfl rfl rfl) (Vm rfl (WL.nil (tn ?_))))
      exact ⟨(IntKind.wrap .i64 (i2 + 1)), l5, ao8, cap8, xs4, rl9, (Sub.all rfl), fun w' s => s, hm⟩
     replace hm := ite_f hc9 hm
     refine WP.exit (then_exit (then_exit (block_here (tn ?_))))
     exact ⟨l3, ao6, cap6, xs3, rl6, (Sub.all rfl), fun w' s => s, hm⟩
    rintro g' S' ⟨l6, ao9, cap9, xs5, rl10, hsub4, hS4, hm⟩
    refine WP.sub hsub4 (WP.weaken hS4 ?_)
    replace hm := (congrFun hk2 l6).symm.trans hm
    refine WP.seq (WP.region (V rfl (ov_load_whole (i := 2) isAgg45 sizeOf45 rfl rfl rfl rfl) ?_))
    refine ws0 rfl (os_store (i := 1) (vs := [(.slice ao9 l6.length cap9), (.int .i64 0)]) (cs' := [(.slice ao9 l6.length cap9), (.int .i64 0)]) sizeOf45 rfl rfl rfl rfl rfl rfl rfl rfl rfl ?_)
    refine WL.nil (tn (WP.ret ?_))
    refine retQ_ret (v := (.agg #[(.slice ao9 l6.length cap9), (.int .i64 0)])) results68 (Res.cell rfl (box_loads (i := 1) isAgg45 sizeOf45 rfl rfl) Res.nil) rfl (fun w' s => ⟨_, ?_, s⟩)
    refine ws rfl (os_alloc (cs := [(.slice none 0 0), (.int .i64 0)]) zeroValue45 rfl rfl (fun b8 => ?_))
    refine ws0 rfl (os_store (i := 0) (vs := [(.slice ao9 l6.length cap9), (.int .i64 0)]) (cs' := [(.slice ao9 l6.length cap9), (.int .i64 0)]) sizeOf45 rfl rfl rfl rfl rfl rfl rfl rfl rfl ?_)
    refine WL.nil (tn (WP.block (WP.seq (WP.region (V rfl (ov_fieldAddr underlying45 rfl rfl rfl sizeOf43 rfl rfl) (Vl 0 isAgg43 rfl (V rfl (ov_len_slice underlying43 rfl rfl) (V rfl (ov_gtr rfl rfl rfl) (Va rfl (WL.nil (tn ?_)))))))))))
    refine WP.cond rfl (fun hc13 => ?_) (fun hc13 => ?_)
    ·
     replace hm := ite_t hc13 hm
     obtain ⟨k4, hk4, hm⟩ := joinK_some hm
     refine WP.seq_join (fun g' S' => ∃ (H3 : Heap) (l8 : (List Step)) (ao11 : _) (cap11 : _) (xs6 : _), Le H1 H3 ∧ RL H3 encStep l8 xs6 ∧ Sub [(0, (.slice ao1 p_l.length cap1)), (2, (pB b1 0)), (6, (pB b2 0)), (7, (.slice ao4 l1.length cap4)), (8, (.int .i64 i1)), (26, (pB b3 0)), (1000000007, (.bool false))] g' ∧ (∀ w', S' w' → St w H [.obj b3 (iterO x1 (n1 + (decW x1 n1).2)), rowE 45 encStep l8 ao11 cap11 xs6, .row 3 ((encInt .i64)).size l1.length (.slice ao4 l1.length cap4) xs1, .blk b2 24 [(.int .i64 (p_l.length : Int)), (.slice ao11 l8.length cap11)], .blk b1 24 [(.int .i64 0), (.slice none 0 0)]] H3 w') ∧ k4 l8 = some r) ?_ ?_
     ·
      refine WP.seq (WP.region (Vm rfl (V rfl (ov_eql rfl rfl rfl) (WL.nil (tn ?_)))))
      refine WP.cond rfl (fun hc14 => ?_) (fun hc14 => ?_)
      ·
       replace hm := ite_t hc14 hm
       refine WP.region (V rfl (ov_fieldAddr underlying24 rfl rfl rfl sizeOf22 rfl rfl) (Vl 7 isAgg22 rfl (V rfl (ov_load_whole (i := 0) isAgg45 sizeOf45 rfl rfl rfl rfl) ?_)))
       refine WL.weaken (fun _ s => s.sl [1, 0, 2, 3, 4, 5, 6, 7, 8]) ?_
       refine WL.held rl10 (fun H2 hc15 hle2 h15 => ?_)
       replace h1 := h1.mono hle2
       replace rl4 := rl4.mono hle2
       replace rl3 := rl3.mono hle2
       replace hG := hG.mono hle2
       have rl11 : RL H2 encStep ([(Step.mk l6 0)] : List Step) [(.slice ao9 l6.length cap9), (.int .i64 0)] := RL.cons (cs := [(.slice ao9 l6.length cap9), (.int .i64 0)]) (xs := []) ⟨ao9, cap9, rfl, h15, hc15⟩ (RL.nil _ _)
       refine ws rfl (os_buildSlice (cs := [(.slice ao9 l6.length cap9), (.int .i64 0)]) (E := 45) (sz := 2) rfl rfl (fun _ => by kernel_rfl) rfl (by decide) (fun b9 => ?_))
       obtain ⟨l7, e7, hm⟩ := bind_some hm
       refine ws rfl (os_app (i := 5) (j := 0) (En := encStep) (xs := xs2) (ys := [(.slice ao9 l6.length cap9), (.int .i64 0)]) underlying22 (by kernel_rfl : (prog.info? 45).map (fun i => (i.zero, i.size, i.bytes)) = some (some (.agg #[(.slice none 0 0), (.int .i64 0)]), (encStep).size, 32)) rfl (by decide) rfl rfl rfl rfl rfl rfl rl4 rl11 e7 (fun ao10 cap10 rl12 => ?_))
       refine V rfl (ov_fieldAddr underlying24 rfl rfl rfl sizeOf22 rfl rfl) ?_
       refine ws0 rfl (os_store (i := 7) (vs := [(.slice ao10 (l2 ++ ([(Step.mk l6 0)] : List Step)).length cap10)]) (cs' := [(.int .i64 (p_l.length : Int)), (.slice ao10 (l2 ++ ([(Step.mk l6 0)] : List Step)).length cap10)]) sizeOf22 rfl rfl rfl rfl rfl rfl rfl rfl rfl ?_)
       refine WL.nil (tn ?_)
       exact ⟨H2, (l2 ++ ([(Step.mk l6 0)] : List Step)), ao10, cap10, (xs2 ++ [(.slice ao9 l6.length cap9), (.int .i64 0)]), hle2, rl12, (Sub.all rfl), fun w' s => (s.sl [4, 5, 6, 7, 8]), hm⟩
      replace hm := ite_f hc14 hm
      refine WP.skip (tn ?_)
      exact ⟨H1, l2, ao5, cap5, xs2, (Le.refl _), rl4, (Sub.all rfl), fun w' s => (s.sl [4, 5, 6, 7, 8]), hm⟩
     rintro g' S' ⟨H3, l8, ao11, cap11, xs6, hle3, rl13, hsub5, hS5, hm⟩
     refine WP.sub hsub5 (WP.weaken hS5 ?_)
     replace hm := (congrFun hk4 l8).symm.trans hm
     replace h1 := h1.mono hle3
     replace rl3 := rl3.mono hle3
     replace hG := hG.mono hle3
     refine WP.region (Vm rfl (V rfl (ov_add rfl rfl rfl) (Va rfl (WL.nil (bn (bn (tn ?_)))))))
     exact ⟨H3, (IntKind.wrap .i64 (i1 + 1)), l1, ao4, cap4, xs1, (n1 + (decW x1 n1).2), l8, ao11, cap11, xs6, (hle1.trans hle3), rl3, rl13, (Sub.all rfl), fun w' s => s, hm⟩
    replace hm := ite_f hc13 hm
    refine WP.seq (WP.region (Vm rfl (V rfl (ov_gtr rfl rfl rfl) (Va rfl (WL.nil (tn ?_))))))
    refine WP.cond rfl (fun hc16 => ?_) (fun hc16 => ?_)
    ·
     replace hm := ite_t hc16 hm
     refine WP.seq (WP.region (Vm rfl (Vm rfl ?_)))
     have rl14 : RL H1 (encInt .i64) ([i1] : List Int) [(.int .i64 i1)] := RL.cons (cs := [(.int .i64 i1)]) (xs := []) rfl (RL.nil _ _)
     refine ws rfl (os_buildSlice (cs := [(.int .i64 i1)]) (E := 3) (sz := 1) rfl rfl (fun _ => by kernel_rfl) rfl (by decide) (fun b10 => ?_))
     obtain ⟨l9, e8, hm⟩ := bind_some hm
     refine ws rfl (os_app (i := 7) (j := 0) (En := (encInt .i64)) (xs := xs1) (ys := [(.int .i64 i1)]) underlying39 (by kernel_rfl : (prog.info? 3).map (fun i => (i.zero, i.size, i.bytes)) = some (some (.int .i64 0), ((encInt .i64)).size, 8)) rfl (by decide) rfl rfl rfl rfl rfl rfl rl3 rl14 e8 (fun ao12 cap12 rl15 => ?_))
     refine Va rfl (WL.nil (tn (WP.region (Va rfl (WL.nil (bn (bn (tn ?_))))))))
     exact ⟨H1, 0, (l1 ++ ([i1] : List Int)), ao12, cap12, (xs1 ++ [(.int .i64 i1)]), (n1 + (decW x1 n1).2), l2, ao5, cap5, xs2, hle1, rl15, rl4, (Sub.all rfl), fun w' s => (s.sl [5, 6, 7, 8, 9]), hm⟩
    replace hm := ite_f hc16 hm
    refine WP.skip (bn (bn (tn ?_)))
    exact ⟨H1, i1, l1, ao4, cap4, xs1, (n1 + (decW x1 n1).2), l2, ao5, cap5, xs2, hle1, rl3, rl4, (Sub.all rfl), fun w' s => (s.sl [4, 5, 6, 7, 8]), hm⟩
   replace hm := ite_f hc6 hm
   refine ws rfl (os_next_f (i := 0) rfl rfl rfl (of_decide_eq_false hc6) ?_)
   refine Ve rfl (WL.nil (tn (WP.seq (WP.cond_false rfl (WP.exit (then_exit (then_exit (block_here (tn ?_)))))))))
   exact ⟨H1, l1, ao4, cap4, xs1, l2, ao5, cap5, xs2, hle1, rl3, rl4, (Sub.all rfl), fun w' s => (s.sl [1, 2, 3, 4]), hm⟩
  replace hm := ite_f hc5 hm
  refine WP.skip (tn ?_)
  exact ⟨H, ([] : List Int), none, 0, [], ([] : List Step), none, 0, [], (Le.refl _), rl1, rl2, (Sub.all rfl), fun w' s => s, hm⟩
 rintro g' S' ⟨H4, l10, ao13, cap13, xs7, l11, ao14, cap14, xs8, hle4, rl16, rl17, hsub6, hS6, hm⟩
 refine WP.sub hsub6 (WP.weaken hS6 ?_)
 replace hm := (congrFun (congrFun hk1 l10) l11).symm.trans hm
 replace h1 := h1.mono hle4
 replace hG := hG.mono hle4
 refine WP.seq (WP.seq (WP.region (V rfl (ov_load_whole (i := 2) isAgg24 sizeOf24 rfl rfl rfl rfl) ?_)))
 obtain ⟨r3, e9, hm⟩ := bind_some hm
 refine wo rfl (oq_con (r := (.int .i64 r3)) call40 rfl rfl (fun w' s => ⟨_, (sequence_Check_con (Sequence.mk (p_l.length : Int) l11) ao14 cap14 w' (hp w') (Le.refl _) (s.row_arg (i := 0) rfl rl17).1 (s.row_arg (i := 0) rfl rl17).2 (hG.mono s.hold) r3 e9)⟩)) ?_
 refine V rfl (ov_neq rfl rfl rfl) (Vm rfl ?_)
 refine WL.cut_bool 7 74 (x := ((r3 != 0) || ((l10.length : Int) != (l11.length : Int)))) ?_ ?_
 ·
  rcases Bool.eq_false_or_eq_true (r3 != 0) with hc17 | hc17
  ·
   refine Vi rfl (Idle.no rfl rfl rfl hc17) (Vi rfl (Idle.no rfl rfl rfl hc17) (Vi rfl (Idle.no rfl rfl rfl hc17) (Vi rfl (Idle.no rfl rfl rfl hc17) (Vi rfl (Idle.no rfl rfl rfl hc17) (Vi rfl (Idle.no rfl rfl rfl hc17) (V rfl (ov_pick_true rfl (guard_eq rfl hc17) rfl) ?_))))))
   exact WL.nil ⟨Sub.cons' rfl (congrArg Value.bool (orT hc17)) (Sub.dropn 7 rfl), fun _ s => s⟩
  refine wy hc17 rfl (ov_move rfl rfl) ?_
  refine wy hc17 rfl (ov_len_slice underlying39 rfl rfl) ?_
  refine wy hc17 rfl (ov_fieldAddr underlying24 rfl rfl rfl sizeOf22 rfl rfl) ?_
  refine wy hc17 rfl (ov_load_box (i := 2) isAgg22 rfl rfl rfl rfl) ?_
  refine wy hc17 rfl (ov_len_slice underlying22 rfl rfl) ?_
  refine wy hc17 rfl (ov_neq rfl rfl rfl) ?_
  refine V rfl (ov_pick_false rfl (guard_eq rfl hc17) rfl) ?_
  exact WL.nil ⟨Sub.cons' rfl (congrArg Value.bool (orF hc17)) (Sub.dropn 7 rfl), fun _ s => s⟩
 refine Vm rfl ?_
 refine WL.held rl17 (fun H5 hc18 hle5 h16 => ?_)
 replace h1 := h1.mono hle5
 replace rl16 := rl16.mono hle5
 replace hG := hG.mono hle5
 refine WL.held rl16 (fun H6 hc19 hle6 h17 => ?_)
 replace h1 := h1.mono hle6
 replace h16 := h16.mono hle6
 replace hG := hG.mono hle6
 obtain ⟨c1, e10, hm⟩ := bind_some hm
 refine WL.cut_bool 7 82 (x := c1) ?_ ?_
 ·
  rcases Bool.eq_false_or_eq_true ((r3 != 0) || ((l10.length : Int) != (l11.length : Int))) with hc20 | hc20
  ·
   replace hm := ite_t hc20 e10
   refine Vi rfl (Idle.no rfl rfl rfl hc20) (Vi rfl (Idle.no rfl rfl rfl hc20) (Vi rfl (Idle.no rfl rfl rfl hc20) (Vi rfl (Idle.no rfl rfl rfl hc20) (Vi rfl (Idle.no rfl rfl rfl hc20) (Vi rfl (Idle.no rfl rfl rfl hc20) (V rfl (ov_pick_true rfl (guard_eq rfl hc20) rfl) ?_))))))
   exact WL.nil ⟨Sub.cons' rfl (congrArg Value.bool (Option.some.inj hm)) (Sub.dropn 7 rfl), fun _ s => s⟩
  replace hm := ite_f hc20 e10
  refine wy hc20 rfl (ov_load_whole (i := 0) isAgg24 sizeOf24 rfl rfl rfl rfl) ?_
  refine wy hc20 rfl (ov_move rfl rfl) ?_
  obtain ⟨r4, e11, hm⟩ := bind_some hm
  refine WL.step (Runs.yes rfl rfl rfl hc20) rfl rfl (os_con call64 rfl rfl (fun w' s => (diagram_stretched_con (Sequence.mk (p_l.length : Int) l11) l10 ao14 cap14 ao13 cap13  w' H6 s.hold h16 hc18 h17 hc19 hG r4 e11)) (fun rr1 H7 hle7 hR1 => ?_))
  replace h1 := h1.mono hle7
  replace h17 := h17.mono hle7
  replace h16 := h16.mono hle7
  replace hG := hG.mono hle7
  obtain ⟨ao15, cap15, rfl, h18, hc21⟩ := hR1
  refine wy hc20 rfl (ov_move rfl rfl) ?_
  obtain ⟨r5, e12, hm⟩ := bind_some hm
  refine WL.quiet (Runs.yes rfl rfl rfl hc20) rfl rfl (oq_con (r := (.bool r5)) call19 rfl rfl (fun w' s => ⟨_, (slices_Equal_stringstring_con r4 p_l ao15 cap15 ao1 cap1  w' H7 s.hold h18 hc21 h1 hc1 hG r5 e12)⟩)) ?_
  refine wy hc20 rfl (ov_not rfl rfl) ?_
  refine V rfl (ov_pick_false rfl (guard_eq rfl hc20) rfl) ?_
  exact WL.nil ⟨Sub.cons' rfl (congrArg Value.bool (Option.some.inj hm)) (Sub.dropn 7 rfl), fun _ s => (s.heap hle7)⟩
 refine WL.nil (tn ?_)
 refine WP.cond rfl (fun hc22 => ?_) (fun hc22 => ?_)
 ·
  replace hm := ite_t hc22 hm
  refine WP.seq (WP.region (V rfl (ov_build (r := (.agg #[(.int .i64 0), (.slice none 0 0)])) rfl rfl (fun _ => by kernel_rfl)) ?_))
  refine ws0 rfl (os_store (i := 1) (vs := [(.int .i64 0), (.slice none 0 0)]) (cs' := [(.int .i64 0), (.slice none 0 0)]) sizeOf24 rfl rfl rfl rfl rfl rfl rfl rfl rfl ?_)
  refine Va rfl (Va rfl (WL.nil (tn (WP.ret (then_ret ?_)))))
  obtain rfl := Option.some.inj hm
  refine retQ_ret results32 (Res.cell rfl (box_loads (i := 1) isAgg24 sizeOf24 rfl rfl) (Res.tmp rfl (Res.tmp rfl Res.nil))) rfl (fun w' s => ⟨s.below, ?_⟩)
  exact ⟨none, 0, none, 0, rfl, SL.nil _ _ _, Nat.le_refl _, SL.nil _ _ _, Nat.le_refl _⟩
 replace hm := ite_f hc22 hm
 refine WP.skip (tn (WP.seq (WP.region (V rfl (ov_load_whole (i := 0) isAgg24 sizeOf24 rfl rfl rfl rfl) (Vm rfl ?_)))))
 refine ws0 rfl (os_store (i := 1) (vs := [(.int .i64 (p_l.length : Int)), (.slice ao14 l11.length cap14)]) (cs' := [(.int .i64 (p_l.length : Int)), (.slice ao14 l11.length cap14)]) sizeOf24 rfl rfl rfl rfl rfl rfl rfl rfl rfl ?_)
 refine Va rfl (Va rfl (WL.nil (tn (WP.ret ?_))))
 obtain rfl := Option.some.inj hm
 refine retQ_ret results32 (Res.cell rfl (box_loads (i := 1) isAgg24 sizeOf24 rfl rfl) (Res.tmp rfl (Res.tmp rfl Res.nil))) rfl (fun w' s => ⟨s.below, ?_⟩)
 exact ⟨ao14, cap14, ao13, cap13, rfl, h16.mono s.le_newer, hc18, h17.mono s.le_newer, hc19⟩
theorem ref16_Unguess_con (p_lines : (List (List UInt8))) (ao1 : Option Addr) (cap1 : Nat) (w : World) (H : Heap) (hH : Le H (hp w)) (h1 : SL H encStr ao1 p_lines) (hc1 : p_lines.length ≤ cap1) (hG : Glob H) (r : (Sequence × (List Int))) (hm : ref16_Unguess p_lines = some r) :
  Con prog 73 [(.slice ao1 p_lines.length cap1)] w H (fun v H' => ∃ (ao2 : Option Addr) (cap2 : Nat) (ao3 : Option Addr) (cap3 : Nat), v = (.tuple #[(.agg #[(.int .i64 r.1.actuators), (.slice ao2 r.1.steps.length cap2)]), (.slice ao3 r.2.length cap3)]) ∧ SL H' encStep ao2 r.1.steps ∧ r.1.steps.length ≤ cap2 ∧ SL H' (encInt .i64) ao3 r.2 ∧ r.2.length ≤ cap3) := by
 unfold ref16_Unguess at hm
 refine con_of hH func73 rfl 69 ntmps73 rfl ?_
 refine WP.seq (WP.region ?_)
 refine ws rfl (os_alloc (cs := [(.int .i64 0), (.slice none 0 0)]) zeroValue24 rfl rfl (fun b1 => ?_))
 refine Va rfl (WL.nil (tn (WP.seq (WP.region (Vm rfl (V rfl (ov_len_slice underlying27 rfl rfl) (V rfl (ov_build (r := (.agg #[(.int .i64 (p_lines.length : Int)), (.slice none 0 0)])) rfl rfl (fun _ => by kernel_rfl)) ?_)))))))
 refine ws rfl (os_alloc (cs := [(.int .i64 0), (.slice none 0 0)]) zeroValue24 rfl rfl (fun b2 => ?_))
 refine ws0 rfl (os_store (i := 0) (vs := [(.int .i64 (p_lines.length : Int)), (.slice none 0 0)]) (cs' := [(.int .i64 (p_lines.length : Int)), (.slice none 0 0)]) sizeOf24 rfl rfl rfl rfl rfl rfl rfl rfl rfl ?_)
 refine WL.nil (tn (WP.seq (WP.region (Va rfl (WL.nil (tn (WP.seq (WP.region (Va rfl (WL.nil (tn ?_)))))))))))
 obtain ⟨k1, hk1, hm⟩ := joinK_some hm
 refine WP.seq_join (fun g' S' => ∃ (H3 : Heap) (l5 : (List Int)) (ao9 : _) (cap9 : _) (xs3 : _) (l6 : (List Step)) (ao10 : _) (cap10 : _) (xs4 : _), Le H H3 ∧ RL H3 (encInt .i64) l5 xs3 ∧ RL H3 encStep l6 xs4 ∧ Sub [(2, (pB b1 0)), (4, (pB b2 0)), (5, (.slice ao9 l5.length cap9)), (1000000007, (.bool false))] g' ∧ (∀ w', S' w' → St w H [rowE 45 encStep l6 ao10 cap10 xs4, .row 3 ((encInt .i64)).size l5.length (.slice ao9 l5.length cap9) xs3, .blk b2 24 [(.int .i64 (p_lines.length : Int)), (.slice ao10 l6.length cap10)], .blk b1 24 [(.int .i64 0), (.slice none 0 0)]] H3 w') ∧ k1 l5 l6 = some r) ?_ ?_
 ·
  refine WP.block ?_
  have rl1 := RL.nil (α := Int) H (encInt .i64)
  refine WP.weaken (fun _ s => s.nilrow 3 ((encInt .i64)).size) ?_
  have rl2 := RL.nil (α := Step) H encStep
  refine WP.weaken (fun _ s => s.nilrow 45 (encStep).size) ?_
  refine WP.loop (fun m1 g' S' => ∃ (H1 : Heap) (i1 : Int) (l1 : (List Int)) (ao4 : _) (cap4 : _) (xs1 : _) (l2 : (List Step)) (ao5 : _) (cap5 : _) (xs2 : _), Le H H1 ∧ RL H1 (encInt .i64) l1 xs1 ∧ RL H1 encStep l2 xs2 ∧ Sub [(0, (.slice ao1 p_lines.length cap1)), (2, (pB b1 0)), (4, (pB b2 0)), (5, (.slice ao4 l1.length cap4)), (6, (.int .i64 i1)), (1000000007, (.bool false))] g' ∧ (∀ w', S' w' → St w H [rowE 45 encStep l2 ao5 cap5 xs2, .row 3 ((encInt .i64)).size l1.length (.slice ao4 l1.length cap4) xs1, .blk b2 24 [(.int .i64 (p_lines.length : Int)), (.slice ao5 l2.length cap5)], .blk b1 24 [(.int .i64 0), (.slice none 0 0)]] H1 w') ∧ ref16_Unguess_loop1 p_lines k1 m1 i1 l1 l2 = some r) (70) ⟨H, 3, ([] : List Int), none, 0, [], ([] : List Step), none, 0, [], (Le.refl _), rl1, rl2, (Sub.all rfl), fun w' s => s, hm⟩ ?_ ?_
  ·
   rintro g' S' ⟨_, _, _, _, _, _, _, _, _, _, _, _, _, _, _, hm⟩
   exact none_some hm
  rintro m1 g' S' ⟨H1, i1, l1, ao4, cap4, xs1, l2, ao5, cap5, xs2, hle1, rl3, rl4, hsub1, hS1, hm⟩
  refine WP.sub hsub1 (WP.weaken hS1 ?_)
  rw [ref16_Unguess_loop1] at hm
  replace h1 := h1.mono hle1
  replace hG := hG.mono hle1
  refine WP.seq (WP.seq (WP.region (V rfl (ov_fieldAddr underlying24 rfl rfl rfl sizeOf22 rfl rfl) (Vl 2 isAgg22 rfl (V rfl (ov_len_slice underlying22 rfl rfl) (V rfl (ov_leq rfl rfl rfl) (WL.nil (tn ?_))))))))
  refine WP.cond rfl (fun hc4 => ?_) (fun hc4 => ?_)
  ·
   replace hm := ite_t hc4 hm
   refine WP.skip (tn (WP.block (WP.seq (WP.region (Vm rfl (Vm rfl ?_))))))
   obtain ⟨r1, e1, hm⟩ := bind_some hm
   refine ws rfl (os_con call109 rfl rfl (fun w' s => (ref16_moved_con p_lines i1 ao1 cap1  w' H1 s.hold h1 hc1 hG r1 e1)) (fun rr1 H2 hle2 hR1 => ?_))
   replace h1 := h1.mono hle2
   replace rl4 := rl4.mono hle2
   replace rl3 := rl3.mono hle2
   obtain ⟨ao6, cap6, rfl, h4, hc5⟩ := hR1
   refine ws rfl (os_alloc (cs := [(.slice none 0 0), (.int .i64 0)]) zeroValue45 rfl rfl (fun b3 => ?_))
   refine ws0 rfl (os_store (i := 0) (vs := [(.slice ao6 r1.strokes.length cap6), (.int .i64 r1.wait)]) (cs' := [(.slice ao6 r1.strokes.length cap6), (.int .i64 r1.wait)]) sizeOf45 rfl rfl rfl rfl rfl rfl rfl rfl rfl ?_)
   refine WL.nil (tn (WP.seq (WP.seq (WP.region (V rfl (ov_fieldAddr underlying45 rfl rfl rfl sizeOf43 rfl rfl) (Vl 0 isAgg43 rfl (V rfl (ov_len_slice underlying43 rfl rfl) (V rfl (ov_eql rfl rfl rfl) (WL.nil (tn ?_))))))))))
   refine WP.cond rfl (fun hc6 => ?_) (fun hc6 => ?_)
   ·
    replace hm := ite_t hc6 hm
    refine WP.seq (WP.region (V rfl (ov_load_whole (i := 3) isAgg24 sizeOf24 rfl rfl rfl rfl) (Vm rfl ?_)))
    refine ws0 rfl (os_store (i := 4) (vs := [(.int .i64 (p_lines.length : Int)), (.slice ao5 l2.length cap5)]) (cs' := [(.int .i64 (p_lines.length : Int)), (.slice ao5 l2.length cap5)]) sizeOf24 rfl rfl rfl rfl rfl rfl rfl rfl rfl ?_)
    refine Va rfl (WL.nil (tn (WP.ret (then_ret (block_ret (then_ret (block_ret (then_ret ?_))))))))
    obtain rfl := Option.some.inj hm
    refine retQ_ret results73 (Res.cell rfl (box_loads (i := 4) isAgg24 sizeOf24 rfl rfl) (Res.tmp rfl Res.nil)) rfl (fun w' s => ⟨s.below, ?_⟩)
    obtain ⟨h5, hc7⟩ := s.ret_row (i := 1) rfl rl4
    obtain ⟨h6, hc8⟩ := s.ret_row (i := 2) rfl rl3
    exact ⟨ao5, cap5, ao4, cap4, rfl, h5, hc7, h6, hc8⟩
   replace hm := ite_f hc6 hm
   refine WP.skip (tn (WP.seq (WP.region (Vm rfl (V rfl (ov_fieldAddr underlying45 rfl rfl rfl sizeOf43 rfl rfl) (Vl 0 isAgg43 rfl ?_))))))
   obtain ⟨x1, e2, hm⟩ := bind_some hm
   obtain ⟨h7, h8, h9, cs1, h10, h11⟩ := h4.get e2 (by decide)
   obtain rfl : cs1 = [(.int .i64 x1.actuator), (.bool x1.out)] := h10
   refine V rfl (ov_indexAddr underlying43 sizeOf48 rfl rfl rfl h7 h8 h9) (V rfl (ov_fieldAddrE underlying48 rfl rfl rfl sizeOf3 rfl rfl) ?_)
   refine V rfl (ov_load_elem (v := (.int .i64 x1.actuator)) isAgg3 rfl rfl (h11.one (off := 0) rfl)) ?_
   obtain ⟨x2, e3, hm⟩ := bind_some hm
   obtain ⟨h12, h13, h14, cs2, h15, h16⟩ := h1.get e3 (by decide)
   obtain rfl : cs2 = [(mkS x2)] := h15
   refine V rfl (ov_indexAddr underlying27 sizeOf9 rfl rfl rfl h12 h13 h14) (V rfl (ov_load_elem (v := (mkS x2)) isAgg9 rfl rfl h16) (Va rfl (WL.nil (tn (WP.seq (WP.region (Va rfl (WL.nil (tn ?_)))))))))
   obtain ⟨k2, hk2, hm⟩ := joinK_some hm
   refine WP.seq_join (fun g' S' => ∃ (i3 : Int), Sub [(0, (.slice ao1 p_lines.length cap1)), (2, (pB b1 0)), (4, (pB b2 0)), (5, (.slice ao4 l1.length cap4)), (6, (.int .i64 i1)), (7, (pB b3 0)), (9, (.int .i64 i3)), (1000000007, (.bool false))] g' ∧ (∀ w', S' w' → St w H [.blk b3 45 [(.slice ao6 r1.strokes.length cap6), (.int .i64 r1.wait)], rowE 45 encStep l2 ao5 cap5 xs2, .row 3 ((encInt .i64)).size l1.length (.slice ao4 l1.length cap4) xs1, .blk b2 24 [(.int .i64 (p_lines.length : Int)), (.slice ao5 l2.length cap5)], .blk b1 24 [(.int .i64 0), (.slice none 0 0)]] H2 w') ∧ k2 i3 = some r) ?_ ?_
   ·
    refine WP.block ?_
    refine WP.loop (fun m2 g' S' => ∃ (i2 : Int), Sub [(0, (.slice ao1 p_lines.length cap1)), (2, (pB b1 0)), (4, (pB b2 0)), (5, (.slice ao4 l1.length cap4)), (6, (.int .i64 i1)), (7, (pB b3 0)), (8, (mkS x2)), (9, (.int .i64 i2)), (1000000007, (.bool false))] g' ∧ (∀ w', S' w' → St w H [.blk b3 45 [(.slice ao6 r1.strokes.length cap6), (.int .i64 r1.wait)], rowE 45 encStep l2 ao5 cap5 xs2, .row 3 ((encInt .i64)).size l1.length (.slice ao4 l1.length cap4) xs1, .blk b2 24 [(.int .i64 (p_lines.length : Int)), (.slice ao5 l2.length cap5)], .blk b1 24 [(.int .i64 0), (.slice none 0 0)]] H2 w') ∧ ref16_Unguess_loop2 i1 x2 k2 m2 i2 = some r) (4100) ⟨0, (Sub.all rfl), fun w' s => s, hm⟩ ?_ ?_
    ·
     rintro g' S' ⟨_, _, _, hm⟩
     exact none_some hm
    rintro m2 g' S' ⟨i2, hsub2, hS2, hm⟩
    refine WP.sub hsub2 (WP.weaken hS2 ?_)
    rw [ref16_Unguess_loop2] at hm
    refine WP.seq (WP.seq ?_)
    refine WP.region_draws (by kernel_rfl) (by kernel_rfl) (fun _ s => s.drew) ?_
    refine qf rfl (ov_move rfl rfl) ?_
    refine qf rfl (ov_move rfl rfl) ?_
    refine qf rfl (ov_add rfl rfl rfl) ?_
    refine qf rfl (ov_move rfl rfl) ?_
    refine qf rfl (ov_len_string underlying9 rfl rfl) ?_
    refine qf rfl (ov_lss rfl rfl rfl) ?_
    refine qf rfl (ov_move rfl rfl) ?_
    obtain ⟨c1, e4, hm⟩ := bind_some hm
    refine QL.part_bool 10 50 (x := c1) ?_ ?_
    ·
     rcases Bool.eq_false_or_eq_true (decide ((IntKind.wrap .i64 (i1 + i2)) < (x2.length : Int))) with hc9 | hc9
     ·
      replace hm := ite_t hc9 e4
      refine qy hc9 rfl (ov_move rfl rfl) ?_
      refine qy hc9 rfl (ov_move rfl rfl) ?_
      refine qy hc9 rfl (ov_move rfl rfl) ?_
      refine qy hc9 rfl (ov_add rfl rfl rfl) ?_
      obtain ⟨b4, e5, hm⟩ := bind_some hm
      refine qy hc9 rfl (ov_index_string underlying9 rfl rfl rfl e5) ?_
      refine qy hc9 rfl (ov_move rfl rfl) ?_
      refine qy hc9 rfl (ov_move rfl rfl) ?_
      obtain ⟨b5, e6, hm⟩ := bind_some hm
      refine qy hc9 rfl (ov_index_string underlying9 rfl rfl rfl e6) ?_
      refine qy hc9 rfl (ov_eql rfl rfl rfl) ?_
      refine qf rfl (ov_pick_true rfl (guard_eq rfl hc9) rfl) ?_
      exact QL.nil (Sub.cons' rfl (congrArg Value.bool (Option.some.inj hm)) (Sub.dropn 10 rfl))
     replace hm := ite_f hc9 e4
     refine QL.idle (Idle.no rfl rfl rfl hc9) rfl rfl ?_
     refine QL.idle (Idle.no rfl rfl rfl hc9) rfl rfl ?_
     refine QL.idle (Idle.no rfl rfl rfl hc9) rfl rfl ?_
     refine QL.idle (Idle.no rfl rfl rfl hc9) rfl rfl ?_
     refine QL.idle (Idle.no rfl rfl rfl hc9) rfl rfl ?_
     refine QL.idle (Idle.no rfl rfl rfl hc9) rfl rfl ?_
     refine QL.idle (Idle.no rfl rfl rfl hc9) rfl rfl ?_
     refine QL.idle (Idle.no rfl rfl rfl hc9) rfl rfl ?_
     refine QL.idle (Idle.no rfl rfl rfl hc9) rfl rfl ?_
     refine qf rfl (ov_pick_false rfl (guard_eq rfl hc9) rfl) ?_
     exact QL.nil (Sub.cons' rfl (congrArg Value.bool (Option.some.inj hm)) (Sub.dropn 10 rfl))
    refine QL.nil ?_
    refine tn ?_
    refine WP.cond rfl (fun hc10 => ?_) (fun hc10 => ?_)
    ·
     replace hm := ite_t hc10 hm
     refine WP.skip (tn (WP.block (WP.region (Vm rfl (V rfl (ov_add rfl rfl rfl) (Va rfl (WL.nil (bn (tn ?_)))))))))
     exact ⟨(IntKind.wrap .i64 (i2 + 1)), (Sub.all rfl), fun w' s => s, hm⟩
    replace hm := ite_f hc10 hm
    refine WP.exit (then_exit (then_exit (block_here (tn ?_))))
    exact ⟨i2, (Sub.all rfl), fun w' s => s, hm⟩
   rintro g' S' ⟨i3, hsub3, hS3, hm⟩
   refine WP.sub hsub3 (WP.weaken hS3 ?_)
   replace hm := (congrFun hk2 i3).symm.trans hm
   refine WP.seq (WP.region (V rfl (ov_fieldAddr underlying24 rfl rfl rfl sizeOf22 rfl rfl) (Vl 3 isAgg22 rfl (V rfl (ov_load_whole (i := 0) isAgg45 sizeOf45 rfl rfl rfl rfl) ?_))))
   have rl5 : RL H2 encStep ([r1] : List Step) [(.slice ao6 r1.strokes.length cap6), (.int .i64 r1.wait)] := RL.cons (cs := [(.slice ao6 r1.strokes.length cap6), (.int .i64 r1.wait)]) (xs := []) ⟨ao6, cap6, rfl, h4, hc5⟩ (RL.nil _ _)
   refine ws rfl (os_buildSlice (cs := [(.slice ao6 r1.strokes.length cap6), (.int .i64 r1.wait)]) (E := 45) (sz := 2) rfl rfl (fun _ => by kernel_rfl) rfl (by decide) (fun b6 => ?_))
   obtain ⟨l3, e7, hm⟩ := bind_some hm
   refine ws rfl (os_app (i := 2) (j := 0) (En := encStep) (xs := xs2) (ys := [(.slice ao6 r1.strokes.length cap6), (.int .i64 r1.wait)]) underlying22 (by kernel_rfl : (prog.info? 45).map (fun i => (i.zero, i.size, i.bytes)) = some (some (.agg #[(.slice none 0 0), (.int .i64 0)]), (encStep).size, 32)) rfl (by decide) rfl rfl rfl rfl rfl rfl rl4 rl5 e7 (fun ao7 cap7 rl6 => ?_))
   refine Vm rfl (Vm rfl ?_)
   have rl7 : RL H2 (encInt .i64) ([i3] : List Int) [(.int .i64 i3)] := RL.cons (cs := [(.int .i64 i3)]) (xs := []) rfl (RL.nil _ _)
   refine ws rfl (os_buildSlice (cs := [(.int .i64 i3)]) (E := 3) (sz := 1) rfl rfl (fun _ => by kernel_rfl) rfl (by decide) (fun b7 => ?_))
   obtain ⟨l4, e8, hm⟩ := bind_some hm
   refine ws rfl (os_app (i := 4) (j := 0) (En := (encInt .i64)) (xs := xs1) (ys := [(.int .i64 i3)]) underlying39 (by kernel_rfl : (prog.info? 3).map (fun i => (i.zero, i.size, i.bytes)) = some (some (.int .i64 0), ((encInt .i64)).size, 8)) rfl (by decide) rfl rfl rfl rfl rfl rfl rl3 rl7 e8 (fun ao8 cap8 rl8 => ?_))
   refine V rfl (ov_fieldAddr underlying24 rfl rfl rfl sizeOf22 rfl rfl) ?_
   refine ws0 rfl (os_store (i := 5) (vs := [(.slice ao7 (l2 ++ ([r1] : List Step)).length cap7)]) (cs' := [(.int .i64 (p_lines.length : Int)), (.slice ao7 (l2 ++ ([r1] : List Step)).length cap7)]) sizeOf22 rfl rfl rfl rfl rfl rfl rfl rfl rfl ?_)
   refine Va rfl (WL.nil (tn (WP.region (Vm rfl (Vm rfl (V rfl (ov_add rfl rfl rfl) (V rfl (ov_add rfl rfl rfl) (Va rfl (WL.nil (bn (tn ?_)))))))))))
   exact ⟨H2, (IntKind.wrap .i64 (i1 + (IntKind.wrap .i64 (i3 + 1)))), (l1 ++ ([i3] : List Int)), ao8, cap8, (xs1 ++ [(.int .i64 i3)]), (l2 ++ ([r1] : List Step)), ao7, cap7, (xs2 ++ [(.slice ao6 r1.strokes.length cap6), (.int .i64 r1.wait)]), (hle1.trans hle2), rl8, rl6, (Sub.all rfl), fun w' s => (s.sl [3, 4, 5, 6]), hm⟩
  replace hm := ite_f hc4 hm
  refine WP.exit (then_exit (then_exit (block_here (tn ?_))))
  exact ⟨H1, l1, ao4, cap4, xs1, l2, ao5, cap5, xs2, hle1, rl3, rl4, (Sub.all rfl), fun w' s => s, hm⟩
 rintro g' S' ⟨H3, l5, ao9, cap9, xs3, l6, ao10, cap10, xs4, hle3, rl9, rl10, hsub4, hS4, hm⟩
 refine WP.sub hsub4 (WP.weaken hS4 ?_)
 replace hm := (congrFun (congrFun hk1 l5) l6).symm.trans hm
 refine WP.seq (WP.region (V rfl (ov_load_whole (i := 2) isAgg24 sizeOf24 rfl rfl rfl rfl) (Vm rfl ?_)))
 refine ws0 rfl (os_store (i := 3) (vs := [(.int .i64 (p_lines.length : Int)), (.slice ao10 l6.length cap10)]) (cs' := [(.int .i64 (p_lines.length : Int)), (.slice ao10 l6.length cap10)]) sizeOf24 rfl rfl rfl rfl rfl rfl rfl rfl rfl ?_)
 refine Va rfl (WL.nil (tn (WP.ret ?_)))
 obtain rfl := Option.some.inj hm
 refine retQ_ret results73 (Res.cell rfl (box_loads (i := 3) isAgg24 sizeOf24 rfl rfl) (Res.tmp rfl Res.nil)) rfl (fun w' s => ⟨s.below, ?_⟩)
 obtain ⟨h17, hc11⟩ := s.ret_row (i := 0) rfl rl10
 obtain ⟨h18, hc12⟩ := s.ret_row (i := 1) rfl rl9
 exact ⟨ao10, cap10, ao9, cap9, rfl, h17, hc11, h18, hc12⟩
theorem ref16_Unscale_con (p_lines : (List (List UInt8))) (ao1 : Option Addr) (cap1 : Nat) (w : World) (H : Heap) (hH : Le H (hp w)) (h1 : SL H encStr ao1 p_lines) (hc1 : p_lines.length ≤ cap1) (hG : Glob H) (r : (Sequence × (List Int) × Int)) (hm : ref16_Unscale p_lines = some r) :
  Con prog 33 [(.slice ao1 p_lines.length cap1)] w H (fun v H' => ∃ (ao2 : Option Addr) (cap2 : Nat) (ao3 : Option Addr) (cap3 : Nat), v = (.tuple #[(.agg #[(.int .i64 r.1.actuators), (.slice ao2 r.1.steps.length cap2)]), (.slice ao3 r.2.1.length cap3), (.int .i64 r.2.2)]) ∧ SL H' encStep ao2 r.1.steps ∧ r.1.steps.length ≤ cap2 ∧ SL H' (encInt .i64) ao3 r.2.1 ∧ r.2.1.length ≤ cap3) := by
 unfold ref16_Unscale at hm
 refine con_of hH func33 rfl 33 ntmps33 rfl ?_
 refine WP.seq (WP.region ?_)
 refine ws rfl (os_alloc (cs := [(.int .i64 0), (.slice none 0 0)]) zeroValue24 rfl rfl (fun b1 => ?_))
 refine Va rfl (Va rfl (WL.nil (tn (WP.seq (WP.seq (WP.region (Vm rfl ?_)))))))
 obtain ⟨r1, e1, hm⟩ := bind_some hm
 refine wo rfl (oq_con (r := (.int .i64 r1)) call70 rfl rfl (fun w' s => ⟨_, (ref16_limited_con p_lines 6 ao1 cap1  w' H s.hold h1 hc1 hG r1 e1)⟩)) ?_
 refine Va rfl (WL.nil (tn (WP.seq (WP.region (Vm rfl (V rfl (ov_neq rfl rfl rfl) (WL.nil (tn ?_))))))))
 refine WP.cond rfl (fun hc4 => ?_) (fun hc4 => ?_)
 ·
  replace hm := ite_t hc4 hm
  refine WP.seq (WP.region (V rfl (ov_build (r := (.agg #[(.int .i64 0), (.slice none 0 0)])) rfl rfl (fun _ => by kernel_rfl)) (Vm rfl ?_)))
  refine ws0 rfl (os_store (i := 0) (vs := [(.int .i64 0), (.slice none 0 0)]) (cs' := [(.int .i64 0), (.slice none 0 0)]) sizeOf24 rfl rfl rfl rfl rfl rfl rfl rfl rfl ?_)
  refine Va rfl (Va rfl (WL.nil (tn (WP.ret (then_ret ?_)))))
  obtain rfl := Option.some.inj hm
  refine retQ_ret results33 (Res.cell rfl (box_loads (i := 0) isAgg24 sizeOf24 rfl rfl) (Res.tmp rfl (Res.tmp rfl Res.nil))) rfl (fun w' s => ⟨s.below, ?_⟩)
  exact ⟨none, 0, none, 0, rfl, SL.nil _ _ _, Nat.le_refl _, SL.nil _ _ _, Nat.le_refl _⟩
 replace hm := ite_f hc4 hm
 refine WP.skip (tn (WP.seq (WP.region (Vm rfl ?_))))
 obtain ⟨r2, e2, hm⟩ := bind_some hm
 refine ws rfl (os_con call73 rfl rfl (fun w' s => (ref16_Unguess_con p_lines ao1 cap1  w' H s.hold h1 hc1 hG r2 e2)) (fun rr1 H1 hle1 hR1 => ?_))
 replace h1 := h1.mono hle1
 replace hG := hG.mono hle1
 obtain ⟨ao4, cap4, ao5, cap5, rfl, h4, hc5, h5, hc6⟩ := hR1
 refine Vm rfl (Ve rfl (Ve rfl ?_))
 refine ws rfl (os_alloc (cs := [(.int .i64 0), (.slice none 0 0)]) zeroValue24 rfl rfl (fun b2 => ?_))
 refine ws0 rfl (os_store (i := 0) (vs := [(.int .i64 r2.1.actuators), (.slice ao4 r2.1.steps.length cap4)]) (cs' := [(.int .i64 r2.1.actuators), (.slice ao4 r2.1.steps.length cap4)]) sizeOf24 rfl rfl rfl rfl rfl rfl rfl rfl rfl ?_)
 refine Va rfl (WL.nil (tn (WP.seq (WP.seq (WP.region (V rfl (ov_load_whole (i := 0) isAgg24 sizeOf24 rfl rfl rfl rfl) ?_))))))
 obtain ⟨r3, e3, hm⟩ := bind_some hm
 refine wo rfl (oq_con (r := (.int .i64 r3)) call38 rfl rfl (fun w' s => ⟨_, (ref14_Check_con r2.1 ao4 cap4  w' H1 s.hold h4 hc5 hG r3 e3)⟩)) ?_
 refine V rfl (ov_neq rfl rfl rfl) (Vm rfl ?_)
 obtain ⟨c1, e4, hm⟩ := bind_some hm
 refine WL.cut_bool 7 29 (x := c1) ?_ ?_
 ·
  rcases Bool.eq_false_or_eq_true (r3 != 0) with hc7 | hc7
  ·
   replace hm := ite_t hc7 e4
   refine Vi rfl (Idle.no rfl rfl rfl hc7) (Vi rfl (Idle.no rfl rfl rfl hc7) (Vi rfl (Idle.no rfl rfl rfl hc7) (Vi rfl (Idle.no rfl rfl rfl hc7) (Vi rfl (Idle.no rfl rfl rfl hc7) (Vi rfl (Idle.no rfl rfl rfl hc7) (V rfl (ov_pick_true rfl (guard_eq rfl hc7) rfl) ?_))))))
   exact WL.nil ⟨Sub.cons' rfl (congrArg Value.bool (Option.some.inj hm)) (Sub.dropn 7 rfl), fun _ s => s⟩
  replace hm := ite_f hc7 e4
  refine wy hc7 rfl (ov_load_whole (i := 0) isAgg24 sizeOf24 rfl rfl rfl rfl) ?_
  refine wy hc7 rfl (ov_move rfl rfl) ?_
  obtain ⟨r4, e5, hm⟩ := bind_some hm
  refine WL.step (Runs.yes rfl rfl rfl hc7) rfl rfl (os_con call54 rfl rfl (fun w' s => (ref16_drawn_con r2.1 r2.2 [] ao4 cap4 ao5 cap5 none 0  w' H1 s.hold h4 hc5 h5 hc6 (SL.nil _ _ _) (Nat.le_refl _) hG r4 e5)) (fun rr2 H2 hle2 hR2 => ?_))
  replace h1 := h1.mono hle2
  replace h4 := h4.mono hle2
  replace h5 := h5.mono hle2
  replace hG := hG.mono hle2
  obtain ⟨ao6, cap6, rfl, h6, hc8⟩ := hR2
  refine wy hc7 rfl (ov_move rfl rfl) ?_
  obtain ⟨r5, e6, hm⟩ := bind_some hm
  refine WL.quiet (Runs.yes rfl rfl rfl hc7) rfl rfl (oq_con (r := (.bool r5)) call72 rfl rfl (fun w' s => ⟨_, (ref12_SameTexts_con r4 p_lines ao6 cap6 ao1 cap1  w' H2 s.hold h6 hc8 h1 hc1 hG r5 e6)⟩)) ?_
  refine wy hc7 rfl (ov_not rfl rfl) ?_
  refine V rfl (ov_pick_false rfl (guard_eq rfl hc7) rfl) ?_
  exact WL.nil ⟨Sub.cons' rfl (congrArg Value.bool (Option.some.inj hm)) (Sub.dropn 7 rfl), fun _ s => (s.heap hle2)⟩
 refine WL.nil (tn ?_)
 refine WP.cond rfl (fun hc9 => ?_) (fun hc9 => ?_)
 ·
  replace hm := ite_t hc9 hm
  refine WP.seq (WP.region (V rfl (ov_build (r := (.agg #[(.int .i64 0), (.slice none 0 0)])) rfl rfl (fun _ => by kernel_rfl)) ?_))
  refine ws0 rfl (os_store (i := 1) (vs := [(.int .i64 0), (.slice none 0 0)]) (cs' := [(.int .i64 0), (.slice none 0 0)]) sizeOf24 rfl rfl rfl rfl rfl rfl rfl rfl rfl ?_)
  refine Va rfl (Va rfl (WL.nil (tn (WP.ret (then_ret ?_)))))
  obtain rfl := Option.some.inj hm
  refine retQ_ret results33 (Res.cell rfl (box_loads (i := 1) isAgg24 sizeOf24 rfl rfl) (Res.tmp rfl (Res.tmp rfl Res.nil))) rfl (fun w' s => ⟨s.below, ?_⟩)
  exact ⟨none, 0, none, 0, rfl, SL.nil _ _ _, Nat.le_refl _, SL.nil _ _ _, Nat.le_refl _⟩
 replace hm := ite_f hc9 hm
 refine WP.skip (tn (WP.seq (WP.region (V rfl (ov_load_whole (i := 0) isAgg24 sizeOf24 rfl rfl rfl rfl) (Vm rfl ?_)))))
 refine ws0 rfl (os_store (i := 1) (vs := [(.int .i64 r2.1.actuators), (.slice ao4 r2.1.steps.length cap4)]) (cs' := [(.int .i64 r2.1.actuators), (.slice ao4 r2.1.steps.length cap4)]) sizeOf24 rfl rfl rfl rfl rfl rfl rfl rfl rfl ?_)
 refine Va rfl (Va rfl (WL.nil (tn (WP.ret ?_))))
 obtain rfl := Option.some.inj hm
 refine retQ_ret results33 (Res.cell rfl (box_loads (i := 1) isAgg24 sizeOf24 rfl rfl) (Res.tmp rfl (Res.tmp rfl Res.nil))) rfl (fun w' s => ⟨s.below, ?_⟩)
 exact ⟨ao4, cap4, ao5, cap5, rfl, h4.mono s.le_newer, hc5, h5.mono s.le_newer, hc6⟩
end Go.Proofs.YtbckcjjffbgidaaGreatDoor.W
