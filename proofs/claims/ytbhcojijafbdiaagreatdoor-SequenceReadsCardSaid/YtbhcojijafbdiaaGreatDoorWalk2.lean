/- The walks. Written by our own program gen.py; Lean checks it. -/
import Derived.Test.YtbhcojijafbdiaaGreatDoorPlain
import Derived.Test.YtbhcojijafbdiaaGreatDoorEqs
import Derived.Test.YtbhcojijafbdiaaGreatDoorProg
import Derived.Test.YtbhcojijafbdiaaGreatDoorExt
import Derived.Test.YtbhcojijafbdiaaGreatDoorClone
import Derived.Test.YtbhcojijafbdiaaGreatDoorCloneS
set_option linter.unusedVariables false
set_option maxRecDepth 100000
set_option maxHeartbeats 4000000
namespace Go.Proofs.YtbhcojijafbdiaaGreatDoor.W
open Go Go.RowKit
theorem ref13_Cut_con (p_s : (List UInt8)) (p_by : (List UInt8)) (w : World) (H : Heap) (hH : Le H (hp w)) (hG : Glob H) (r : (List (List UInt8))) (hm : ref13_Cut p_s p_by = some r) :
  Con Tryz.prog 97 [(mkS p_s), (mkS p_by)] w H (fun v H' => ∃ (ao1 : Option Addr) (cap1 : Nat), v = (.slice ao1 r.length cap1) ∧ SL H' encStr ao1 r ∧ r.length ≤ cap1) := by
 unfold ref13_Cut at hm
 refine con_of hH Tryz.func97 rfl 48 Tryz.ntmps97 rfl ?_
 refine WP.seq (WP.region ?_)
 refine wq rfl rfl rfl (ov_assign rfl rfl) ?_
 refine WL.nil (then_normal (WP.seq (WP.region ?_)))
 refine wq rfl rfl rfl (ov_assign rfl rfl) ?_
 refine WL.nil (then_normal (WP.seq (WP.region ?_)))
 refine wq rfl rfl rfl (ov_assign rfl rfl) ?_
 refine WL.nil (then_normal ?_)
 obtain ⟨k1, hk1, hm⟩ := joinK_some hm
 refine WP.seq_join (fun g' S' => ∃ (i4 : Int) (l4 : (List (List UInt8))) (ao5 : Option Addr) (cap5 : Nat) (xs3 : List Value), RL H encStr l4 xs3 ∧ Sub [(0, (mkS p_s)), (5, (.slice ao5 l4.length cap5)), (6, (.int .i64 i4)), (1000000007, (.bool false))] g' ∧ (∀ w', S' w' → St w H [.row 9 (encStr).size l4.length (.slice ao5 l4.length cap5) xs3] H w') ∧ k1 i4 l4 = some r) ?_ ?_
 ·
  skip
  refine WP.seq (WP.region ?_)
  refine wq rfl rfl rfl (ov_assign rfl rfl) ?_
  refine WL.nil (then_normal (WP.block ?_))
  have rl1 := RL.nil (α := (List UInt8)) H encStr
  refine WP.weaken (fun _ s => s.nilrow 9 (encStr).size) ?_
  refine WP.loop (fun m1 g' S' => ∃ (i1 : Int) (i2 : Int) (l1 : (List (List UInt8))) (ao2 : Option Addr) (cap2 : Nat) (xs1 : List Value), RL H encStr l1 xs1 ∧ Sub [(0, (mkS p_s)), (1, (mkS p_by)), (5, (.slice ao2 l1.length cap2)), (6, (.int .i64 i1)), (7, (.int .i64 i2)), (1000000007, (.bool false))] g' ∧ (∀ w', S' w' → St w H [.row 9 (encStr).size l1.length (.slice ao2 l1.length cap2) xs1] H w') ∧ ref13_Cut_loop1 p_s p_by k1 m1 i1 i2 l1 = some r) ((p_s.length + 2)) ⟨0, 0, ([] : List (List UInt8)), none, 0, [], rl1, (Sub.cons rfl (Sub.cons rfl (Sub.cons rfl (Sub.cons rfl (Sub.cons rfl (Sub.cons rfl (Sub.nil _))))))), fun w' s => s, hm⟩ ?_ ?_
  ·
   rintro g' S' ⟨_, _, _, _, _, _, _, _, _, hm⟩
   exact none_some hm
  ·
   rintro m1 g' S' ⟨i1, i2, l1, ao2, cap2, xs1, rl2, hsub1, hS1, hm⟩
   refine WP.sub hsub1 (WP.weaken hS1 ?_)
   rw [ref13_Cut_loop1] at hm
   refine WP.seq (WP.seq (WP.region ?_))
   refine wq rfl rfl rfl (ov_move rfl rfl) ?_
   refine wq rfl rfl rfl (ov_move rfl rfl) ?_
   refine wq rfl rfl rfl (ov_len_string Tryz.underlying9 rfl rfl) ?_
   refine wq rfl rfl rfl (ov_add rfl rfl rfl) ?_
   refine wq rfl rfl rfl (ov_move rfl rfl) ?_
   refine wq rfl rfl rfl (ov_len_string Tryz.underlying9 rfl rfl) ?_
   refine wq rfl rfl rfl (ov_leq rfl rfl rfl) ?_
   refine WL.nil (then_normal ?_)
   refine WP.cond rfl (fun hc2 => ?_) (fun hc2 => ?_)
   ·
    replace hm := ite_t hc2 hm
    refine WP.skip (then_normal ?_)
    obtain ⟨k2, hk2, hm⟩ := joinK_some hm
    refine WP.seq_join (fun g' S' => ∃ (i3 : Int) (l3 : (List (List UInt8))) (ao4 : Option Addr) (cap4 : Nat) (xs2 : List Value), RL H encStr l3 xs2 ∧ Sub [(0, (mkS p_s)), (1, (mkS p_by)), (5, (.slice ao4 l3.length cap4)), (6, (.int .i64 i3)), (7, (.int .i64 i2)), (1000000007, (.bool false))] g' ∧ (∀ w', S' w' → St w H [.row 9 (encStr).size l3.length (.slice ao4 l3.length cap4) xs2] H w') ∧ k2 i3 l3 = some r) ?_ ?_
    ·
     skip
     refine WP.block (WP.seq (WP.region ?_))
     refine wq rfl rfl rfl (ov_move rfl rfl) ?_
     refine wq rfl rfl rfl (ov_move rfl rfl) ?_
     refine wq rfl rfl rfl (ov_geq rfl rfl rfl) ?_
     refine wq rfl rfl rfl (ov_move rfl rfl) ?_
     obtain ⟨c1, e1, hm⟩ := bind_some hm
     refine WL.cut_bool 10 30 (x := c1) ?_ ?_
     ·
      rcases Bool.eq_false_or_eq_true (decide (i2 ≥ i1)) with hc3 | hc3
      ·
       skip
       replace hm := ite_t hc3 e1
       refine WL.quiet (Runs.yes rfl rfl rfl hc3) rfl rfl (OV.quiet (ov_move rfl rfl)) ?_
       refine WL.quiet (Runs.yes rfl rfl rfl hc3) rfl rfl (OV.quiet (ov_move rfl rfl)) ?_
       refine WL.quiet (Runs.yes rfl rfl rfl hc3) rfl rfl (OV.quiet (ov_move rfl rfl)) ?_
       refine WL.quiet (Runs.yes rfl rfl rfl hc3) rfl rfl (OV.quiet (ov_move rfl rfl)) ?_
       refine WL.quiet (Runs.yes rfl rfl rfl hc3) rfl rfl (OV.quiet (ov_len_string Tryz.underlying9 rfl rfl)) ?_
       refine WL.quiet (Runs.yes rfl rfl rfl hc3) rfl rfl (OV.quiet (ov_add rfl rfl rfl)) ?_
       obtain ⟨s1, e2, hm⟩ := bind_some hm
       refine WL.quiet (Runs.yes rfl rfl rfl hc3) rfl rfl (OV.quiet (ov_slice_string Tryz.underlying9 rfl rfl rfl rfl e2)) ?_
       refine WL.quiet (Runs.yes rfl rfl rfl hc3) rfl rfl (OV.quiet (ov_move rfl rfl)) ?_
       refine WL.quiet (Runs.yes rfl rfl rfl hc3) rfl rfl (OV.quiet (ov_seql rfl rfl rfl)) ?_
       refine wq rfl rfl rfl (ov_pick_true rfl (guard_eq rfl hc3) rfl) ?_
       exact WL.nil ⟨Sub.cons' rfl (congrArg Value.bool (Option.some.inj hm)) (Sub.skip rfl (Sub.skip rfl (Sub.skip rfl (Sub.skip rfl (Sub.skip rfl (Sub.skip rfl (Sub.skip rfl (Sub.skip rfl (Sub.skip rfl (Sub.skip rfl (Sub.refl _))))))))))), fun _ s => s⟩
      ·
       skip
       replace hm := ite_f hc3 e1
       refine WL.idle (Idle.no rfl rfl rfl hc3) rfl rfl ?_
       refine WL.idle (Idle.no rfl rfl rfl hc3) rfl rfl ?_
       refine WL.idle (Idle.no rfl rfl rfl hc3) rfl rfl ?_
       refine WL.idle (Idle.no rfl rfl rfl hc3) rfl rfl ?_
       refine WL.idle (Idle.no rfl rfl rfl hc3) rfl rfl ?_
       refine WL.idle (Idle.no rfl rfl rfl hc3) rfl rfl ?_
       refine WL.idle (Idle.no rfl rfl rfl hc3) rfl rfl ?_
       refine WL.idle (Idle.no rfl rfl rfl hc3) rfl rfl ?_
       refine WL.idle (Idle.no rfl rfl rfl hc3) rfl rfl ?_
       refine wq rfl rfl rfl (ov_pick_false rfl (guard_eq rfl hc3) rfl) ?_
       exact WL.nil ⟨Sub.cons' rfl (congrArg Value.bool (Option.some.inj hm)) (Sub.skip rfl (Sub.skip rfl (Sub.skip rfl (Sub.skip rfl (Sub.skip rfl (Sub.skip rfl (Sub.skip rfl (Sub.skip rfl (Sub.skip rfl (Sub.skip rfl (Sub.refl _))))))))))), fun _ s => s⟩
     refine WL.nil (then_normal ?_)
     refine WP.cond rfl (fun hc4 => ?_) (fun hc4 => ?_)
     ·
      replace hm := ite_t hc4 hm
      refine WP.seq (WP.region ?_)
      refine wq rfl rfl rfl (ov_move rfl rfl) ?_
      refine wq rfl rfl rfl (ov_move rfl rfl) ?_
      refine wq rfl rfl rfl (ov_move rfl rfl) ?_
      refine wq rfl rfl rfl (ov_move rfl rfl) ?_
      obtain ⟨s2, e3, hm⟩ := bind_some hm
      refine wq rfl rfl rfl (ov_slice_string Tryz.underlying9 rfl rfl rfl rfl e3) ?_
      have rl3 : RL H encStr ([s2] : List (List UInt8)) [(mkS s2)] := RL.cons (cs := [(mkS s2)]) (xs := []) rfl (RL.nil _ _)
      refine WL.step (Runs.free rfl) rfl rfl (os_buildSlice (cs := [(mkS s2)]) (E := 9) (sz := 1) rfl rfl (fun _ => by kernel_rfl) rfl (by decide) (fun b1 => ?_))
      obtain ⟨l2, e4, hm⟩ := bind_some hm
      refine WL.step (Runs.free rfl) rfl rfl (os_app (i := 1) (j := 0) (En := encStr) (xs := xs1) (ys := [(mkS s2)]) Tryz.underlying127 (by kernel_rfl : (Tryz.prog.info? 9).map (fun i => (i.zero, i.size, i.bytes)) = some (some (mkS []), (encStr).size, 16)) rfl (by decide) rfl rfl rfl rfl rfl rfl rl2 rl3 e4 (fun ao3 cap3 rl4 => ?_))
      refine wq rfl rfl rfl (ov_assign rfl rfl) ?_
      refine WL.nil (then_normal (WP.region ?_))
      refine wq rfl rfl rfl (ov_move rfl rfl) ?_
      refine wq rfl rfl rfl (ov_move rfl rfl) ?_
      refine wq rfl rfl rfl (ov_len_string Tryz.underlying9 rfl rfl) ?_
      refine wq rfl rfl rfl (ov_add rfl rfl rfl) ?_
      refine wq rfl rfl rfl (ov_assign rfl rfl) ?_
      refine WL.nil (block_normal (then_normal ?_))
      exact ⟨(IntKind.wrap .i64 (i2 + (p_by.length : Int))), (l1 ++ ([s2] : List (List UInt8))), ao3, cap3, (xs1 ++ [(mkS s2)]), rl4, (Sub.cons rfl (Sub.cons rfl (Sub.cons rfl (Sub.cons rfl (Sub.cons rfl (Sub.cons rfl (Sub.nil _))))))), fun w' s => (s.select [1] (by decide) rfl), hm⟩
     ·
      replace hm := ite_f hc4 hm
      refine WP.skip (block_normal (then_normal ?_))
      exact ⟨i1, l1, ao2, cap2, xs1, rl2, (Sub.cons rfl (Sub.cons rfl (Sub.cons rfl (Sub.cons rfl (Sub.cons rfl (Sub.cons rfl (Sub.nil _))))))), fun w' s => s, hm⟩
    ·
     rintro g' S' ⟨i3, l3, ao4, cap4, xs2, rl5, hsub2, hS2, hm⟩
     refine WP.sub hsub2 (WP.weaken hS2 ?_)
     replace hm := (congrFun (congrFun hk2 i3) l3).symm.trans hm
     refine WP.region ?_
     refine wq rfl rfl rfl (ov_move rfl rfl) ?_
     refine wq rfl rfl rfl (ov_add rfl rfl rfl) ?_
     refine wq rfl rfl rfl (ov_assign rfl rfl) ?_
     refine WL.nil (then_normal ?_)
     exact ⟨i3, (IntKind.wrap .i64 (i2 + 1)), l3, ao4, cap4, xs2, rl5, (Sub.cons rfl (Sub.cons rfl (Sub.cons rfl (Sub.cons rfl (Sub.cons rfl (Sub.cons rfl (Sub.nil _))))))), fun w' s => s, hm⟩
   ·
    replace hm := ite_f hc2 hm
    refine WP.exit (then_exit (then_exit (block_here (then_normal ?_))))
    exact ⟨i1, l1, ao2, cap2, xs1, rl2, (Sub.cons rfl (Sub.cons rfl (Sub.cons rfl (Sub.cons rfl (Sub.nil _))))), fun w' s => s, hm⟩
 ·
  rintro g' S' ⟨i4, l4, ao5, cap5, xs3, rl6, hsub3, hS3, hm⟩
  refine WP.sub hsub3 (WP.weaken hS3 ?_)
  replace hm := (congrFun (congrFun hk1 i4) l4).symm.trans hm
  refine WP.seq (WP.region ?_)
  refine wq rfl rfl rfl (ov_move rfl rfl) ?_
  refine wq rfl rfl rfl (ov_move rfl rfl) ?_
  refine wq rfl rfl rfl (ov_move rfl rfl) ?_
  obtain ⟨s3, e5, hm⟩ := bind_some hm
  refine wq rfl rfl rfl (ov_slice_string_from Tryz.underlying9 rfl rfl rfl e5) ?_
  have rl7 : RL H encStr ([s3] : List (List UInt8)) [(mkS s3)] := RL.cons (cs := [(mkS s3)]) (xs := []) rfl (RL.nil _ _)
  refine WL.step (Runs.free rfl) rfl rfl (os_buildSlice (cs := [(mkS s3)]) (E := 9) (sz := 1) rfl rfl (fun _ => by kernel_rfl) rfl (by decide) (fun b2 => ?_))
  obtain ⟨l5, e6, hm⟩ := bind_some hm
  refine WL.step (Runs.free rfl) rfl rfl (os_app (i := 1) (j := 0) (En := encStr) (xs := xs3) (ys := [(mkS s3)]) Tryz.underlying127 (by kernel_rfl : (Tryz.prog.info? 9).map (fun i => (i.zero, i.size, i.bytes)) = some (some (mkS []), (encStr).size, 16)) rfl (by decide) rfl rfl rfl rfl rfl rfl rl6 rl7 e6 (fun ao6 cap6 rl8 => ?_))
  refine wq rfl rfl rfl (ov_assign rfl rfl) ?_
  refine WL.nil (then_normal (WP.ret ?_))
  obtain rfl := Option.some.inj hm
  refine retQ_ret Tryz.results97 (Res.tmp rfl Res.nil) rfl (fun w' s => ⟨s.below, ?_⟩)
  obtain ⟨h2, hc5⟩ := s.ret_row (i := 1) rfl rl8
  exact ⟨ao6, cap6, rfl, h2, hc5⟩

theorem ref13_Actuator_con (p_n : Int) (w : World) (H : Heap) (hH : Le H (hp w)) (hG : Glob H) (r : Bool) (hm : ref13_Actuator p_n = some r) :
  Con Tryz.prog 99 [(.int .i64 p_n)] w H (fun v _ => v = (.bool r)) := by
 unfold ref13_Actuator at hm
 refine con_of hH Tryz.func99 rfl 9 Tryz.ntmps99 rfl ?_
 refine WP.seq (WP.region ?_)
 refine wq rfl rfl rfl (ov_assign rfl rfl) ?_
 refine WL.nil (then_normal (WP.seq (WP.region ?_)))
 refine wq rfl rfl rfl (ov_move rfl rfl) ?_
 refine wq rfl rfl rfl (ov_geq rfl rfl rfl) ?_
 refine wq rfl rfl rfl (ov_move rfl rfl) ?_
 refine WL.cut_bool 3 8 (x := ((decide (p_n ≥ 0)) && (decide (p_n < 6)))) ?_ ?_
 ·
  rcases Bool.eq_false_or_eq_true (decide (p_n ≥ 0)) with hc1 | hc1
  ·
   skip
   refine WL.quiet (Runs.yes rfl rfl rfl hc1) rfl rfl (OV.quiet (ov_move rfl rfl)) ?_
   refine WL.quiet (Runs.yes rfl rfl rfl hc1) rfl rfl (OV.quiet (ov_lss rfl rfl rfl)) ?_
   refine wq rfl rfl rfl (ov_pick_true rfl (guard_eq rfl hc1) rfl) ?_
   exact WL.nil ⟨Sub.cons' rfl (congrArg Value.bool (andT hc1)) (Sub.skip rfl (Sub.skip rfl (Sub.skip rfl (Sub.refl _)))), fun _ s => s⟩
  ·
   skip
   refine WL.idle (Idle.no rfl rfl rfl hc1) rfl rfl ?_
   refine WL.idle (Idle.no rfl rfl rfl hc1) rfl rfl ?_
   refine wq rfl rfl rfl (ov_pick_false rfl (guard_eq rfl hc1) rfl) ?_
   exact WL.nil ⟨Sub.cons' rfl (congrArg Value.bool (andF hc1)) (Sub.skip rfl (Sub.skip rfl (Sub.skip rfl (Sub.refl _)))), fun _ s => s⟩
 refine wq rfl rfl rfl (ov_assign rfl rfl) ?_
 refine WL.nil (then_normal (WP.ret ?_))
 obtain rfl := Option.some.inj hm
 refine retQ_ret Tryz.results99 (Res.tmp rfl Res.nil) rfl (fun w' s => ⟨s.below, ?_⟩)
 exact rfl

theorem ref03_Time_con (p_n : Int) (w : World) (H : Heap) (hH : Le H (hp w)) (hG : Glob H) (r : Bool) (hm : ref03_Time p_n = some r) :
  Con Tryz.prog 100 [(.int .i64 p_n)] w H (fun v _ => v = (.bool r)) := by
 unfold ref03_Time at hm
 refine con_of hH Tryz.func100 rfl 9 Tryz.ntmps100 rfl ?_
 refine WP.seq (WP.region ?_)
 refine wq rfl rfl rfl (ov_assign rfl rfl) ?_
 refine WL.nil (then_normal (WP.seq (WP.region ?_)))
 refine wq rfl rfl rfl (ov_move rfl rfl) ?_
 refine wq rfl rfl rfl (ov_geq rfl rfl rfl) ?_
 refine wq rfl rfl rfl (ov_move rfl rfl) ?_
 refine WL.cut_bool 3 8 (x := ((decide (p_n ≥ 0)) && (decide (p_n ≤ 1000000)))) ?_ ?_
 ·
  rcases Bool.eq_false_or_eq_true (decide (p_n ≥ 0)) with hc1 | hc1
  ·
   skip
   refine WL.quiet (Runs.yes rfl rfl rfl hc1) rfl rfl (OV.quiet (ov_move rfl rfl)) ?_
   refine WL.quiet (Runs.yes rfl rfl rfl hc1) rfl rfl (OV.quiet (ov_leq rfl rfl rfl)) ?_
   refine wq rfl rfl rfl (ov_pick_true rfl (guard_eq rfl hc1) rfl) ?_
   exact WL.nil ⟨Sub.cons' rfl (congrArg Value.bool (andT hc1)) (Sub.skip rfl (Sub.skip rfl (Sub.skip rfl (Sub.refl _)))), fun _ s => s⟩
  ·
   skip
   refine WL.idle (Idle.no rfl rfl rfl hc1) rfl rfl ?_
   refine WL.idle (Idle.no rfl rfl rfl hc1) rfl rfl ?_
   refine wq rfl rfl rfl (ov_pick_false rfl (guard_eq rfl hc1) rfl) ?_
   exact WL.nil ⟨Sub.cons' rfl (congrArg Value.bool (andF hc1)) (Sub.skip rfl (Sub.skip rfl (Sub.skip rfl (Sub.refl _)))), fun _ s => s⟩
 refine wq rfl rfl rfl (ov_assign rfl rfl) ?_
 refine WL.nil (then_normal (WP.ret ?_))
 obtain rfl := Option.some.inj hm
 refine retQ_ret Tryz.results100 (Res.tmp rfl Res.nil) rfl (fun w' s => ⟨s.below, ?_⟩)
 exact rfl

theorem ref13_CheckStep_con (p_x : Step) (ao1 : Option Addr) (cap1 : Nat) (w : World) (H : Heap) (hH : Le H (hp w)) (h1 : SL H encStroke ao1 p_x.strokes) (hc1 : p_x.strokes.length ≤ cap1) (hG : Glob H) (r : Int) (hm : ref13_CheckStep p_x = some r) :
  Con Tryz.prog 85 [(.agg #[(.slice ao1 p_x.strokes.length cap1), (.int .i64 p_x.wait)])] w H (fun v _ => v = (.int .i64 r)) := by
 unfold ref13_CheckStep at hm
 refine con_of hH Tryz.func85 rfl 67 Tryz.ntmps85 rfl ?_
 refine WP.seq (WP.region ?_)
 refine WL.step (Runs.free rfl) rfl rfl (os_box (cs := [(.slice ao1 p_x.strokes.length cap1), (.int .i64 p_x.wait)]) rfl rfl rfl (fun b1 => ?_))
 refine wq rfl rfl rfl (ov_assign rfl rfl) ?_
 refine WL.nil (then_normal (WP.seq (WP.seq (WP.region ?_))))
 refine wq rfl rfl rfl (ov_fieldAddr Tryz.underlying37 rfl rfl rfl Tryz.sizeOf25 rfl rfl) ?_
 refine wq rfl rfl rfl (ov_load_box (i := 0) Tryz.isAgg25 rfl rfl rfl rfl) ?_
 refine wq rfl rfl rfl (ov_len_slice Tryz.underlying25 rfl rfl) ?_
 refine wq rfl rfl rfl (ov_eql rfl rfl rfl) ?_
 refine WL.nil (then_normal ?_)
 refine WP.cond rfl (fun hc2 => ?_) (fun hc2 => ?_)
 ·
  replace hm := ite_t hc2 hm
  refine WP.seq (WP.region ?_)
  refine wq rfl rfl rfl (ov_assign rfl rfl) ?_
  refine WL.nil (then_normal (WP.ret (then_ret ?_)))
  obtain rfl := Option.some.inj hm
  refine retQ_ret Tryz.results85 (Res.tmp rfl Res.nil) rfl (fun w' s => ⟨s.below, ?_⟩)
  exact rfl
 ·
  replace hm := ite_f hc2 hm
  refine WP.skip (then_normal (WP.seq (WP.seq (WP.region ?_))))
  refine wq rfl rfl rfl (ov_fieldAddr Tryz.underlying37 rfl rfl rfl Tryz.sizeOf25 rfl rfl) ?_
  refine wq rfl rfl rfl (ov_load_box (i := 0) Tryz.isAgg25 rfl rfl rfl rfl) ?_
  refine wq rfl rfl rfl (ov_len_slice Tryz.underlying25 rfl rfl) ?_
  refine wq rfl rfl rfl (ov_gtr rfl rfl rfl) ?_
  refine WL.nil (then_normal ?_)
  refine WP.cond rfl (fun hc3 => ?_) (fun hc3 => ?_)
  ·
   replace hm := ite_t hc3 hm
   refine WP.seq (WP.region ?_)
   refine wq rfl rfl rfl (ov_assign rfl rfl) ?_
   refine WL.nil (then_normal (WP.ret (then_ret ?_)))
   obtain rfl := Option.some.inj hm
   refine retQ_ret Tryz.results85 (Res.tmp rfl Res.nil) rfl (fun w' s => ⟨s.below, ?_⟩)
   exact rfl
  ·
   replace hm := ite_f hc3 hm
   refine WP.skip (then_normal ?_)
   obtain ⟨k1, hk1, hm⟩ := joinK_some hm
   refine WP.seq_join (fun g' S' => Sub [(1, (pB b1 0)), (1000000007, (.bool false))] g' ∧ (∀ w', S' w' → St w H [.blk b1 37 [(.slice ao1 p_x.strokes.length cap1), (.int .i64 p_x.wait)]] H w') ∧ k1 = some r) ?_ ?_
   ·
    skip
    refine WP.seq (WP.region ?_)
    refine wq rfl rfl rfl (ov_assign rfl rfl) ?_
    refine WL.nil (then_normal (WP.block ?_))
    refine WP.loop (fun m1 g' S' => ∃ (i1 : Int), Sub [(1, (pB b1 0)), (3, (.int .i64 i1)), (1000000007, (.bool false))] g' ∧ (∀ w', S' w' → St w H [.blk b1 37 [(.slice ao1 p_x.strokes.length cap1), (.int .i64 p_x.wait)]] H w') ∧ ref13_CheckStep_loop1 p_x k1 m1 i1 = some r) ((Int.toNat ((p_x.strokes.length : Int) - 0) + 1)) ⟨0, (Sub.cons rfl (Sub.cons rfl (Sub.cons rfl (Sub.nil _)))), fun w' s => s, hm⟩ ?_ ?_
    ·
     rintro g' S' ⟨_, _, _, hm⟩
     exact none_some hm
    ·
     rintro m1 g' S' ⟨i1, hsub1, hS1, hm⟩
     refine WP.sub hsub1 (WP.weaken hS1 ?_)
     rw [ref13_CheckStep_loop1] at hm
     refine WP.seq (WP.seq (WP.region ?_))
     refine wq rfl rfl rfl (ov_move rfl rfl) ?_
     refine wq rfl rfl rfl (ov_fieldAddr Tryz.underlying37 rfl rfl rfl Tryz.sizeOf25 rfl rfl) ?_
     refine wq rfl rfl rfl (ov_load_box (i := 0) Tryz.isAgg25 rfl rfl rfl rfl) ?_
     refine wq rfl rfl rfl (ov_len_slice Tryz.underlying25 rfl rfl) ?_
     refine wq rfl rfl rfl (ov_lss rfl rfl rfl) ?_
     refine WL.nil (then_normal ?_)
     refine WP.cond rfl (fun hc4 => ?_) (fun hc4 => ?_)
     ·
      replace hm := ite_t hc4 hm
      refine WP.skip (then_normal (WP.seq (WP.block (WP.seq (WP.seq (WP.region ?_))))))
      refine wq rfl rfl rfl (ov_fieldAddr Tryz.underlying37 rfl rfl rfl Tryz.sizeOf25 rfl rfl) ?_
      refine wq rfl rfl rfl (ov_load_box (i := 0) Tryz.isAgg25 rfl rfl rfl rfl) ?_
      refine wq rfl rfl rfl (ov_move rfl rfl) ?_
      obtain ⟨x1, e1, hm⟩ := bind_some hm
      obtain ⟨h2, h3, h4, cs1, h5, h6⟩ := h1.get e1 (by decide)
      obtain rfl : cs1 = [(.int .i64 x1.actuator), (.bool x1.out)] := h5
      refine wq rfl rfl rfl (ov_indexAddr Tryz.underlying25 Tryz.sizeOf40 rfl rfl rfl h2 h3 h4) ?_
      refine wq rfl rfl rfl (ov_fieldAddrE Tryz.underlying40 rfl rfl rfl Tryz.sizeOf3 rfl rfl) ?_
      refine wq rfl rfl rfl (ov_load_elem (v := (.int .i64 x1.actuator)) Tryz.isAgg3 rfl rfl (h6.one (off := 0) rfl)) ?_
      obtain ⟨r1, e2, hm⟩ := bind_some hm
      refine WL.quiet (Runs.free rfl) rfl rfl (oq_con (r := (.bool r1)) Tryz.call99 rfl rfl (fun w' s => ⟨_, (ref13_Actuator_con x1.actuator  w' H s.hold hG r1 e2)⟩)) ?_
      refine wq rfl rfl rfl (ov_not rfl rfl) ?_
      refine WL.nil (then_normal ?_)
      refine WP.cond rfl (fun hc5 => ?_) (fun hc5 => ?_)
      ·
       replace hm := ite_t hc5 hm
       refine WP.seq (WP.region ?_)
       refine wq rfl rfl rfl (ov_assign rfl rfl) ?_
       refine WL.nil (then_normal (WP.ret (then_ret (block_ret (then_ret (then_ret (block_ret (then_ret ?_))))))))
       obtain rfl := Option.some.inj hm
       refine retQ_ret Tryz.results85 (Res.tmp rfl Res.nil) rfl (fun w' s => ⟨s.below, ?_⟩)
       exact rfl
      ·
       replace hm := ite_f hc5 hm
       refine WP.skip (then_normal (WP.seq (WP.seq ?_)))
       refine WP.region_draws (by kernel_rfl) (by kernel_rfl) (fun _ s => s.drew) ?_
       refine QL.quiet (Runs.free rfl) rfl rfl (OV.quiet (ov_move rfl rfl)) ?_
       refine QL.quiet (Runs.free rfl) rfl rfl (OV.quiet (ov_gtr rfl rfl rfl)) ?_
       refine QL.quiet (Runs.free rfl) rfl rfl (OV.quiet (ov_move rfl rfl)) ?_
       obtain ⟨c1, e3, hm⟩ := bind_some hm
       refine QL.part_bool 15 44 (x := c1) ?_ ?_
       ·
        rcases Bool.eq_false_or_eq_true (decide (i1 > 0)) with hc6 | hc6
        ·
         skip
         replace hm := ite_t hc6 e3
         refine QL.quiet (Runs.yes rfl rfl rfl hc6) rfl rfl (OV.quiet (ov_fieldAddr Tryz.underlying37 rfl rfl rfl Tryz.sizeOf25 rfl rfl)) ?_
         refine QL.quiet (Runs.yes rfl rfl rfl hc6) rfl rfl (OV.quiet (ov_load_box (i := 0) Tryz.isAgg25 rfl rfl rfl rfl)) ?_
         refine QL.quiet (Runs.yes rfl rfl rfl hc6) rfl rfl (OV.quiet (ov_move rfl rfl)) ?_
         obtain ⟨x2, e4, hm⟩ := bind_some hm
         obtain ⟨h7, h8, h9, cs2, h10, h11⟩ := h1.get e4 (by decide)
         obtain rfl : cs2 = [(.int .i64 x2.actuator), (.bool x2.out)] := h10
         refine QL.quiet (Runs.yes rfl rfl rfl hc6) rfl rfl (OV.quiet (ov_indexAddr Tryz.underlying25 Tryz.sizeOf40 rfl rfl rfl h7 h8 h9)) ?_
         refine QL.quiet (Runs.yes rfl rfl rfl hc6) rfl rfl (OV.quiet (ov_fieldAddrE Tryz.underlying40 rfl rfl rfl Tryz.sizeOf3 rfl rfl)) ?_
         refine QL.quiet (Runs.yes rfl rfl rfl hc6) rfl rfl (OV.quiet (ov_load_elem (v := (.int .i64 x2.actuator)) Tryz.isAgg3 rfl rfl (h11.one (off := 0) rfl))) ?_
         refine QL.quiet (Runs.yes rfl rfl rfl hc6) rfl rfl (OV.quiet (ov_fieldAddr Tryz.underlying37 rfl rfl rfl Tryz.sizeOf25 rfl rfl)) ?_
         refine QL.quiet (Runs.yes rfl rfl rfl hc6) rfl rfl (OV.quiet (ov_load_box (i := 0) Tryz.isAgg25 rfl rfl rfl rfl)) ?_
         refine QL.quiet (Runs.yes rfl rfl rfl hc6) rfl rfl (OV.quiet (ov_move rfl rfl)) ?_
         refine QL.quiet (Runs.yes rfl rfl rfl hc6) rfl rfl (OV.quiet (ov_sub rfl rfl rfl)) ?_
         obtain ⟨x3, e5, hm⟩ := bind_some hm
         obtain ⟨h12, h13, h14, cs3, h15, h16⟩ := h1.get e5 (by decide)
         obtain rfl : cs3 = [(.int .i64 x3.actuator), (.bool x3.out)] := h15
         refine QL.quiet (Runs.yes rfl rfl rfl hc6) rfl rfl (OV.quiet (ov_indexAddr Tryz.underlying25 Tryz.sizeOf40 rfl rfl rfl h12 h13 h14)) ?_
         refine QL.quiet (Runs.yes rfl rfl rfl hc6) rfl rfl (OV.quiet (ov_fieldAddrE Tryz.underlying40 rfl rfl rfl Tryz.sizeOf3 rfl rfl)) ?_
         refine QL.quiet (Runs.yes rfl rfl rfl hc6) rfl rfl (OV.quiet (ov_load_elem (v := (.int .i64 x3.actuator)) Tryz.isAgg3 rfl rfl (h16.one (off := 0) rfl))) ?_
         refine QL.quiet (Runs.yes rfl rfl rfl hc6) rfl rfl (OV.quiet (ov_eql rfl rfl rfl)) ?_
         refine QL.quiet (Runs.free rfl) rfl rfl (OV.quiet (ov_pick_true rfl (guard_eq rfl hc6) rfl)) ?_
         exact QL.nil (Sub.cons' rfl (congrArg Value.bool (Option.some.inj hm)) (Sub.skip rfl (Sub.skip rfl (Sub.skip rfl (Sub.skip rfl (Sub.skip rfl (Sub.skip rfl (Sub.skip rfl (Sub.skip rfl (Sub.skip rfl (Sub.skip rfl (Sub.skip rfl (Sub.skip rfl (Sub.skip rfl (Sub.skip rfl (Sub.skip rfl (Sub.refl _)))))))))))))))))
        ·
         skip
         replace hm := ite_f hc6 e3
         refine QL.idle (Idle.no rfl rfl rfl hc6) rfl rfl ?_
         refine QL.idle (Idle.no rfl rfl rfl hc6) rfl rfl ?_
         refine QL.idle (Idle.no rfl rfl rfl hc6) rfl rfl ?_
         refine QL.idle (Idle.no rfl rfl rfl hc6) rfl rfl ?_
         refine QL.idle (Idle.no rfl rfl rfl hc6) rfl rfl ?_
         refine QL.idle (Idle.no rfl rfl rfl hc6) rfl rfl ?_
         refine QL.idle (Idle.no rfl rfl rfl hc6) rfl rfl ?_
         refine QL.idle (Idle.no rfl rfl rfl hc6) rfl rfl ?_
         refine QL.idle (Idle.no rfl rfl rfl hc6) rfl rfl ?_
         refine QL.idle (Idle.no rfl rfl rfl hc6) rfl rfl ?_
         refine QL.idle (Idle.no rfl rfl rfl hc6) rfl rfl ?_
         refine QL.idle (Idle.no rfl rfl rfl hc6) rfl rfl ?_
         refine QL.idle (Idle.no rfl rfl rfl hc6) rfl rfl ?_
         refine QL.idle (Idle.no rfl rfl rfl hc6) rfl rfl ?_
         refine QL.quiet (Runs.free rfl) rfl rfl (OV.quiet (ov_pick_false rfl (guard_eq rfl hc6) rfl)) ?_
         exact QL.nil (Sub.cons' rfl (congrArg Value.bool (Option.some.inj hm)) (Sub.skip rfl (Sub.skip rfl (Sub.skip rfl (Sub.skip rfl (Sub.skip rfl (Sub.skip rfl (Sub.skip rfl (Sub.skip rfl (Sub.skip rfl (Sub.skip rfl (Sub.skip rfl (Sub.skip rfl (Sub.skip rfl (Sub.skip rfl (Sub.skip rfl (Sub.refl _)))))))))))))))))
       refine QL.nil ?_
       refine then_normal ?_
       refine WP.cond rfl (fun hc7 => ?_) (fun hc7 => ?_)
       ·
        replace hm := ite_t hc7 hm
        refine WP.seq (WP.region ?_)
        refine wq rfl rfl rfl (ov_assign rfl rfl) ?_
        refine WL.nil (then_normal (WP.ret (then_ret (block_ret (then_ret (then_ret (block_ret (then_ret ?_))))))))
        obtain rfl := Option.some.inj hm
        refine retQ_ret Tryz.results85 (Res.tmp rfl Res.nil) rfl (fun w' s => ⟨s.below, ?_⟩)
        exact rfl
       ·
        replace hm := ite_f hc7 hm
        refine WP.skip (then_normal (WP.seq ?_))
        refine WP.region_draws (by kernel_rfl) (by kernel_rfl) (fun _ s => s.drew) ?_
        refine QL.quiet (Runs.free rfl) rfl rfl (OV.quiet (ov_move rfl rfl)) ?_
        refine QL.quiet (Runs.free rfl) rfl rfl (OV.quiet (ov_gtr rfl rfl rfl)) ?_
        refine QL.quiet (Runs.free rfl) rfl rfl (OV.quiet (ov_move rfl rfl)) ?_
        obtain ⟨c2, e6, hm⟩ := bind_some hm
        refine QL.part_bool 15 62 (x := c2) ?_ ?_
        ·
         rcases Bool.eq_false_or_eq_true (decide (i1 > 0)) with hc8 | hc8
         ·
          skip
          replace hm := ite_t hc8 e6
          refine QL.quiet (Runs.yes rfl rfl rfl hc8) rfl rfl (OV.quiet (ov_fieldAddr Tryz.underlying37 rfl rfl rfl Tryz.sizeOf25 rfl rfl)) ?_
          refine QL.quiet (Runs.yes rfl rfl rfl hc8) rfl rfl (OV.quiet (ov_load_box (i := 0) Tryz.isAgg25 rfl rfl rfl rfl)) ?_
          refine QL.quiet (Runs.yes rfl rfl rfl hc8) rfl rfl (OV.quiet (ov_move rfl rfl)) ?_
          obtain ⟨x4, e7, hm⟩ := bind_some hm
          obtain ⟨h17, h18, h19, cs4, h20, h21⟩ := h1.get e7 (by decide)
          obtain rfl : cs4 = [(.int .i64 x4.actuator), (.bool x4.out)] := h20
          refine QL.quiet (Runs.yes rfl rfl rfl hc8) rfl rfl (OV.quiet (ov_indexAddr Tryz.underlying25 Tryz.sizeOf40 rfl rfl rfl h17 h18 h19)) ?_
          refine QL.quiet (Runs.yes rfl rfl rfl hc8) rfl rfl (OV.quiet (ov_fieldAddrE Tryz.underlying40 rfl rfl rfl Tryz.sizeOf3 rfl rfl)) ?_
          refine QL.quiet (Runs.yes rfl rfl rfl hc8) rfl rfl (OV.quiet (ov_load_elem (v := (.int .i64 x4.actuator)) Tryz.isAgg3 rfl rfl (h21.one (off := 0) rfl))) ?_
          refine QL.quiet (Runs.yes rfl rfl rfl hc8) rfl rfl (OV.quiet (ov_fieldAddr Tryz.underlying37 rfl rfl rfl Tryz.sizeOf25 rfl rfl)) ?_
          refine QL.quiet (Runs.yes rfl rfl rfl hc8) rfl rfl (OV.quiet (ov_load_box (i := 0) Tryz.isAgg25 rfl rfl rfl rfl)) ?_
          refine QL.quiet (Runs.yes rfl rfl rfl hc8) rfl rfl (OV.quiet (ov_move rfl rfl)) ?_
          refine QL.quiet (Runs.yes rfl rfl rfl hc8) rfl rfl (OV.quiet (ov_sub rfl rfl rfl)) ?_
          obtain ⟨x5, e8, hm⟩ := bind_some hm
          obtain ⟨h22, h23, h24, cs5, h25, h26⟩ := h1.get e8 (by decide)
          obtain rfl : cs5 = [(.int .i64 x5.actuator), (.bool x5.out)] := h25
          refine QL.quiet (Runs.yes rfl rfl rfl hc8) rfl rfl (OV.quiet (ov_indexAddr Tryz.underlying25 Tryz.sizeOf40 rfl rfl rfl h22 h23 h24)) ?_
          refine QL.quiet (Runs.yes rfl rfl rfl hc8) rfl rfl (OV.quiet (ov_fieldAddrE Tryz.underlying40 rfl rfl rfl Tryz.sizeOf3 rfl rfl)) ?_
          refine QL.quiet (Runs.yes rfl rfl rfl hc8) rfl rfl (OV.quiet (ov_load_elem (v := (.int .i64 x5.actuator)) Tryz.isAgg3 rfl rfl (h26.one (off := 0) rfl))) ?_
          refine QL.quiet (Runs.yes rfl rfl rfl hc8) rfl rfl (OV.quiet (ov_lss rfl rfl rfl)) ?_
          refine QL.quiet (Runs.free rfl) rfl rfl (OV.quiet (ov_pick_true rfl (guard_eq rfl hc8) rfl)) ?_
          exact QL.nil (Sub.cons' rfl (congrArg Value.bool (Option.some.inj hm)) (Sub.skip rfl (Sub.skip rfl (Sub.skip rfl (Sub.skip rfl (Sub.skip rfl (Sub.skip rfl (Sub.skip rfl (Sub.skip rfl (Sub.skip rfl (Sub.skip rfl (Sub.skip rfl (Sub.skip rfl (Sub.skip rfl (Sub.skip rfl (Sub.skip rfl (Sub.refl _)))))))))))))))))
         ·
          skip
          replace hm := ite_f hc8 e6
          refine QL.idle (Idle.no rfl rfl rfl hc8) rfl rfl ?_
          refine QL.idle (Idle.no rfl rfl rfl hc8) rfl rfl ?_
          refine QL.idle (Idle.no rfl rfl rfl hc8) rfl rfl ?_
          refine QL.idle (Idle.no rfl rfl rfl hc8) rfl rfl ?_
          refine QL.idle (Idle.no rfl rfl rfl hc8) rfl rfl ?_
          refine QL.idle (Idle.no rfl rfl rfl hc8) rfl rfl ?_
          refine QL.idle (Idle.no rfl rfl rfl hc8) rfl rfl ?_
          refine QL.idle (Idle.no rfl rfl rfl hc8) rfl rfl ?_
          refine QL.idle (Idle.no rfl rfl rfl hc8) rfl rfl ?_
          refine QL.idle (Idle.no rfl rfl rfl hc8) rfl rfl ?_
          refine QL.idle (Idle.no rfl rfl rfl hc8) rfl rfl ?_
          refine QL.idle (Idle.no rfl rfl rfl hc8) rfl rfl ?_
          refine QL.idle (Idle.no rfl rfl rfl hc8) rfl rfl ?_
          refine QL.idle (Idle.no rfl rfl rfl hc8) rfl rfl ?_
          refine QL.quiet (Runs.free rfl) rfl rfl (OV.quiet (ov_pick_false rfl (guard_eq rfl hc8) rfl)) ?_
          exact QL.nil (Sub.cons' rfl (congrArg Value.bool (Option.some.inj hm)) (Sub.skip rfl (Sub.skip rfl (Sub.skip rfl (Sub.skip rfl (Sub.skip rfl (Sub.skip rfl (Sub.skip rfl (Sub.skip rfl (Sub.skip rfl (Sub.skip rfl (Sub.skip rfl (Sub.skip rfl (Sub.skip rfl (Sub.skip rfl (Sub.skip rfl (Sub.refl _)))))))))))))))))
        refine QL.nil ?_
        refine then_normal ?_
        refine WP.cond rfl (fun hc9 => ?_) (fun hc9 => ?_)
        ·
         replace hm := ite_t hc9 hm
         refine WP.seq (WP.region ?_)
         refine wq rfl rfl rfl (ov_assign rfl rfl) ?_
         refine WL.nil (then_normal (WP.ret (block_ret (then_ret (then_ret (block_ret (then_ret ?_)))))))
         obtain rfl := Option.some.inj hm
         refine retQ_ret Tryz.results85 (Res.tmp rfl Res.nil) rfl (fun w' s => ⟨s.below, ?_⟩)
         exact rfl
        ·
         replace hm := ite_f hc9 hm
         refine WP.skip (block_normal (then_normal (WP.region ?_)))
         refine wq rfl rfl rfl (ov_move rfl rfl) ?_
         refine wq rfl rfl rfl (ov_add rfl rfl rfl) ?_
         refine wq rfl rfl rfl (ov_assign rfl rfl) ?_
         refine WL.nil (then_normal ?_)
         exact ⟨(IntKind.wrap .i64 (i1 + 1)), (Sub.cons rfl (Sub.cons rfl (Sub.cons rfl (Sub.nil _)))), fun w' s => s, hm⟩
     ·
      replace hm := ite_f hc4 hm
      refine WP.exit (then_exit (then_exit (block_here (then_normal ?_))))
      exact ⟨(Sub.cons rfl (Sub.cons rfl (Sub.nil _))), fun w' s => s, hm⟩
   ·
    rintro g' S' ⟨hsub2, hS2, hm⟩
    refine WP.sub hsub2 (WP.weaken hS2 ?_)
    replace hm := hk1.symm.trans hm
    refine WP.seq (WP.seq (WP.region ?_))
    refine wq rfl rfl rfl (ov_fieldAddr Tryz.underlying37 rfl rfl rfl Tryz.sizeOf3 rfl rfl) ?_
    refine wq rfl rfl rfl (ov_load_box (i := 0) Tryz.isAgg3 rfl rfl rfl rfl) ?_
    obtain ⟨r2, e9, hm⟩ := bind_some hm
    refine WL.quiet (Runs.free rfl) rfl rfl (oq_con (r := (.bool r2)) Tryz.call100 rfl rfl (fun w' s => ⟨_, (ref03_Time_con p_x.wait  w' H s.hold hG r2 e9)⟩)) ?_
    refine wq rfl rfl rfl (ov_not rfl rfl) ?_
    refine WL.nil (then_normal ?_)
    refine WP.cond rfl (fun hc10 => ?_) (fun hc10 => ?_)
    ·
     replace hm := ite_t hc10 hm
     refine WP.seq (WP.region ?_)
     refine wq rfl rfl rfl (ov_assign rfl rfl) ?_
     refine WL.nil (then_normal (WP.ret (then_ret ?_)))
     obtain rfl := Option.some.inj hm
     refine retQ_ret Tryz.results85 (Res.tmp rfl Res.nil) rfl (fun w' s => ⟨s.below, ?_⟩)
     exact rfl
    ·
     replace hm := ite_f hc10 hm
     refine WP.skip (then_normal (WP.seq (WP.region ?_)))
     refine wq rfl rfl rfl (ov_assign rfl rfl) ?_
     refine WL.nil (then_normal (WP.ret ?_))
     obtain rfl := Option.some.inj hm
     refine retQ_ret Tryz.results85 (Res.tmp rfl Res.nil) rfl (fun w' s => ⟨s.below, ?_⟩)
     exact rfl

theorem ref13_Written_con (p_x : Stroke) (w : World) (H : Heap) (hH : Le H (hp w)) (hG : Glob H) (r : (List UInt8)) (hm : ref13_Written p_x = some r) :
  Con Tryz.prog 106 [(.agg #[(.int .i64 p_x.actuator), (.bool p_x.out)])] w H (fun v _ => v = (mkS r)) := by
 unfold ref13_Written at hm
 refine con_of hH Tryz.func106 rfl 16 Tryz.ntmps106 rfl ?_
 refine WP.seq (WP.region ?_)
 refine WL.step (Runs.free rfl) rfl rfl (os_box (cs := [(.int .i64 p_x.actuator), (.bool p_x.out)]) rfl rfl rfl (fun b1 => ?_))
 refine wq rfl rfl rfl (ov_assign rfl rfl) ?_
 refine WL.nil (then_normal (WP.seq (WP.region ?_)))
 refine wq rfl rfl rfl (ov_fieldAddr Tryz.underlying40 rfl rfl rfl Tryz.sizeOf3 rfl rfl) ?_
 refine wq rfl rfl rfl (ov_load_box (i := 0) Tryz.isAgg3 rfl rfl rfl rfl) ?_
 refine wq rfl rfl rfl (ov_fieldAddr Tryz.underlying40 rfl rfl rfl Tryz.sizeOf3 rfl rfl) ?_
 refine wq rfl rfl rfl (ov_load_box (i := 0) Tryz.isAgg3 rfl rfl rfl rfl) ?_
 refine wq rfl rfl rfl (ov_add rfl rfl rfl) ?_
 obtain ⟨s1, e1, hm⟩ := bind_some hm
 refine wq rfl rfl rfl (ov_slice_string Tryz.underlying9 rfl rfl rfl rfl e1) ?_
 refine wq rfl rfl rfl (ov_assign rfl rfl) ?_
 refine WL.nil (then_normal (WP.seq (WP.seq (WP.region ?_))))
 refine wq rfl rfl rfl (ov_fieldAddr Tryz.underlying40 rfl rfl rfl Tryz.sizeOf4 rfl rfl) ?_
 refine wq rfl rfl rfl (ov_load_box (i := 0) Tryz.isAgg4 rfl rfl rfl rfl) ?_
 refine WL.nil (then_normal ?_)
 refine WP.cond rfl (fun hc1 => ?_) (fun hc1 => ?_)
 ·
  replace hm := ite_t hc1 hm
  refine WP.seq (WP.region ?_)
  refine wq rfl rfl rfl (ov_move rfl rfl) ?_
  obtain ⟨s2, e2, hm⟩ := bind_some hm
  refine wq rfl rfl rfl (ov_sadd' e2 rfl rfl rfl) ?_
  refine wq rfl rfl rfl (ov_assign rfl rfl) ?_
  refine WL.nil (then_normal (WP.ret (then_ret ?_)))
  obtain rfl := Option.some.inj hm
  refine retQ_ret Tryz.results106 (Res.tmp rfl Res.nil) rfl (fun w' s => ⟨s.below, ?_⟩)
  exact rfl
 ·
  replace hm := ite_f hc1 hm
  refine WP.skip (then_normal (WP.seq (WP.region ?_)))
  refine wq rfl rfl rfl (ov_move rfl rfl) ?_
  obtain ⟨s3, e3, hm⟩ := bind_some hm
  refine wq rfl rfl rfl (ov_sadd' e3 rfl rfl rfl) ?_
  refine wq rfl rfl rfl (ov_assign rfl rfl) ?_
  refine WL.nil (then_normal (WP.ret ?_))
  obtain rfl := Option.some.inj hm
  refine retQ_ret Tryz.results106 (Res.tmp rfl Res.nil) rfl (fun w' s => ⟨s.below, ?_⟩)
  exact rfl

theorem ref13_read_con (p_s : (List UInt8)) (w : World) (H : Heap) (hH : Le H (hp w)) (hG : Glob H) (r : (Stroke × Bool)) (hm : ref13_read p_s = some r) :
  Con Tryz.prog 112 [(mkS p_s)] w H (fun v _ => v = (.tuple #[(.agg #[(.int .i64 r.1.actuator), (.bool r.1.out)]), (.bool r.2)])) := by
 unfold ref13_read at hm
 refine con_of hH Tryz.func112 rfl 28 Tryz.ntmps112 rfl ?_
 refine WP.seq (WP.region ?_)
 refine WL.step (Runs.free rfl) rfl rfl (os_alloc (cs := [(.int .i64 0), (.bool false)]) Tryz.zeroValue40 rfl rfl (fun b1 => ?_))
 refine wq rfl rfl rfl (ov_assign rfl rfl) ?_
 refine WL.nil (then_normal ?_)
 obtain ⟨k1, hk1, hm⟩ := joinK_some hm
 refine WP.seq_join (fun g' S' => ∃ (H4 : Heap), Le H H4 ∧ Sub [(2, (pB b1 0)), (1000000007, (.bool false))] g' ∧ (∀ w', S' w' → St w H [.blk b1 40 [(.int .i64 0), (.bool false)]] H4 w') ∧ k1 = some r) ?_ ?_
 ·
  skip
  refine WP.seq (WP.region ?_)
  refine wq rfl rfl rfl (ov_assign rfl rfl) ?_
  refine WL.nil (then_normal (WP.block ?_))
  refine WP.loop (fun m1 g' S' => ∃ (H1 : Heap) (i1 : Int), Le H H1 ∧ Sub [(0, (mkS p_s)), (2, (pB b1 0)), (4, (.int .i64 i1)), (1000000007, (.bool false))] g' ∧ (∀ w', S' w' → St w H [.blk b1 40 [(.int .i64 0), (.bool false)]] H1 w') ∧ ref13_read_loop1 k1 p_s m1 i1 = some r) ((Int.toNat (6 - 0) + 1)) ⟨H, 0, (Le.refl _), (Sub.cons rfl (Sub.cons rfl (Sub.cons rfl (Sub.cons rfl (Sub.nil _))))), fun w' s => s, hm⟩ ?_ ?_
  ·
   rintro g' S' ⟨_, _, _, _, _, hm⟩
   exact none_some hm
  ·
   rintro m1 g' S' ⟨H1, i1, hle1, hsub1, hS1, hm⟩
   refine WP.sub hsub1 (WP.weaken hS1 ?_)
   rw [ref13_read_loop1] at hm
   replace hG := hG.mono hle1
   refine WP.seq (WP.seq (WP.region ?_))
   refine wq rfl rfl rfl (ov_move rfl rfl) ?_
   refine wq rfl rfl rfl (ov_lss rfl rfl rfl) ?_
   refine WL.nil (then_normal ?_)
   refine WP.cond rfl (fun hc1 => ?_) (fun hc1 => ?_)
   ·
    replace hm := ite_t hc1 hm
    refine WP.skip (then_normal ?_)
    obtain ⟨k2, hk2, hm⟩ := joinK_some hm
    refine WP.seq_join (fun g' S' => ∃ (H3 : Heap), Le H1 H3 ∧ Sub [(0, (mkS p_s)), (2, (pB b1 0)), (4, (.int .i64 i1)), (1000000007, (.bool false))] g' ∧ (∀ w', S' w' → St w H [.blk b1 40 [(.int .i64 0), (.bool false)]] H3 w') ∧ k2 = some r) ?_ ?_
    ·
     skip
     refine WP.block (WP.seq (WP.region ?_))
     have rl1 : RL H1 encBool ([false, true] : List Bool) [(.bool false), (.bool true)] := RL.cons (cs := [(.bool false)]) (xs := [(.bool true)]) rfl (RL.cons (cs := [(.bool true)]) (xs := []) rfl (RL.nil _ _))
     refine WL.step (Runs.free rfl) rfl rfl (os_buildSlice (cs := [(.bool false), (.bool true)]) (E := 4) (sz := 1) rfl rfl (fun _ => by kernel_rfl) rfl (by decide) (fun b2 => ?_))
     refine WL.held rl1 (fun H2 hc2 hle2 h1 => ?_)
     replace hG := hG.mono hle2
     refine wq rfl rfl rfl (ov_len_slice Tryz.underlying47 rfl rfl) ?_
     refine wq rfl rfl rfl (ov_move rfl rfl) ?_
     refine WL.nil (then_normal (WP.block ?_))
     refine WP.loop (fun m2 g' S' => ∃ (i2 : Int), Sub [(0, (mkS p_s)), (2, (pB b1 0)), (4, (.int .i64 i1)), (12, (.slice (some ⟨b2, 0, none⟩) ([false, true] : List Bool).length 2)), (13, (.int .i64 (([false, true] : List Bool).length : Int))), (14, (.int .i64 i2)), (1000000007, (.bool false))] g' ∧ (∀ w', S' w' → St w H [.blk b1 40 [(.int .i64 0), (.bool false)]] H2 w') ∧ ref13_read_loop2 p_s i1 k2 m2 i2 = some r) ((Int.toNat ((([false, true] : List Bool).length : Int) - 0) + 1)) ⟨0, (Sub.cons rfl (Sub.cons rfl (Sub.cons rfl (Sub.cons rfl (Sub.cons rfl (Sub.cons rfl (Sub.cons rfl (Sub.nil _)))))))), fun w' s => s, hm⟩ ?_ ?_
     ·
      rintro g' S' ⟨_, _, _, hm⟩
      exact none_some hm
     ·
      rintro m2 g' S' ⟨i2, hsub2, hS2, hm⟩
      refine WP.sub hsub2 (WP.weaken hS2 ?_)
      rw [ref13_read_loop2] at hm
      refine WP.seq (WP.region ?_)
      refine wq rfl rfl rfl (ov_lss rfl rfl rfl) ?_
      refine WL.nil (then_normal (WP.seq ?_))
      refine WP.cond rfl (fun hc3 => ?_) (fun hc3 => ?_)
      ·
       replace hm := ite_t hc3 hm
       refine WP.skip (then_normal (WP.seq (WP.block (WP.seq (WP.region ?_)))))
       obtain ⟨x1, e1, hm⟩ := bind_some hm
       obtain ⟨h2, h3, h4, cs1, h5, h6⟩ := h1.get e1 (by decide)
       obtain rfl : cs1 = [(.bool x1)] := h5
       refine wq rfl rfl rfl (ov_indexAddr Tryz.underlying47 Tryz.sizeOf4 rfl rfl rfl h2 h3 h4) ?_
       refine wq rfl rfl rfl (ov_load_elem (v := (.bool x1)) Tryz.isAgg4 rfl rfl h6) ?_
       refine wq rfl rfl rfl (ov_assign rfl rfl) ?_
       refine WL.nil (then_normal (WP.seq (WP.region ?_)))
       refine wq rfl rfl rfl (ov_move rfl rfl) ?_
       refine wq rfl rfl rfl (ov_move rfl rfl) ?_
       refine wq rfl rfl rfl (ov_build (r := (.agg #[(.int .i64 i1), (.bool x1)])) rfl rfl (fun _ => by kernel_rfl)) ?_
       refine WL.step (Runs.free rfl) rfl rfl (os_alloc (cs := [(.int .i64 0), (.bool false)]) Tryz.zeroValue40 rfl rfl (fun b3 => ?_))
       refine WL.step0 (Runs.free rfl) rfl (os_store (i := 0) (vs := [(.int .i64 i1), (.bool x1)]) (cs' := [(.int .i64 i1), (.bool x1)]) Tryz.sizeOf40 rfl rfl rfl rfl rfl rfl rfl rfl rfl ?_)
       refine WL.nil (then_normal (WP.seq (WP.region ?_)))
       refine wq rfl rfl rfl (ov_load_whole (i := 0) Tryz.isAgg40 Tryz.sizeOf40 rfl rfl rfl rfl) ?_
       obtain ⟨r1, e2, hm⟩ := bind_some hm
       refine WL.quiet (Runs.free rfl) rfl rfl (oq_con (r := (mkS r1)) Tryz.call106 rfl rfl (fun w' s => ⟨_, (ref13_Written_con (Stroke.mk i1 x1)  w' H2 s.hold hG r1 e2)⟩)) ?_
       refine wq rfl rfl rfl (ov_move rfl rfl) ?_
       refine wq rfl rfl rfl (ov_seql rfl rfl rfl) ?_
       refine WL.nil (then_normal ?_)
       refine WP.cond rfl (fun hc4 => ?_) (fun hc4 => ?_)
       ·
        replace hm := ite_t hc4 hm
        refine WP.seq (WP.region ?_)
        refine wq rfl rfl rfl (ov_load_whole (i := 0) Tryz.isAgg40 Tryz.sizeOf40 rfl rfl rfl rfl) ?_
        refine WL.step0 (Runs.free rfl) rfl (os_store (i := 1) (vs := [(.int .i64 i1), (.bool x1)]) (cs' := [(.int .i64 i1), (.bool x1)]) Tryz.sizeOf40 rfl rfl rfl rfl rfl rfl rfl rfl rfl ?_)
        refine wq rfl rfl rfl (ov_assign rfl rfl) ?_
        refine WL.nil (then_normal (WP.ret (block_ret (then_ret (then_ret (block_ret (block_ret (then_ret (then_ret (block_ret (then_ret ?_)))))))))))
        obtain rfl := Option.some.inj hm
        refine retQ_ret Tryz.results112 (Res.cell rfl (box_loads (i := 1) Tryz.isAgg40 Tryz.sizeOf40 rfl rfl) (Res.tmp rfl Res.nil)) rfl (fun w' s => ⟨s.below, ?_⟩)
        exact rfl
       ·
        replace hm := ite_f hc4 hm
        refine WP.skip (block_normal (then_normal (WP.region ?_)))
        refine wq rfl rfl rfl (ov_add rfl rfl rfl) ?_
        refine wq rfl rfl rfl (ov_move rfl rfl) ?_
        refine WL.nil (then_normal ?_)
        exact ⟨(IntKind.wrap .i64 (i2 + 1)), (Sub.cons rfl (Sub.cons rfl (Sub.cons rfl (Sub.cons rfl (Sub.cons rfl (Sub.cons rfl (Sub.cons rfl (Sub.nil _)))))))), fun w' s => (s.select [1] (by decide) rfl), hm⟩
      ·
       replace hm := ite_f hc3 hm
       refine WP.exit (then_exit (then_exit (block_here (block_normal (then_normal ?_)))))
       exact ⟨H2, hle2, (Sub.cons rfl (Sub.cons rfl (Sub.cons rfl (Sub.cons rfl (Sub.nil _))))), fun w' s => s, hm⟩
    ·
     rintro g' S' ⟨H3, hle3, hsub3, hS3, hm⟩
     refine WP.sub hsub3 (WP.weaken hS3 ?_)
     replace hm := hk2.symm.trans hm
     replace hG := hG.mono hle3
     refine WP.region ?_
     refine wq rfl rfl rfl (ov_move rfl rfl) ?_
     refine wq rfl rfl rfl (ov_add rfl rfl rfl) ?_
     refine wq rfl rfl rfl (ov_assign rfl rfl) ?_
     refine WL.nil (then_normal ?_)
     exact ⟨H3, (IntKind.wrap .i64 (i1 + 1)), (hle1.trans hle3), (Sub.cons rfl (Sub.cons rfl (Sub.cons rfl (Sub.cons rfl (Sub.nil _))))), fun w' s => s, hm⟩
   ·
    replace hm := ite_f hc1 hm
    refine WP.exit (then_exit (then_exit (block_here (then_normal ?_))))
    exact ⟨H1, hle1, (Sub.cons rfl (Sub.cons rfl (Sub.nil _))), fun w' s => s, hm⟩
 ·
  rintro g' S' ⟨H4, hle4, hsub4, hS4, hm⟩
  refine WP.sub hsub4 (WP.weaken hS4 ?_)
  replace hm := hk1.symm.trans hm
  replace hG := hG.mono hle4
  refine WP.seq (WP.region ?_)
  refine wq rfl rfl rfl (ov_build (r := (.agg #[(.int .i64 0), (.bool false)])) rfl rfl (fun _ => by kernel_rfl)) ?_
  refine WL.step0 (Runs.free rfl) rfl (os_store (i := 0) (vs := [(.int .i64 0), (.bool false)]) (cs' := [(.int .i64 0), (.bool false)]) Tryz.sizeOf40 rfl rfl rfl rfl rfl rfl rfl rfl rfl ?_)
  refine wq rfl rfl rfl (ov_assign rfl rfl) ?_
  refine WL.nil (then_normal (WP.ret ?_))
  obtain rfl := Option.some.inj hm
  refine retQ_ret Tryz.results112 (Res.cell rfl (box_loads (i := 0) Tryz.isAgg40 Tryz.sizeOf40 rfl rfl) (Res.tmp rfl Res.nil)) rfl (fun w' s => ⟨s.below, ?_⟩)
  exact rfl

theorem ref03_Number_con (p_s : (List UInt8)) (w : World) (H : Heap) (hH : Le H (hp w)) (hG : Glob H) (r : (Int × Bool)) (hm : ref03_Number p_s = some r) :
  Con Tryz.prog 113 [(mkS p_s)] w H (fun v _ => v = (.tuple #[(.int .i64 r.1), (.bool r.2)])) := by
 unfold ref03_Number at hm
 refine con_of hH Tryz.func113 rfl 48 Tryz.ntmps113 rfl ?_
 refine WP.seq (WP.region ?_)
 refine wq rfl rfl rfl (ov_assign rfl rfl) ?_
 refine wq rfl rfl rfl (ov_assign rfl rfl) ?_
 refine WL.nil (then_normal (WP.seq (WP.seq (WP.region ?_))))
 refine wq rfl rfl rfl (ov_move rfl rfl) ?_
 refine wq rfl rfl rfl (ov_seql rfl rfl rfl) ?_
 refine wq rfl rfl rfl (ov_move rfl rfl) ?_
 refine WL.cut_bool 4 12 (x := ((p_s == []) || (decide ((p_s.length : Int) > 7)))) ?_ ?_
 ·
  rcases Bool.eq_false_or_eq_true (p_s == []) with hc1 | hc1
  ·
   skip
   refine WL.idle (Idle.no rfl rfl rfl hc1) rfl rfl ?_
   refine WL.idle (Idle.no rfl rfl rfl hc1) rfl rfl ?_
   refine WL.idle (Idle.no rfl rfl rfl hc1) rfl rfl ?_
   refine wq rfl rfl rfl (ov_pick_true rfl (guard_eq rfl hc1) rfl) ?_
   exact WL.nil ⟨Sub.cons' rfl (congrArg Value.bool (orT hc1)) (Sub.skip rfl (Sub.skip rfl (Sub.skip rfl (Sub.skip rfl (Sub.refl _))))), fun _ s => s⟩
  ·
   skip
   refine WL.quiet (Runs.yes rfl rfl rfl hc1) rfl rfl (OV.quiet (ov_move rfl rfl)) ?_
   refine WL.quiet (Runs.yes rfl rfl rfl hc1) rfl rfl (OV.quiet (ov_len_string Tryz.underlying9 rfl rfl)) ?_
   refine WL.quiet (Runs.yes rfl rfl rfl hc1) rfl rfl (OV.quiet (ov_gtr rfl rfl rfl)) ?_
   refine wq rfl rfl rfl (ov_pick_false rfl (guard_eq rfl hc1) rfl) ?_
   exact WL.nil ⟨Sub.cons' rfl (congrArg Value.bool (orF hc1)) (Sub.skip rfl (Sub.skip rfl (Sub.skip rfl (Sub.skip rfl (Sub.refl _))))), fun _ s => s⟩
 refine wq rfl rfl rfl (ov_move rfl rfl) ?_
 obtain ⟨c1, e1, hm⟩ := bind_some hm
 refine WL.cut_bool 9 22 (x := c1) ?_ ?_
 ·
  rcases Bool.eq_false_or_eq_true ((p_s == []) || (decide ((p_s.length : Int) > 7))) with hc2 | hc2
  ·
   skip
   replace hm := ite_t hc2 e1
   refine WL.idle (Idle.no rfl rfl rfl hc2) rfl rfl ?_
   refine WL.idle (Idle.no rfl rfl rfl hc2) rfl rfl ?_
   refine WL.idle (Idle.no rfl rfl rfl hc2) rfl rfl ?_
   refine WL.idle (Idle.no rfl rfl rfl hc2) rfl rfl ?_
   refine WL.idle (Idle.undef rfl rfl rfl) rfl rfl ?_
   refine WL.idle (Idle.undef rfl rfl rfl) rfl rfl ?_
   refine WL.idle (Idle.undef rfl rfl rfl) rfl rfl ?_
   refine WL.idle (Idle.no rfl rfl rfl hc2) rfl rfl ?_
   refine wq rfl rfl rfl (ov_pick_true rfl (guard_eq rfl hc2) rfl) ?_
   exact WL.nil ⟨Sub.cons' rfl (congrArg Value.bool (Option.some.inj hm)) (Sub.skip rfl (Sub.skip rfl (Sub.skip rfl (Sub.skip rfl (Sub.skip rfl (Sub.skip rfl (Sub.skip rfl (Sub.skip rfl (Sub.skip rfl (Sub.refl _)))))))))), fun _ s => s⟩
  ·
   skip
   replace hm := ite_f hc2 e1
   refine WL.quiet (Runs.yes rfl rfl rfl hc2) rfl rfl (OV.quiet (ov_move rfl rfl)) ?_
   refine WL.quiet (Runs.yes rfl rfl rfl hc2) rfl rfl (OV.quiet (ov_len_string Tryz.underlying9 rfl rfl)) ?_
   refine WL.quiet (Runs.yes rfl rfl rfl hc2) rfl rfl (OV.quiet (ov_gtr rfl rfl rfl)) ?_
   refine WL.quiet (Runs.yes rfl rfl rfl hc2) rfl rfl (OV.quiet (ov_move rfl rfl)) ?_
   obtain ⟨c2, e2, hm⟩ := bind_some hm
   refine WL.cut_bool 4 21 (x := c2) ?_ ?_
   ·
    rcases Bool.eq_false_or_eq_true (decide ((p_s.length : Int) > 1)) with hc3 | hc3
    ·
     skip
     replace hm := ite_t hc3 e2
     refine WL.quiet (Runs.yes rfl rfl rfl hc3) rfl rfl (OV.quiet (ov_move rfl rfl)) ?_
     obtain ⟨b1, e3, hm⟩ := bind_some hm
     refine WL.quiet (Runs.yes rfl rfl rfl hc3) rfl rfl (OV.quiet (ov_index_string Tryz.underlying9 rfl rfl rfl e3)) ?_
     refine WL.quiet (Runs.yes rfl rfl rfl hc3) rfl rfl (OV.quiet (ov_eql rfl rfl rfl)) ?_
     refine WL.quiet (Runs.yes rfl rfl rfl hc2) rfl rfl (OV.quiet (ov_pick_true rfl (guard_eq rfl hc3) rfl)) ?_
     exact WL.nil ⟨Sub.cons' rfl (congrArg Value.bool (Option.some.inj hm)) (Sub.skip rfl (Sub.skip rfl (Sub.skip rfl (Sub.skip rfl (Sub.refl _))))), fun _ s => s⟩
    ·
     skip
     replace hm := ite_f hc3 e2
     refine WL.idle (Idle.no rfl rfl rfl hc3) rfl rfl ?_
     refine WL.idle (Idle.no rfl rfl rfl hc3) rfl rfl ?_
     refine WL.idle (Idle.no rfl rfl rfl hc3) rfl rfl ?_
     refine WL.quiet (Runs.yes rfl rfl rfl hc2) rfl rfl (OV.quiet (ov_pick_false rfl (guard_eq rfl hc3) rfl)) ?_
     exact WL.nil ⟨Sub.cons' rfl (congrArg Value.bool (Option.some.inj hm)) (Sub.skip rfl (Sub.skip rfl (Sub.skip rfl (Sub.skip rfl (Sub.refl _))))), fun _ s => s⟩
   refine wq rfl rfl rfl (ov_pick_false rfl (guard_eq rfl hc2) rfl) ?_
   exact WL.nil ⟨Sub.cons' rfl (congrArg Value.bool (Option.some.inj hm)) (Sub.skip rfl (Sub.skip rfl (Sub.skip rfl (Sub.skip rfl (Sub.skip rfl (Sub.skip rfl (Sub.refl _))))))), fun _ s => s⟩
 refine WL.nil (then_normal ?_)
 refine WP.cond rfl (fun hc4 => ?_) (fun hc4 => ?_)
 ·
  replace hm := ite_t hc4 hm
  refine WP.seq (WP.region ?_)
  refine wq rfl rfl rfl (ov_assign rfl rfl) ?_
  refine wq rfl rfl rfl (ov_assign rfl rfl) ?_
  refine WL.nil (then_normal (WP.ret (then_ret ?_)))
  obtain rfl := Option.some.inj hm
  refine retQ_ret Tryz.results113 (Res.tmp rfl (Res.tmp rfl Res.nil)) rfl (fun w' s => ⟨s.below, ?_⟩)
  exact rfl
 ·
  replace hm := ite_f hc4 hm
  refine WP.skip (then_normal (WP.seq (WP.region ?_)))
  refine wq rfl rfl rfl (ov_assign rfl rfl) ?_
  refine WL.nil (then_normal ?_)
  obtain ⟨k1, hk1, hm⟩ := joinK_some hm
  refine WP.seq_join (fun g' S' => ∃ (i3 : Int), Sub [(4, (.int .i64 i3)), (1000000007, (.bool false))] g' ∧ (∀ w', S' w' → St w H [] H w') ∧ k1 i3 = some r) ?_ ?_
  ·
   skip
   refine WP.seq (WP.region ?_)
   refine wq rfl rfl rfl (ov_assign rfl rfl) ?_
   refine WL.nil (then_normal (WP.block ?_))
   refine WP.loop (fun m1 g' S' => ∃ (i1 : Int) (i2 : Int), Sub [(0, (mkS p_s)), (4, (.int .i64 i1)), (5, (.int .i64 i2)), (1000000007, (.bool false))] g' ∧ (∀ w', S' w' → St w H [] H w') ∧ ref03_Number_loop1 p_s k1 m1 i1 i2 = some r) ((Int.toNat ((p_s.length : Int) - 0) + 1)) ⟨0, 0, (Sub.cons rfl (Sub.cons rfl (Sub.cons rfl (Sub.cons rfl (Sub.nil _))))), fun w' s => s, hm⟩ ?_ ?_
   ·
    rintro g' S' ⟨_, _, _, _, hm⟩
    exact none_some hm
   ·
    rintro m1 g' S' ⟨i1, i2, hsub1, hS1, hm⟩
    refine WP.sub hsub1 (WP.weaken hS1 ?_)
    rw [ref03_Number_loop1] at hm
    refine WP.seq (WP.seq (WP.region ?_))
    refine wq rfl rfl rfl (ov_move rfl rfl) ?_
    refine wq rfl rfl rfl (ov_move rfl rfl) ?_
    refine wq rfl rfl rfl (ov_len_string Tryz.underlying9 rfl rfl) ?_
    refine wq rfl rfl rfl (ov_lss rfl rfl rfl) ?_
    refine WL.nil (then_normal ?_)
    refine WP.cond rfl (fun hc5 => ?_) (fun hc5 => ?_)
    ·
     replace hm := ite_t hc5 hm
     refine WP.skip (then_normal (WP.seq (WP.block (WP.seq (WP.seq (WP.region ?_))))))
     refine wq rfl rfl rfl (ov_move rfl rfl) ?_
     refine wq rfl rfl rfl (ov_move rfl rfl) ?_
     obtain ⟨b2, e4, hm⟩ := bind_some hm
     refine wq rfl rfl rfl (ov_index_string Tryz.underlying9 rfl rfl rfl e4) ?_
     refine wq rfl rfl rfl (ov_lss rfl rfl rfl) ?_
     refine wq rfl rfl rfl (ov_move rfl rfl) ?_
     obtain ⟨c3, e5, hm⟩ := bind_some hm
     refine WL.cut_bool 5 38 (x := c3) ?_ ?_
     ·
      rcases Bool.eq_false_or_eq_true (decide ((b2.toNat : Int) < 48)) with hc6 | hc6
      ·
       skip
       replace hm := ite_t hc6 e5
       refine WL.idle (Idle.no rfl rfl rfl hc6) rfl rfl ?_
       refine WL.idle (Idle.no rfl rfl rfl hc6) rfl rfl ?_
       refine WL.idle (Idle.no rfl rfl rfl hc6) rfl rfl ?_
       refine WL.idle (Idle.no rfl rfl rfl hc6) rfl rfl ?_
       refine wq rfl rfl rfl (ov_pick_true rfl (guard_eq rfl hc6) rfl) ?_
       exact WL.nil ⟨Sub.cons' rfl (congrArg Value.bool (Option.some.inj hm)) (Sub.skip rfl (Sub.skip rfl (Sub.skip rfl (Sub.skip rfl (Sub.skip rfl (Sub.refl _)))))), fun _ s => s⟩
      ·
       skip
       replace hm := ite_f hc6 e5
       refine WL.quiet (Runs.yes rfl rfl rfl hc6) rfl rfl (OV.quiet (ov_move rfl rfl)) ?_
       refine WL.quiet (Runs.yes rfl rfl rfl hc6) rfl rfl (OV.quiet (ov_move rfl rfl)) ?_
       obtain ⟨b3, e6, hm⟩ := bind_some hm
       refine WL.quiet (Runs.yes rfl rfl rfl hc6) rfl rfl (OV.quiet (ov_index_string Tryz.underlying9 rfl rfl rfl e6)) ?_
       refine WL.quiet (Runs.yes rfl rfl rfl hc6) rfl rfl (OV.quiet (ov_gtr rfl rfl rfl)) ?_
       refine wq rfl rfl rfl (ov_pick_false rfl (guard_eq rfl hc6) rfl) ?_
       exact WL.nil ⟨Sub.cons' rfl (congrArg Value.bool (Option.some.inj hm)) (Sub.skip rfl (Sub.skip rfl (Sub.skip rfl (Sub.skip rfl (Sub.skip rfl (Sub.refl _)))))), fun _ s => s⟩
     refine WL.nil (then_normal ?_)
     refine WP.cond rfl (fun hc7 => ?_) (fun hc7 => ?_)
     ·
      replace hm := ite_t hc7 hm
      refine WP.seq (WP.region ?_)
      refine wq rfl rfl rfl (ov_assign rfl rfl) ?_
      refine wq rfl rfl rfl (ov_assign rfl rfl) ?_
      refine WL.nil (then_normal (WP.ret (then_ret (block_ret (then_ret (then_ret (block_ret (then_ret ?_))))))))
      obtain rfl := Option.some.inj hm
      refine retQ_ret Tryz.results113 (Res.tmp rfl (Res.tmp rfl Res.nil)) rfl (fun w' s => ⟨s.below, ?_⟩)
      exact rfl
     ·
      replace hm := ite_f hc7 hm
      refine WP.skip (then_normal (WP.region ?_))
      refine wq rfl rfl rfl (ov_move rfl rfl) ?_
      refine wq rfl rfl rfl (ov_mul rfl rfl rfl) ?_
      refine wq rfl rfl rfl (ov_move rfl rfl) ?_
      refine wq rfl rfl rfl (ov_move rfl rfl) ?_
      obtain ⟨b4, e7, hm⟩ := bind_some hm
      refine wq rfl rfl rfl (ov_index_string Tryz.underlying9 rfl rfl rfl e7) ?_
      refine wq rfl rfl rfl (ov_sub rfl rfl rfl) ?_
      refine wq rfl rfl rfl (ov_convert_int Tryz.underlying5 Tryz.underlying3 rfl rfl) ?_
      refine wq rfl rfl rfl (ov_add rfl rfl rfl) ?_
      refine wq rfl rfl rfl (ov_assign rfl rfl) ?_
      refine WL.nil (block_normal (then_normal (WP.region ?_)))
      refine wq rfl rfl rfl (ov_move rfl rfl) ?_
      refine wq rfl rfl rfl (ov_add rfl rfl rfl) ?_
      refine wq rfl rfl rfl (ov_assign rfl rfl) ?_
      refine WL.nil (then_normal ?_)
      exact ⟨(IntKind.wrap .i64 ((IntKind.wrap .i64 (10 * i1)) + (IntKind.wrap .i64 (IntKind.wrap .u8 ((b4.toNat : Int) - 48))))), (IntKind.wrap .i64 (i2 + 1)), (Sub.cons rfl (Sub.cons rfl (Sub.cons rfl (Sub.cons rfl (Sub.nil _))))), fun w' s => s, hm⟩
    ·
     replace hm := ite_f hc5 hm
     refine WP.exit (then_exit (then_exit (block_here (then_normal ?_))))
     exact ⟨i1, (Sub.cons rfl (Sub.cons rfl (Sub.nil _))), fun w' s => s, hm⟩
  ·
   rintro g' S' ⟨i3, hsub2, hS2, hm⟩
   refine WP.sub hsub2 (WP.weaken hS2 ?_)
   replace hm := (congrFun hk1 i3).symm.trans hm
   refine WP.seq (WP.region ?_)
   refine wq rfl rfl rfl (ov_move rfl rfl) ?_
   refine wq rfl rfl rfl (ov_assign rfl rfl) ?_
   refine wq rfl rfl rfl (ov_assign rfl rfl) ?_
   refine WL.nil (then_normal (WP.ret ?_))
   obtain rfl := Option.some.inj hm
   refine retQ_ret Tryz.results113 (Res.tmp rfl (Res.tmp rfl Res.nil)) rfl (fun w' s => ⟨s.below, ?_⟩)
   exact rfl

theorem ref13_Step_con (p_s : (List UInt8)) (w : World) (H : Heap) (hH : Le H (hp w)) (hG : Glob H) (r : (Step × Int)) (hm : ref13_Step p_s = some r) :
  Con Tryz.prog 98 [(mkS p_s)] w H (fun v H' => ∃ (ao1 : Option Addr) (cap1 : Nat), v = (.tuple #[(.agg #[(.slice ao1 r.1.strokes.length cap1), (.int .i64 r.1.wait)]), (.int .i64 r.2)]) ∧ SL H' encStroke ao1 r.1.strokes ∧ r.1.strokes.length ≤ cap1) := by
 unfold ref13_Step at hm
 refine con_of hH Tryz.func98 rfl 75 Tryz.ntmps98 rfl ?_
 refine WP.seq (WP.region ?_)
 refine WL.step (Runs.free rfl) rfl rfl (os_alloc (cs := [(.slice none 0 0), (.int .i64 0)]) Tryz.zeroValue37 rfl rfl (fun b1 => ?_))
 refine wq rfl rfl rfl (ov_assign rfl rfl) ?_
 refine WL.nil (then_normal (WP.seq (WP.region ?_)))
 refine WL.step (Runs.free rfl) rfl rfl (os_alloc (cs := [(.slice none 0 0), (.int .i64 0)]) Tryz.zeroValue37 rfl rfl (fun b2 => ?_))
 refine WL.nil (then_normal (WP.seq (WP.region ?_)))
 refine wq rfl rfl rfl (ov_move rfl rfl) ?_
 obtain ⟨r1, e1, hm⟩ := bind_some hm
 refine WL.step (Runs.free rfl) rfl rfl (os_con Tryz.call97 rfl rfl (fun w' s => (ref13_Cut_con p_s [32]  w' H s.hold hG r1 e1)) (fun rr1 H1 hle1 hR1 => ?_))
 replace hG := hG.mono hle1
 obtain ⟨ao2, cap2, rfl, h2, hc2⟩ := hR1
 refine wq rfl rfl rfl (ov_assign rfl rfl) ?_
 refine WL.nil (then_normal ?_)
 obtain ⟨k1, hk1, hm⟩ := joinK_some hm
 refine WP.seq_join (fun g' S' => ∃ (i4 : Int) (l4 : (List Stroke)) (ao6 : Option Addr) (cap6 : Nat) (xs3 : List Value), RL H1 encStroke l4 xs3 ∧ Sub [(2, (pB b1 0)), (4, (pB b2 0)), (1000000007, (.bool false))] g' ∧ (∀ w', S' w' → St w H [.row 40 (encStroke).size l4.length (.slice ao6 l4.length cap6) xs3, .blk b2 37 [(.slice ao6 l4.length cap6), (.int .i64 i4)], .blk b1 37 [(.slice none 0 0), (.int .i64 0)]] H1 w') ∧ k1 i4 l4 = some r) ?_ ?_
 ·
  skip
  refine WP.seq (WP.region ?_)
  refine wq rfl rfl rfl (ov_assign rfl rfl) ?_
  refine WL.nil (then_normal (WP.block ?_))
  have rl1 := RL.nil (α := Stroke) H1 encStroke
  refine WP.weaken (fun _ s => s.nilrow 40 (encStroke).size) ?_
  refine WP.loop (fun m1 g' S' => ∃ (i1 : Int) (i2 : Int) (l1 : (List Stroke)) (ao3 : Option Addr) (cap3 : Nat) (xs1 : List Value), RL H1 encStroke l1 xs1 ∧ Sub [(2, (pB b1 0)), (4, (pB b2 0)), (5, (.slice ao2 r1.length cap2)), (6, (.int .i64 i1)), (1000000007, (.bool false))] g' ∧ (∀ w', S' w' → St w H [.row 40 (encStroke).size l1.length (.slice ao3 l1.length cap3) xs1, .blk b2 37 [(.slice ao3 l1.length cap3), (.int .i64 i2)], .blk b1 37 [(.slice none 0 0), (.int .i64 0)]] H1 w') ∧ ref13_Step_loop1 r1 k1 m1 i1 i2 l1 = some r) ((Int.toNat ((r1.length : Int) - 0) + 1)) ⟨0, 0, ([] : List Stroke), none, 0, [], rl1, (Sub.cons rfl (Sub.cons rfl (Sub.cons rfl (Sub.cons rfl (Sub.cons rfl (Sub.nil _)))))), fun w' s => s, hm⟩ ?_ ?_
  ·
   rintro g' S' ⟨_, _, _, _, _, _, _, _, _, hm⟩
   exact none_some hm
  ·
   rintro m1 g' S' ⟨i1, i2, l1, ao3, cap3, xs1, rl2, hsub1, hS1, hm⟩
   refine WP.sub hsub1 (WP.weaken hS1 ?_)
   rw [ref13_Step_loop1] at hm
   refine WP.seq (WP.seq (WP.region ?_))
   refine wq rfl rfl rfl (ov_move rfl rfl) ?_
   refine wq rfl rfl rfl (ov_move rfl rfl) ?_
   refine wq rfl rfl rfl (ov_len_slice Tryz.underlying127 rfl rfl) ?_
   refine wq rfl rfl rfl (ov_lss rfl rfl rfl) ?_
   refine WL.nil (then_normal ?_)
   refine WP.cond rfl (fun hc3 => ?_) (fun hc3 => ?_)
   ·
    replace hm := ite_t hc3 hm
    refine WP.skip (then_normal ?_)
    obtain ⟨k2, hk2, hm⟩ := joinK_some hm
    refine WP.seq_join (fun g' S' => ∃ (i3 : Int) (l3 : (List Stroke)) (ao5 : Option Addr) (cap5 : Nat) (xs2 : List Value), RL H1 encStroke l3 xs2 ∧ Sub [(2, (pB b1 0)), (4, (pB b2 0)), (5, (.slice ao2 r1.length cap2)), (6, (.int .i64 i1)), (1000000007, (.bool false))] g' ∧ (∀ w', S' w' → St w H [.row 40 (encStroke).size l3.length (.slice ao5 l3.length cap5) xs2, .blk b2 37 [(.slice ao5 l3.length cap5), (.int .i64 i3)], .blk b1 37 [(.slice none 0 0), (.int .i64 0)]] H1 w') ∧ k2 i3 l3 = some r) ?_ ?_
    ·
     skip
     refine WP.block (WP.seq (WP.seq (WP.region ?_)))
     refine wq rfl rfl rfl (ov_move rfl rfl) ?_
     refine wq rfl rfl rfl (ov_move rfl rfl) ?_
     obtain ⟨x1, e2, hm⟩ := bind_some hm
     obtain ⟨h3, h4, h5, cs1, h6, h7⟩ := h2.get e2 (by decide)
     obtain rfl : cs1 = [(mkS x1)] := h6
     refine wq rfl rfl rfl (ov_indexAddr Tryz.underlying127 Tryz.sizeOf9 rfl rfl rfl h3 h4 h5) ?_
     refine wq rfl rfl rfl (ov_load_elem (v := (mkS x1)) Tryz.isAgg9 rfl rfl h7) ?_
     obtain ⟨r2, e3, hm⟩ := bind_some hm
     refine WL.quiet (Runs.free rfl) rfl rfl (oq_con (r := (.tuple #[(.agg #[(.int .i64 r2.1.actuator), (.bool r2.1.out)]), (.bool r2.2)])) Tryz.call112 rfl rfl (fun w' s => ⟨_, (ref13_read_con x1  w' H1 s.hold hG r2 e3)⟩)) ?_
     refine wq rfl rfl rfl (ov_move rfl rfl) ?_
     refine wq rfl rfl rfl (ov_extract rfl rfl rfl) ?_
     refine wq rfl rfl rfl (ov_extract rfl rfl rfl) ?_
     refine WL.step (Runs.free rfl) rfl rfl (os_alloc (cs := [(.int .i64 0), (.bool false)]) Tryz.zeroValue40 rfl rfl (fun b3 => ?_))
     refine WL.step0 (Runs.free rfl) rfl (os_store (i := 0) (vs := [(.int .i64 r2.1.actuator), (.bool r2.1.out)]) (cs' := [(.int .i64 r2.1.actuator), (.bool r2.1.out)]) Tryz.sizeOf40 rfl rfl rfl rfl rfl rfl rfl rfl rfl ?_)
     refine wq rfl rfl rfl (ov_assign rfl rfl) ?_
     refine WL.nil (then_normal (WP.seq (WP.region ?_)))
     refine wq rfl rfl rfl (ov_move rfl rfl) ?_
     refine wq rfl rfl rfl (ov_move rfl rfl) ?_
     refine WL.cut_bool 4 33 (x := (r2.2 && (i2 == 0))) ?_ ?_
     ·
      rcases Bool.eq_false_or_eq_true r2.2 with hc4 | hc4
      ·
       skip
       refine WL.quiet (Runs.yes rfl rfl rfl hc4) rfl rfl (OV.quiet (ov_fieldAddr Tryz.underlying37 rfl rfl rfl Tryz.sizeOf3 rfl rfl)) ?_
       refine WL.quiet (Runs.yes rfl rfl rfl hc4) rfl rfl (OV.quiet (ov_load_box (i := 2) Tryz.isAgg3 rfl rfl rfl rfl)) ?_
       refine WL.quiet (Runs.yes rfl rfl rfl hc4) rfl rfl (OV.quiet (ov_eql rfl rfl rfl)) ?_
       refine wq rfl rfl rfl (ov_pick_true rfl (guard_eq rfl hc4) rfl) ?_
       exact WL.nil ⟨Sub.cons' rfl (congrArg Value.bool (andT hc4)) (Sub.skip rfl (Sub.skip rfl (Sub.skip rfl (Sub.skip rfl (Sub.refl _))))), fun _ s => s⟩
      ·
       skip
       refine WL.idle (Idle.no rfl rfl rfl hc4) rfl rfl ?_
       refine WL.idle (Idle.no rfl rfl rfl hc4) rfl rfl ?_
       refine WL.idle (Idle.no rfl rfl rfl hc4) rfl rfl ?_
       refine wq rfl rfl rfl (ov_pick_false rfl (guard_eq rfl hc4) rfl) ?_
       exact WL.nil ⟨Sub.cons' rfl (congrArg Value.bool (andF hc4)) (Sub.skip rfl (Sub.skip rfl (Sub.skip rfl (Sub.skip rfl (Sub.refl _))))), fun _ s => s⟩
     refine WL.nil (then_normal ?_)
     refine WP.cond rfl (fun hc5 => ?_) (fun hc5 => ?_)
     ·
      replace hm := ite_t hc5 hm
      refine WP.seq (WP.region ?_)
      refine wq rfl rfl rfl (ov_fieldAddr Tryz.underlying37 rfl rfl rfl Tryz.sizeOf25 rfl rfl) ?_
      refine wq rfl rfl rfl (ov_load_box (i := 2) Tryz.isAgg25 rfl rfl rfl rfl) ?_
      refine wq rfl rfl rfl (ov_load_whole (i := 0) Tryz.isAgg40 Tryz.sizeOf40 rfl rfl rfl rfl) ?_
      have rl3 : RL H1 encStroke ([r2.1] : List Stroke) [(.int .i64 r2.1.actuator), (.bool r2.1.out)] := RL.cons (cs := [(.int .i64 r2.1.actuator), (.bool r2.1.out)]) (xs := []) rfl (RL.nil _ _)
      refine WL.step (Runs.free rfl) rfl rfl (os_buildSlice (cs := [(.int .i64 r2.1.actuator), (.bool r2.1.out)]) (E := 40) (sz := 2) rfl rfl (fun _ => by kernel_rfl) rfl (by decide) (fun b4 => ?_))
      obtain ⟨l2, e4, hm⟩ := bind_some hm
      refine WL.step (Runs.free rfl) rfl rfl (os_app (i := 2) (j := 0) (En := encStroke) (xs := xs1) (ys := [(.int .i64 r2.1.actuator), (.bool r2.1.out)]) Tryz.underlying25 (by kernel_rfl : (Tryz.prog.info? 40).map (fun i => (i.zero, i.size, i.bytes)) = some (some (.agg #[(.int .i64 0), (.bool false)]), (encStroke).size, 16)) rfl (by decide) rfl rfl rfl rfl rfl rfl rl2 rl3 e4 (fun ao4 cap4 rl4 => ?_))
      refine wq rfl rfl rfl (ov_fieldAddr Tryz.underlying37 rfl rfl rfl Tryz.sizeOf25 rfl rfl) ?_
      refine WL.step0 (Runs.free rfl) rfl (os_store (i := 3) (vs := [(.slice ao4 (l1 ++ ([r2.1] : List Stroke)).length cap4)]) (cs' := [(.slice ao4 (l1 ++ ([r2.1] : List Stroke)).length cap4), (.int .i64 i2)]) Tryz.sizeOf25 rfl rfl rfl rfl rfl rfl rfl rfl rfl ?_)
      refine WL.nil (then_normal (WP.exit (then_exit (block_here (then_normal ?_)))))
      exact ⟨i2, (l1 ++ ([r2.1] : List Stroke)), ao4, cap4, (xs1 ++ [(.int .i64 r2.1.actuator), (.bool r2.1.out)]), rl4, (Sub.cons rfl (Sub.cons rfl (Sub.cons rfl (Sub.cons rfl (Sub.cons rfl (Sub.nil _)))))), fun w' s => (s.select [2, 3, 4] (by decide) rfl), hm⟩
     ·
      replace hm := ite_f hc5 hm
      refine WP.skip (then_normal (WP.seq (WP.region ?_)))
      refine wq rfl rfl rfl (ov_move rfl rfl) ?_
      refine wq rfl rfl rfl (ov_move rfl rfl) ?_
      obtain ⟨x2, e5, hm⟩ := bind_some hm
      obtain ⟨h8, h9, h10, cs2, h11, h12⟩ := h2.get e5 (by decide)
      obtain rfl : cs2 = [(mkS x2)] := h11
      refine wq rfl rfl rfl (ov_indexAddr Tryz.underlying127 Tryz.sizeOf9 rfl rfl rfl h8 h9 h10) ?_
      refine wq rfl rfl rfl (ov_load_elem (v := (mkS x2)) Tryz.isAgg9 rfl rfl h12) ?_
      obtain ⟨r3, e6, hm⟩ := bind_some hm
      refine WL.quiet (Runs.free rfl) rfl rfl (oq_con (r := (.tuple #[(.int .i64 r3.1), (.bool r3.2)])) Tryz.call113 rfl rfl (fun w' s => ⟨_, (ref03_Number_con x2  w' H1 s.hold hG r3 e6)⟩)) ?_
      refine wq rfl rfl rfl (ov_move rfl rfl) ?_
      refine wq rfl rfl rfl (ov_extract rfl rfl rfl) ?_
      refine wq rfl rfl rfl (ov_extract rfl rfl rfl) ?_
      refine wq rfl rfl rfl (ov_assign rfl rfl) ?_
      refine wq rfl rfl rfl (ov_assign rfl rfl) ?_
      refine WL.nil (then_normal (WP.seq (WP.seq (WP.region ?_))))
      refine wq rfl rfl rfl (ov_move rfl rfl) ?_
      refine wq rfl rfl rfl (ov_not rfl rfl) ?_
      refine wq rfl rfl rfl (ov_move rfl rfl) ?_
      refine WL.cut_bool 3 53 (x := ((!r3.2) || (r3.1 == 0))) ?_ ?_
      ·
       rcases Bool.eq_false_or_eq_true (!r3.2) with hc6 | hc6
       ·
        skip
        refine WL.idle (Idle.no rfl rfl rfl hc6) rfl rfl ?_
        refine WL.idle (Idle.no rfl rfl rfl hc6) rfl rfl ?_
        refine wq rfl rfl rfl (ov_pick_true rfl (guard_eq rfl hc6) rfl) ?_
        exact WL.nil ⟨Sub.cons' rfl (congrArg Value.bool (orT hc6)) (Sub.skip rfl (Sub.skip rfl (Sub.skip rfl (Sub.refl _)))), fun _ s => s⟩
       ·
        skip
        refine WL.quiet (Runs.yes rfl rfl rfl hc6) rfl rfl (OV.quiet (ov_move rfl rfl)) ?_
        refine WL.quiet (Runs.yes rfl rfl rfl hc6) rfl rfl (OV.quiet (ov_eql rfl rfl rfl)) ?_
        refine wq rfl rfl rfl (ov_pick_false rfl (guard_eq rfl hc6) rfl) ?_
        exact WL.nil ⟨Sub.cons' rfl (congrArg Value.bool (orF hc6)) (Sub.skip rfl (Sub.skip rfl (Sub.skip rfl (Sub.refl _)))), fun _ s => s⟩
      refine wq rfl rfl rfl (ov_move rfl rfl) ?_
      refine WL.cut_bool 3 57 (x := (((!r3.2) || (r3.1 == 0)) || (i1 == 0))) ?_ ?_
      ·
       rcases Bool.eq_false_or_eq_true ((!r3.2) || (r3.1 == 0)) with hc7 | hc7
       ·
        skip
        refine WL.idle (Idle.no rfl rfl rfl hc7) rfl rfl ?_
        refine WL.idle (Idle.no rfl rfl rfl hc7) rfl rfl ?_
        refine wq rfl rfl rfl (ov_pick_true rfl (guard_eq rfl hc7) rfl) ?_
        exact WL.nil ⟨Sub.cons' rfl (congrArg Value.bool (orT hc7)) (Sub.skip rfl (Sub.skip rfl (Sub.skip rfl (Sub.refl _)))), fun _ s => s⟩
       ·
        skip
        refine WL.quiet (Runs.yes rfl rfl rfl hc7) rfl rfl (OV.quiet (ov_move rfl rfl)) ?_
        refine WL.quiet (Runs.yes rfl rfl rfl hc7) rfl rfl (OV.quiet (ov_eql rfl rfl rfl)) ?_
        refine wq rfl rfl rfl (ov_pick_false rfl (guard_eq rfl hc7) rfl) ?_
        exact WL.nil ⟨Sub.cons' rfl (congrArg Value.bool (orF hc7)) (Sub.skip rfl (Sub.skip rfl (Sub.skip rfl (Sub.refl _)))), fun _ s => s⟩
      refine wq rfl rfl rfl (ov_move rfl rfl) ?_
      refine WL.cut_bool 6 64 (x := ((((!r3.2) || (r3.1 == 0)) || (i1 == 0)) || (decide (i1 < (IntKind.wrap .i64 ((r1.length : Int) - 1)))))) ?_ ?_
      ·
       rcases Bool.eq_false_or_eq_true (((!r3.2) || (r3.1 == 0)) || (i1 == 0)) with hc8 | hc8
       ·
        skip
        refine WL.idle (Idle.no rfl rfl rfl hc8) rfl rfl ?_
        refine WL.idle (Idle.no rfl rfl rfl hc8) rfl rfl ?_
        refine WL.idle (Idle.no rfl rfl rfl hc8) rfl rfl ?_
        refine WL.idle (Idle.no rfl rfl rfl hc8) rfl rfl ?_
        refine WL.idle (Idle.no rfl rfl rfl hc8) rfl rfl ?_
        refine wq rfl rfl rfl (ov_pick_true rfl (guard_eq rfl hc8) rfl) ?_
        exact WL.nil ⟨Sub.cons' rfl (congrArg Value.bool (orT hc8)) (Sub.skip rfl (Sub.skip rfl (Sub.skip rfl (Sub.skip rfl (Sub.skip rfl (Sub.skip rfl (Sub.refl _))))))), fun _ s => s⟩
       ·
        skip
        refine WL.quiet (Runs.yes rfl rfl rfl hc8) rfl rfl (OV.quiet (ov_move rfl rfl)) ?_
        refine WL.quiet (Runs.yes rfl rfl rfl hc8) rfl rfl (OV.quiet (ov_move rfl rfl)) ?_
        refine WL.quiet (Runs.yes rfl rfl rfl hc8) rfl rfl (OV.quiet (ov_len_slice Tryz.underlying127 rfl rfl)) ?_
        refine WL.quiet (Runs.yes rfl rfl rfl hc8) rfl rfl (OV.quiet (ov_sub rfl rfl rfl)) ?_
        refine WL.quiet (Runs.yes rfl rfl rfl hc8) rfl rfl (OV.quiet (ov_lss rfl rfl rfl)) ?_
        refine wq rfl rfl rfl (ov_pick_false rfl (guard_eq rfl hc8) rfl) ?_
        exact WL.nil ⟨Sub.cons' rfl (congrArg Value.bool (orF hc8)) (Sub.skip rfl (Sub.skip rfl (Sub.skip rfl (Sub.skip rfl (Sub.skip rfl (Sub.skip rfl (Sub.refl _))))))), fun _ s => s⟩
      refine WL.nil (then_normal ?_)
      refine WP.cond rfl (fun hc9 => ?_) (fun hc9 => ?_)
      ·
       replace hm := ite_t hc9 hm
       refine WP.seq (WP.region ?_)
       refine wq rfl rfl rfl (ov_build (r := (.agg #[(.slice none 0 0), (.int .i64 0)])) rfl rfl (fun _ => by kernel_rfl)) ?_
       refine WL.step0 (Runs.free rfl) rfl (os_store (i := 3) (vs := [(.slice none 0 0), (.int .i64 0)]) (cs' := [(.slice none 0 0), (.int .i64 0)]) Tryz.sizeOf37 rfl rfl rfl rfl rfl rfl rfl rfl rfl ?_)
       refine wq rfl rfl rfl (ov_assign rfl rfl) ?_
       refine WL.nil (then_normal (WP.ret (then_ret (block_ret (then_ret (then_ret (block_ret (then_ret ?_))))))))
       obtain rfl := Option.some.inj hm
       refine retQ_ret Tryz.results98 (Res.cell rfl (box_loads (i := 3) Tryz.isAgg37 Tryz.sizeOf37 rfl rfl) (Res.tmp rfl Res.nil)) rfl (fun w' s => ⟨s.below, ?_⟩)
       exact ⟨none, 0, rfl, SL.nil _ _ _, Nat.le_refl _⟩
      ·
       replace hm := ite_f hc9 hm
       refine WP.skip (then_normal (WP.region ?_))
       refine wq rfl rfl rfl (ov_move rfl rfl) ?_
       refine wq rfl rfl rfl (ov_fieldAddr Tryz.underlying37 rfl rfl rfl Tryz.sizeOf3 rfl rfl) ?_
       refine WL.step0 (Runs.free rfl) rfl (os_store (i := 2) (vs := [(.int .i64 r3.1)]) (cs' := [(.slice ao3 l1.length cap3), (.int .i64 r3.1)]) Tryz.sizeOf3 rfl rfl rfl rfl rfl rfl rfl rfl rfl ?_)
       refine WL.nil (block_normal (then_normal ?_))
       exact ⟨r3.1, l1, ao3, cap3, xs1, rl2, (Sub.cons rfl (Sub.cons rfl (Sub.cons rfl (Sub.cons rfl (Sub.cons rfl (Sub.nil _)))))), fun w' s => (s.select [1, 2, 3] (by decide) rfl), hm⟩
    ·
     rintro g' S' ⟨i3, l3, ao5, cap5, xs2, rl5, hsub2, hS2, hm⟩
     refine WP.sub hsub2 (WP.weaken hS2 ?_)
     replace hm := (congrFun (congrFun hk2 i3) l3).symm.trans hm
     refine WP.region ?_
     refine wq rfl rfl rfl (ov_move rfl rfl) ?_
     refine wq rfl rfl rfl (ov_add rfl rfl rfl) ?_
     refine wq rfl rfl rfl (ov_assign rfl rfl) ?_
     refine WL.nil (then_normal ?_)
     exact ⟨(IntKind.wrap .i64 (i1 + 1)), i3, l3, ao5, cap5, xs2, rl5, (Sub.cons rfl (Sub.cons rfl (Sub.cons rfl (Sub.cons rfl (Sub.cons rfl (Sub.nil _)))))), fun w' s => s, hm⟩
   ·
    replace hm := ite_f hc3 hm
    refine WP.exit (then_exit (then_exit (block_here (then_normal ?_))))
    exact ⟨i2, l1, ao3, cap3, xs1, rl2, (Sub.cons rfl (Sub.cons rfl (Sub.cons rfl (Sub.nil _)))), fun w' s => s, hm⟩
 ·
  rintro g' S' ⟨i4, l4, ao6, cap6, xs3, rl6, hsub3, hS3, hm⟩
  refine WP.sub hsub3 (WP.weaken hS3 ?_)
  replace hm := (congrFun (congrFun hk1 i4) l4).symm.trans hm
  refine WP.seq (WP.seq (WP.region ?_))
  refine wq rfl rfl rfl (ov_load_whole (i := 1) Tryz.isAgg37 Tryz.sizeOf37 rfl rfl rfl rfl) ?_
  obtain ⟨r4, e7, hm⟩ := bind_some hm
  refine WL.quiet (Runs.free rfl) rfl rfl (oq_con (r := (.int .i64 r4)) Tryz.call85 rfl rfl (fun w' s => ⟨_, (ref13_CheckStep_con (Step.mk l4 i4) ao6 cap6 w' (hp w') (Le.refl _) (s.row_arg (i := 0) rfl rl6).1 (s.row_arg (i := 0) rfl rl6).2 (hG.mono s.hold) r4 e7)⟩)) ?_
  refine wq rfl rfl rfl (ov_assign rfl rfl) ?_
  refine WL.nil (then_normal (WP.seq (WP.region ?_)))
  refine wq rfl rfl rfl (ov_move rfl rfl) ?_
  refine wq rfl rfl rfl (ov_neq rfl rfl rfl) ?_
  refine WL.nil (then_normal ?_)
  refine WP.cond rfl (fun hc10 => ?_) (fun hc10 => ?_)
  ·
   replace hm := ite_t hc10 hm
   refine WP.seq (WP.region ?_)
   refine wq rfl rfl rfl (ov_build (r := (.agg #[(.slice none 0 0), (.int .i64 0)])) rfl rfl (fun _ => by kernel_rfl)) ?_
   refine wq rfl rfl rfl (ov_move rfl rfl) ?_
   refine WL.step0 (Runs.free rfl) rfl (os_store (i := 2) (vs := [(.slice none 0 0), (.int .i64 0)]) (cs' := [(.slice none 0 0), (.int .i64 0)]) Tryz.sizeOf37 rfl rfl rfl rfl rfl rfl rfl rfl rfl ?_)
   refine wq rfl rfl rfl (ov_assign rfl rfl) ?_
   refine WL.nil (then_normal (WP.ret (then_ret ?_)))
   obtain rfl := Option.some.inj hm
   refine retQ_ret Tryz.results98 (Res.cell rfl (box_loads (i := 2) Tryz.isAgg37 Tryz.sizeOf37 rfl rfl) (Res.tmp rfl Res.nil)) rfl (fun w' s => ⟨s.below, ?_⟩)
   exact ⟨none, 0, rfl, SL.nil _ _ _, Nat.le_refl _⟩
  ·
   replace hm := ite_f hc10 hm
   refine WP.skip (then_normal (WP.seq (WP.region ?_)))
   refine wq rfl rfl rfl (ov_load_whole (i := 1) Tryz.isAgg37 Tryz.sizeOf37 rfl rfl rfl rfl) ?_
   refine WL.step0 (Runs.free rfl) rfl (os_store (i := 2) (vs := [(.slice ao6 l4.length cap6), (.int .i64 i4)]) (cs' := [(.slice ao6 l4.length cap6), (.int .i64 i4)]) Tryz.sizeOf37 rfl rfl rfl rfl rfl rfl rfl rfl rfl ?_)
   refine wq rfl rfl rfl (ov_assign rfl rfl) ?_
   refine WL.nil (then_normal (WP.ret ?_))
   obtain rfl := Option.some.inj hm
   refine retQ_ret Tryz.results98 (Res.cell rfl (box_loads (i := 2) Tryz.isAgg37 Tryz.sizeOf37 rfl rfl) (Res.tmp rfl Res.nil)) rfl (fun w' s => ⟨s.below, ?_⟩)
   obtain ⟨h13, hc11⟩ := s.ret_row (i := 0) rfl rl6
   exact ⟨ao6, cap6, rfl, h13, hc11⟩

end Go.Proofs.YtbhcojijafbdiaaGreatDoor.W
