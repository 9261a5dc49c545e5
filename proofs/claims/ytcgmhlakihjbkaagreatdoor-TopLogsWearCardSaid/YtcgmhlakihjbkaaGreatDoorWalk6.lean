/- The walks. Written by our own program gen.py; Lean checks it. -/
import Derived.Test.YtcgmhlakihjbkaaGreatDoorPlain
import Derived.Test.YtcgmhlakihjbkaaGreatDoorEqs
import Derived.Test.YtcgmhlakihjbkaaGreatDoorProg
import Derived.Test.YtcgmhlakihjbkaaGreatDoorExt
import Derived.Test.YtcgmhlakihjbkaaGreatDoorClone
import Derived.Test.YtcgmhlakihjbkaaGreatDoorInsert
import Derived.Test.YtcgmhlakihjbkaaGreatDoorBuild
import Derived.Test.YtcgmhlakihjbkaaGreatDoorWalk4
import Derived.Test.YtcgmhlakihjbkaaGreatDoorWalk5
set_option linter.unusedVariables false
set_option maxRecDepth 100000
set_option maxHeartbeats 4000000
namespace Go.Proofs.YtcgmhlakihjbkaaGreatDoor.W
open Go Go.RowKit
theorem ref14_moves_con (p_s : Sequence) (p_actuator : Int) (ao1 : Option Addr) (cap1 : Nat) (w : World) (H : Heap) (hH : Le H (hp w)) (h1 : SL H encStep ao1 p_s.steps) (hc1 : p_s.steps.length ≤ cap1) (hG : Glob H) (r : Bool) (hm : ref14_moves p_s p_actuator = some r) :
  Con Tryz.prog 13 [(.agg #[(.int .i64 p_s.actuators), (.slice ao1 p_s.steps.length cap1)]), (.int .i64 p_actuator)] w H (fun v _ => v = (.bool r)) := by
 unfold ref14_moves at hm
 refine con_of hH Tryz.func13 rfl 21 Tryz.ntmps13 rfl ?_
 refine WP.seq (WP.region ?_)
 refine WL.step (Runs.free rfl) rfl rfl (os_box (cs := [(.int .i64 p_s.actuators), (.slice ao1 p_s.steps.length cap1)]) rfl rfl rfl (fun b1 => ?_))
 refine wq rfl rfl rfl (ov_assign rfl rfl) ?_
 refine WL.nil (then_normal ?_)
 obtain ⟨k1, hk1, hm⟩ := joinK_some hm
 refine WP.seq_join (fun g' S' => Sub [(1000000007, (.bool false))] g' ∧ (∀ w', S' w' → St w H [] H w') ∧ k1 = some r) ?_ ?_
 ·
  skip
  refine WP.seq (WP.region ?_)
  refine wq rfl rfl rfl (ov_assign rfl rfl) ?_
  refine WL.nil (then_normal (WP.block ?_))
  refine WP.loop (fun m1 g' S' => ∃ (i1 : Int), Sub [(1, (.int .i64 p_actuator)), (2, (pB b1 0)), (5, (.int .i64 i1)), (1000000007, (.bool false))] g' ∧ (∀ w', S' w' → St w H [.blk b1 24 [(.int .i64 p_s.actuators), (.slice ao1 p_s.steps.length cap1)]] H w') ∧ ref14_moves_loop1 p_s p_actuator k1 m1 i1 = some r) ((Int.toNat ((p_s.steps.length : Int) - 0) + 1)) ⟨0, (Sub.cons rfl (Sub.cons rfl (Sub.cons rfl (Sub.cons rfl (Sub.nil _))))), fun w' s => s, hm⟩ ?_ ?_
  ·
   rintro g' S' ⟨_, _, _, hm⟩
   exact none_some hm
  ·
   rintro m1 g' S' ⟨i1, hsub1, hS1, hm⟩
   refine WP.sub hsub1 (WP.weaken hS1 ?_)
   rw [ref14_moves_loop1] at hm
   refine WP.seq (WP.seq (WP.region ?_))
   refine wq rfl rfl rfl (ov_move rfl rfl) ?_
   refine wq rfl rfl rfl (ov_fieldAddr Tryz.underlying24 rfl rfl rfl Tryz.sizeOf22 rfl rfl) ?_
   refine wq rfl rfl rfl (ov_load_box (i := 0) Tryz.isAgg22 rfl rfl rfl rfl) ?_
   refine wq rfl rfl rfl (ov_len_slice Tryz.underlying22 rfl rfl) ?_
   refine wq rfl rfl rfl (ov_lss rfl rfl rfl) ?_
   refine WL.nil (then_normal ?_)
   refine WP.cond rfl (fun hc2 => ?_) (fun hc2 => ?_)
   ·
    replace hm := ite_t hc2 hm
    refine WP.skip (then_normal (WP.seq (WP.block (WP.seq (WP.region ?_)))))
    refine wq rfl rfl rfl (ov_fieldAddr Tryz.underlying24 rfl rfl rfl Tryz.sizeOf22 rfl rfl) ?_
    refine wq rfl rfl rfl (ov_load_box (i := 0) Tryz.isAgg22 rfl rfl rfl rfl) ?_
    refine wq rfl rfl rfl (ov_move rfl rfl) ?_
    obtain ⟨x1, e1, hm⟩ := bind_some hm
    obtain ⟨h3, h4, h5, cs1, h6, h7⟩ := h1.get e1 (by decide)
    obtain ⟨ao2, cap2, rfl, h2, hc3⟩ := h6
    refine wq rfl rfl rfl (ov_indexAddr Tryz.underlying22 Tryz.sizeOf51 rfl rfl rfl h3 h4 h5) ?_
    refine wq rfl rfl rfl (ov_load_elems (vs := [(.slice ao2 x1.strokes.length cap2), (.int .i64 x1.wait)]) Tryz.isAgg51 Tryz.sizeOf51 rfl rfl rfl h7 h5) ?_
    refine wq rfl rfl rfl (ov_move rfl rfl) ?_
    obtain ⟨r1, e2, hm⟩ := bind_some hm
    refine WL.quiet (Runs.free rfl) rfl rfl (oq_con (r := (.int .i64 r1)) Tryz.call28 rfl rfl (fun w' s => ⟨_, (ref13_Way_con x1 p_actuator ao2 cap2  w' H s.hold h2 hc3 hG r1 e2)⟩)) ?_
    refine wq rfl rfl rfl (ov_neq rfl rfl rfl) ?_
    refine WL.nil (then_normal ?_)
    refine WP.cond rfl (fun hc4 => ?_) (fun hc4 => ?_)
    ·
     replace hm := ite_t hc4 hm
     refine WP.seq (WP.region ?_)
     refine wq rfl rfl rfl (ov_assign rfl rfl) ?_
     refine WL.nil (then_normal (WP.ret (block_ret (then_ret (then_ret (block_ret (then_ret ?_)))))))
     obtain rfl := Option.some.inj hm
     refine retQ_ret Tryz.results13 (Res.tmp rfl Res.nil) rfl (fun w' s => ⟨s.below, ?_⟩)
     exact rfl
    ·
     replace hm := ite_f hc4 hm
     refine WP.skip (block_normal (then_normal (WP.region ?_)))
     refine wq rfl rfl rfl (ov_move rfl rfl) ?_
     refine wq rfl rfl rfl (ov_add rfl rfl rfl) ?_
     refine wq rfl rfl rfl (ov_assign rfl rfl) ?_
     refine WL.nil (then_normal ?_)
     exact ⟨(IntKind.wrap .i64 (i1 + 1)), (Sub.cons rfl (Sub.cons rfl (Sub.cons rfl (Sub.cons rfl (Sub.nil _))))), fun w' s => s, hm⟩
   ·
    replace hm := ite_f hc2 hm
    refine WP.exit (then_exit (then_exit (block_here (then_normal ?_))))
    exact ⟨(Sub.cons rfl (Sub.nil _)), fun w' s => (s.select [] (by decide) rfl), hm⟩
 ·
  rintro g' S' ⟨hsub2, hS2, hm⟩
  refine WP.sub hsub2 (WP.weaken hS2 ?_)
  replace hm := hk1.symm.trans hm
  refine WP.seq (WP.region ?_)
  refine wq rfl rfl rfl (ov_assign rfl rfl) ?_
  refine WL.nil (then_normal (WP.ret ?_))
  obtain rfl := Option.some.inj hm
  refine retQ_ret Tryz.results13 (Res.tmp rfl Res.nil) rfl (fun w' s => ⟨s.below, ?_⟩)
  exact rfl

theorem ref14_Check_con (p_s : Sequence) (ao1 : Option Addr) (cap1 : Nat) (w : World) (H : Heap) (hH : Le H (hp w)) (h1 : SL H encStep ao1 p_s.steps) (hc1 : p_s.steps.length ≤ cap1) (hG : Glob H) (r : Int) (hm : ref14_Check p_s = some r) :
  Con Tryz.prog 5 [(.agg #[(.int .i64 p_s.actuators), (.slice ao1 p_s.steps.length cap1)])] w H (fun v _ => v = (.int .i64 r)) := by
 unfold ref14_Check at hm
 refine con_of hH Tryz.func5 rfl 36 Tryz.ntmps5 rfl ?_
 refine WP.seq (WP.region ?_)
 refine WL.step (Runs.free rfl) rfl rfl (os_box (cs := [(.int .i64 p_s.actuators), (.slice ao1 p_s.steps.length cap1)]) rfl rfl rfl (fun b1 => ?_))
 refine wq rfl rfl rfl (ov_assign rfl rfl) ?_
 refine WL.nil (then_normal (WP.seq (WP.seq (WP.region ?_))))
 refine wq rfl rfl rfl (ov_fieldAddr Tryz.underlying24 rfl rfl rfl Tryz.sizeOf3 rfl rfl) ?_
 refine wq rfl rfl rfl (ov_load_box (i := 0) Tryz.isAgg3 rfl rfl rfl rfl) ?_
 refine wq rfl rfl rfl (ov_lss rfl rfl rfl) ?_
 refine wq rfl rfl rfl (ov_move rfl rfl) ?_
 refine WL.cut_bool 4 12 (x := ((decide (p_s.actuators < 1)) || (decide (p_s.actuators > 6)))) ?_ ?_
 ·
  rcases Bool.eq_false_or_eq_true (decide (p_s.actuators < 1)) with hc2 | hc2
  ·
   skip
   refine WL.idle (Idle.no rfl rfl rfl hc2) rfl rfl ?_
   refine WL.idle (Idle.no rfl rfl rfl hc2) rfl rfl ?_
   refine WL.idle (Idle.no rfl rfl rfl hc2) rfl rfl ?_
   refine wq rfl rfl rfl (ov_pick_true rfl (guard_eq rfl hc2) rfl) ?_
   exact WL.nil ⟨Sub.cons' rfl (congrArg Value.bool (orT hc2)) (Sub.skip rfl (Sub.skip rfl (Sub.skip rfl (Sub.skip rfl (Sub.refl _))))), fun _ s => s⟩
  ·
   skip
   refine WL.quiet (Runs.yes rfl rfl rfl hc2) rfl rfl (OV.quiet (ov_fieldAddr Tryz.underlying24 rfl rfl rfl Tryz.sizeOf3 rfl rfl)) ?_
   refine WL.quiet (Runs.yes rfl rfl rfl hc2) rfl rfl (OV.quiet (ov_load_box (i := 0) Tryz.isAgg3 rfl rfl rfl rfl)) ?_
   refine WL.quiet (Runs.yes rfl rfl rfl hc2) rfl rfl (OV.quiet (ov_gtr rfl rfl rfl)) ?_
   refine wq rfl rfl rfl (ov_pick_false rfl (guard_eq rfl hc2) rfl) ?_
   exact WL.nil ⟨Sub.cons' rfl (congrArg Value.bool (orF hc2)) (Sub.skip rfl (Sub.skip rfl (Sub.skip rfl (Sub.skip rfl (Sub.refl _))))), fun _ s => s⟩
 refine WL.nil (then_normal ?_)
 refine WP.cond rfl (fun hc3 => ?_) (fun hc3 => ?_)
 ·
  replace hm := ite_t hc3 hm
  refine WP.seq (WP.region ?_)
  refine wq rfl rfl rfl (ov_assign rfl rfl) ?_
  refine WL.nil (then_normal (WP.ret (then_ret ?_)))
  obtain rfl := Option.some.inj hm
  refine retQ_ret Tryz.results5 (Res.tmp rfl Res.nil) rfl (fun w' s => ⟨s.below, ?_⟩)
  exact rfl
 ·
  replace hm := ite_f hc3 hm
  refine WP.skip (then_normal (WP.seq (WP.seq (WP.region ?_))))
  refine wq rfl rfl rfl (ov_fieldAddr Tryz.underlying24 rfl rfl rfl Tryz.sizeOf22 rfl rfl) ?_
  refine wq rfl rfl rfl (ov_load_box (i := 0) Tryz.isAgg22 rfl rfl rfl rfl) ?_
  refine wq rfl rfl rfl (ov_len_slice Tryz.underlying22 rfl rfl) ?_
  refine wq rfl rfl rfl (ov_eql rfl rfl rfl) ?_
  refine WL.nil (then_normal ?_)
  refine WP.cond rfl (fun hc4 => ?_) (fun hc4 => ?_)
  ·
   replace hm := ite_t hc4 hm
   refine WP.seq (WP.region ?_)
   refine wq rfl rfl rfl (ov_assign rfl rfl) ?_
   refine WL.nil (then_normal (WP.ret (then_ret ?_)))
   obtain rfl := Option.some.inj hm
   refine retQ_ret Tryz.results5 (Res.tmp rfl Res.nil) rfl (fun w' s => ⟨s.below, ?_⟩)
   exact rfl
  ·
   replace hm := ite_f hc4 hm
   refine WP.skip (then_normal (WP.seq (WP.seq (WP.region ?_))))
   refine wq rfl rfl rfl (ov_fieldAddr Tryz.underlying24 rfl rfl rfl Tryz.sizeOf22 rfl rfl) ?_
   refine wq rfl rfl rfl (ov_load_box (i := 0) Tryz.isAgg22 rfl rfl rfl rfl) ?_
   refine wq rfl rfl rfl (ov_len_slice Tryz.underlying22 rfl rfl) ?_
   refine wq rfl rfl rfl (ov_gtr rfl rfl rfl) ?_
   refine WL.nil (then_normal ?_)
   refine WP.cond rfl (fun hc5 => ?_) (fun hc5 => ?_)
   ·
    replace hm := ite_t hc5 hm
    refine WP.seq (WP.region ?_)
    refine wq rfl rfl rfl (ov_assign rfl rfl) ?_
    refine WL.nil (then_normal (WP.ret (then_ret ?_)))
    obtain rfl := Option.some.inj hm
    refine retQ_ret Tryz.results5 (Res.tmp rfl Res.nil) rfl (fun w' s => ⟨s.below, ?_⟩)
    exact rfl
   ·
    replace hm := ite_f hc5 hm
    refine WP.skip (then_normal (WP.seq (WP.seq (WP.region ?_))))
    refine wq rfl rfl rfl (ov_load_whole (i := 0) Tryz.isAgg24 Tryz.sizeOf24 rfl rfl rfl rfl) ?_
    obtain ⟨r1, e1, hm⟩ := bind_some hm
    refine WL.quiet (Runs.free rfl) rfl rfl (oq_con (r := (.int .i64 r1)) Tryz.call12 rfl rfl (fun w' s => ⟨_, (ref14_steps_con p_s ao1 cap1  w' H s.hold h1 hc1 hG r1 e1)⟩)) ?_
    refine wq rfl rfl rfl (ov_assign rfl rfl) ?_
    refine WL.nil (then_normal (WP.seq (WP.region ?_)))
    refine wq rfl rfl rfl (ov_move rfl rfl) ?_
    refine wq rfl rfl rfl (ov_neq rfl rfl rfl) ?_
    refine WL.nil (then_normal ?_)
    refine WP.cond rfl (fun hc6 => ?_) (fun hc6 => ?_)
    ·
     replace hm := ite_t hc6 hm
     refine WP.seq (WP.region ?_)
     refine wq rfl rfl rfl (ov_move rfl rfl) ?_
     refine wq rfl rfl rfl (ov_assign rfl rfl) ?_
     refine WL.nil (then_normal (WP.ret (then_ret ?_)))
     obtain rfl := Option.some.inj hm
     refine retQ_ret Tryz.results5 (Res.tmp rfl Res.nil) rfl (fun w' s => ⟨s.below, ?_⟩)
     exact rfl
    ·
     replace hm := ite_f hc6 hm
     refine WP.skip (then_normal ?_)
     obtain ⟨k1, hk1, hm⟩ := joinK_some hm
     refine WP.seq_join (fun g' S' => Sub [(1000000007, (.bool false))] g' ∧ (∀ w', S' w' → St w H [] H w') ∧ k1 = some r) ?_ ?_
     ·
      skip
      refine WP.seq (WP.region ?_)
      refine wq rfl rfl rfl (ov_assign rfl rfl) ?_
      refine WL.nil (then_normal (WP.block ?_))
      refine WP.loop (fun m1 g' S' => ∃ (i1 : Int), Sub [(1, (pB b1 0)), (4, (.int .i64 i1)), (1000000007, (.bool false))] g' ∧ (∀ w', S' w' → St w H [.blk b1 24 [(.int .i64 p_s.actuators), (.slice ao1 p_s.steps.length cap1)]] H w') ∧ ref14_Check_loop1 p_s k1 m1 i1 = some r) ((Int.toNat (p_s.actuators - 0) + 1)) ⟨0, (Sub.cons rfl (Sub.cons rfl (Sub.cons rfl (Sub.nil _)))), fun w' s => s, hm⟩ ?_ ?_
      ·
       rintro g' S' ⟨_, _, _, hm⟩
       exact none_some hm
      ·
       rintro m1 g' S' ⟨i1, hsub1, hS1, hm⟩
       refine WP.sub hsub1 (WP.weaken hS1 ?_)
       rw [ref14_Check_loop1] at hm
       refine WP.seq (WP.seq (WP.region ?_))
       refine wq rfl rfl rfl (ov_move rfl rfl) ?_
       refine wq rfl rfl rfl (ov_fieldAddr Tryz.underlying24 rfl rfl rfl Tryz.sizeOf3 rfl rfl) ?_
       refine wq rfl rfl rfl (ov_load_box (i := 0) Tryz.isAgg3 rfl rfl rfl rfl) ?_
       refine wq rfl rfl rfl (ov_lss rfl rfl rfl) ?_
       refine WL.nil (then_normal ?_)
       refine WP.cond rfl (fun hc7 => ?_) (fun hc7 => ?_)
       ·
        replace hm := ite_t hc7 hm
        refine WP.skip (then_normal (WP.seq (WP.block (WP.seq (WP.region ?_)))))
        refine wq rfl rfl rfl (ov_load_whole (i := 0) Tryz.isAgg24 Tryz.sizeOf24 rfl rfl rfl rfl) ?_
        refine wq rfl rfl rfl (ov_move rfl rfl) ?_
        obtain ⟨r2, e2, hm⟩ := bind_some hm
        refine WL.quiet (Runs.free rfl) rfl rfl (oq_con (r := (.bool r2)) Tryz.call13 rfl rfl (fun w' s => ⟨_, (ref14_moves_con p_s i1 ao1 cap1  w' H s.hold h1 hc1 hG r2 e2)⟩)) ?_
        refine wq rfl rfl rfl (ov_not rfl rfl) ?_
        refine WL.nil (then_normal ?_)
        refine WP.cond rfl (fun hc8 => ?_) (fun hc8 => ?_)
        ·
         replace hm := ite_t hc8 hm
         refine WP.seq (WP.region ?_)
         refine wq rfl rfl rfl (ov_assign rfl rfl) ?_
         refine WL.nil (then_normal (WP.ret (block_ret (then_ret (then_ret (block_ret (then_ret ?_)))))))
         obtain rfl := Option.some.inj hm
         refine retQ_ret Tryz.results5 (Res.tmp rfl Res.nil) rfl (fun w' s => ⟨s.below, ?_⟩)
         exact rfl
        ·
         replace hm := ite_f hc8 hm
         refine WP.skip (block_normal (then_normal (WP.region ?_)))
         refine wq rfl rfl rfl (ov_move rfl rfl) ?_
         refine wq rfl rfl rfl (ov_add rfl rfl rfl) ?_
         refine wq rfl rfl rfl (ov_assign rfl rfl) ?_
         refine WL.nil (then_normal ?_)
         exact ⟨(IntKind.wrap .i64 (i1 + 1)), (Sub.cons rfl (Sub.cons rfl (Sub.cons rfl (Sub.nil _)))), fun w' s => s, hm⟩
       ·
        replace hm := ite_f hc7 hm
        refine WP.exit (then_exit (then_exit (block_here (then_normal ?_))))
        exact ⟨(Sub.cons rfl (Sub.nil _)), fun w' s => (s.select [] (by decide) rfl), hm⟩
     ·
      rintro g' S' ⟨hsub2, hS2, hm⟩
      refine WP.sub hsub2 (WP.weaken hS2 ?_)
      replace hm := hk1.symm.trans hm
      refine WP.seq (WP.region ?_)
      refine wq rfl rfl rfl (ov_assign rfl rfl) ?_
      refine WL.nil (then_normal (WP.ret ?_))
      obtain rfl := Option.some.inj hm
      refine retQ_ret Tryz.results5 (Res.tmp rfl Res.nil) rfl (fun w' s => ⟨s.below, ?_⟩)
      exact rfl

theorem sequence_Moves_con (p_s : Sequence) (p_actuator : Int) (ao1 : Option Addr) (cap1 : Nat) (w : World) (H : Heap) (hH : Le H (hp w)) (h1 : SL H encStep ao1 p_s.steps) (hc1 : p_s.steps.length ≤ cap1) (hG : Glob H) (r : ((List Int) × Int)) (hm : sequence_Moves p_s p_actuator = some r) :
  Con Tryz.prog 7 [(.agg #[(.int .i64 p_s.actuators), (.slice ao1 p_s.steps.length cap1)]), (.int .i64 p_actuator)] w H (fun v H' => ∃ (ao2 : Option Addr) (cap2 : Nat), v = (.tuple #[(.slice ao2 r.1.length cap2), (.int .i64 r.2)]) ∧ SL H' (encInt .i64) ao2 r.1 ∧ r.1.length ≤ cap2) := by
 unfold sequence_Moves at hm
 refine con_of hH Tryz.func7 rfl 41 Tryz.ntmps7 rfl ?_
 refine WP.seq (WP.region ?_)
 refine WL.step (Runs.free rfl) rfl rfl (os_box (cs := [(.int .i64 p_s.actuators), (.slice ao1 p_s.steps.length cap1)]) rfl rfl rfl (fun b1 => ?_))
 refine WL.step (Runs.free rfl) rfl rfl (os_box (cs := [(.int .i64 p_actuator)]) rfl rfl rfl (fun b2 => ?_))
 refine wq rfl rfl rfl (ov_assign rfl rfl) ?_
 refine wq rfl rfl rfl (ov_assign rfl rfl) ?_
 refine WL.nil (then_normal (WP.seq (WP.seq (WP.region ?_))))
 refine wq rfl rfl rfl (ov_load_whole (i := 1) Tryz.isAgg24 Tryz.sizeOf24 rfl rfl rfl rfl) ?_
 obtain ⟨r1, e1, hm⟩ := bind_some hm
 refine WL.quiet (Runs.free rfl) rfl rfl (oq_con (r := (.int .i64 r1)) Tryz.call17 rfl rfl (fun w' s => ⟨_, (sequence_Check_con p_s ao1 cap1  w' H s.hold h1 hc1 hG r1 e1)⟩)) ?_
 refine wq rfl rfl rfl (ov_assign rfl rfl) ?_
 refine WL.nil (then_normal (WP.seq (WP.region ?_)))
 refine wq rfl rfl rfl (ov_move rfl rfl) ?_
 refine wq rfl rfl rfl (ov_neq rfl rfl rfl) ?_
 refine WL.nil (then_normal ?_)
 refine WP.cond rfl (fun hc3 => ?_) (fun hc3 => ?_)
 ·
  replace hm := ite_t hc3 hm
  refine WP.seq (WP.region ?_)
  refine wq rfl rfl rfl (ov_move rfl rfl) ?_
  refine wq rfl rfl rfl (ov_assign rfl rfl) ?_
  refine wq rfl rfl rfl (ov_assign rfl rfl) ?_
  refine WL.nil (then_normal (WP.ret (then_ret ?_)))
  obtain rfl := Option.some.inj hm
  refine retQ_ret Tryz.results7 (Res.tmp rfl (Res.tmp rfl Res.nil)) rfl (fun w' s => ⟨s.below, ?_⟩)
  exact ⟨none, 0, rfl, SL.nil _ _ _, Nat.le_refl _⟩
 ·
  replace hm := ite_f hc3 hm
  refine WP.skip (then_normal (WP.seq (WP.seq (WP.region ?_))))
  refine wq rfl rfl rfl (ov_load_box (i := 0) Tryz.isAgg3 rfl rfl rfl rfl) ?_
  refine wq rfl rfl rfl (ov_lss rfl rfl rfl) ?_
  refine wq rfl rfl rfl (ov_move rfl rfl) ?_
  refine WL.cut_bool 5 22 (x := ((decide (p_actuator < 0)) || (decide (p_actuator ≥ p_s.actuators)))) ?_ ?_
  ·
   rcases Bool.eq_false_or_eq_true (decide (p_actuator < 0)) with hc4 | hc4
   ·
    skip
    refine WL.idle (Idle.no rfl rfl rfl hc4) rfl rfl ?_
    refine WL.idle (Idle.no rfl rfl rfl hc4) rfl rfl ?_
    refine WL.idle (Idle.no rfl rfl rfl hc4) rfl rfl ?_
    refine WL.idle (Idle.no rfl rfl rfl hc4) rfl rfl ?_
    refine wq rfl rfl rfl (ov_pick_true rfl (guard_eq rfl hc4) rfl) ?_
    exact WL.nil ⟨Sub.cons' rfl (congrArg Value.bool (orT hc4)) (Sub.skip rfl (Sub.skip rfl (Sub.skip rfl (Sub.skip rfl (Sub.skip rfl (Sub.refl _)))))), fun _ s => s⟩
   ·
    skip
    refine WL.quiet (Runs.yes rfl rfl rfl hc4) rfl rfl (OV.quiet (ov_load_box (i := 0) Tryz.isAgg3 rfl rfl rfl rfl)) ?_
    refine WL.quiet (Runs.yes rfl rfl rfl hc4) rfl rfl (OV.quiet (ov_fieldAddr Tryz.underlying24 rfl rfl rfl Tryz.sizeOf3 rfl rfl)) ?_
    refine WL.quiet (Runs.yes rfl rfl rfl hc4) rfl rfl (OV.quiet (ov_load_box (i := 1) Tryz.isAgg3 rfl rfl rfl rfl)) ?_
    refine WL.quiet (Runs.yes rfl rfl rfl hc4) rfl rfl (OV.quiet (ov_geq rfl rfl rfl)) ?_
    refine wq rfl rfl rfl (ov_pick_false rfl (guard_eq rfl hc4) rfl) ?_
    exact WL.nil ⟨Sub.cons' rfl (congrArg Value.bool (orF hc4)) (Sub.skip rfl (Sub.skip rfl (Sub.skip rfl (Sub.skip rfl (Sub.skip rfl (Sub.refl _)))))), fun _ s => s⟩
  refine WL.nil (then_normal ?_)
  refine WP.cond rfl (fun hc5 => ?_) (fun hc5 => ?_)
  ·
   replace hm := ite_t hc5 hm
   refine WP.seq (WP.region ?_)
   refine wq rfl rfl rfl (ov_assign rfl rfl) ?_
   refine wq rfl rfl rfl (ov_assign rfl rfl) ?_
   refine WL.nil (then_normal (WP.ret (then_ret ?_)))
   obtain rfl := Option.some.inj hm
   refine retQ_ret Tryz.results7 (Res.tmp rfl (Res.tmp rfl Res.nil)) rfl (fun w' s => ⟨s.below, ?_⟩)
   exact ⟨none, 0, rfl, SL.nil _ _ _, Nat.le_refl _⟩
  ·
   replace hm := ite_f hc5 hm
   refine WP.skip (then_normal (WP.seq (WP.region ?_)))
   refine wq rfl rfl rfl (ov_assign rfl rfl) ?_
   refine WL.nil (then_normal ?_)
   obtain ⟨k1, hk1, hm⟩ := joinK_some hm
   refine WP.seq_join (fun g' S' => ∃ (l4 : (List Int)) (ao7 : Option Addr) (cap7 : Nat) (xs3 : List Value), RL H (encInt .i64) l4 xs3 ∧ Sub [(7, (.slice ao7 l4.length cap7)), (1000000007, (.bool false))] g' ∧ (∀ w', S' w' → St w H [.row 3 ((encInt .i64)).size l4.length (.slice ao7 l4.length cap7) xs3] H w') ∧ k1 l4 = some r) ?_ ?_
   ·
    skip
    refine WP.seq (WP.region ?_)
    refine wq rfl rfl rfl (ov_fieldAddr Tryz.underlying24 rfl rfl rfl Tryz.sizeOf22 rfl rfl) ?_
    refine wq rfl rfl rfl (ov_load_box (i := 1) Tryz.isAgg22 rfl rfl rfl rfl) ?_
    refine wq rfl rfl rfl (ov_len_slice Tryz.underlying22 rfl rfl) ?_
    refine wq rfl rfl rfl (ov_move rfl rfl) ?_
    refine WL.nil (then_normal (WP.block ?_))
    have rl1 := RL.nil (α := Int) H (encInt .i64)
    refine WP.weaken (fun _ s => s.nilrow 3 ((encInt .i64)).size) ?_
    refine WP.loop (fun m1 g' S' => ∃ (i1 : Int) (l1 : (List Int)) (ao3 : Option Addr) (cap3 : Nat) (xs1 : List Value), RL H (encInt .i64) l1 xs1 ∧ Sub [(3, (pB b2 0)), (7, (.slice ao3 l1.length cap3)), (24, (.slice ao1 p_s.steps.length cap1)), (25, (.int .i64 (p_s.steps.length : Int))), (26, (.int .i64 i1)), (1000000007, (.bool false))] g' ∧ (∀ w', S' w' → St w H [.row 3 ((encInt .i64)).size l1.length (.slice ao3 l1.length cap3) xs1, .blk b2 3 [(.int .i64 p_actuator)]] H w') ∧ sequence_Moves_loop1 p_s k1 p_actuator m1 i1 l1 = some r) ((Int.toNat ((p_s.steps.length : Int) - 0) + 1)) ⟨0, ([] : List Int), none, 0, [], rl1, (Sub.cons rfl (Sub.cons rfl (Sub.cons rfl (Sub.cons rfl (Sub.cons rfl (Sub.cons rfl (Sub.nil _))))))), fun w' s => (s.select [0, 1] (by decide) rfl), hm⟩ ?_ ?_
    ·
     rintro g' S' ⟨_, _, _, _, _, _, _, _, hm⟩
     exact none_some hm
    ·
     rintro m1 g' S' ⟨i1, l1, ao3, cap3, xs1, rl2, hsub1, hS1, hm⟩
     refine WP.sub hsub1 (WP.weaken hS1 ?_)
     rw [sequence_Moves_loop1] at hm
     refine WP.seq (WP.region ?_)
     refine wq rfl rfl rfl (ov_lss rfl rfl rfl) ?_
     refine WL.nil (then_normal (WP.seq ?_))
     refine WP.cond rfl (fun hc6 => ?_) (fun hc6 => ?_)
     ·
      replace hm := ite_t hc6 hm
      refine WP.skip (then_normal ?_)
      obtain ⟨k2, hk2, hm⟩ := joinK_some hm
      refine WP.seq_join (fun g' S' => ∃ (l3 : (List Int)) (ao6 : Option Addr) (cap6 : Nat) (xs2 : List Value), RL H (encInt .i64) l3 xs2 ∧ Sub [(3, (pB b2 0)), (7, (.slice ao6 l3.length cap6)), (24, (.slice ao1 p_s.steps.length cap1)), (25, (.int .i64 (p_s.steps.length : Int))), (26, (.int .i64 i1)), (1000000007, (.bool false))] g' ∧ (∀ w', S' w' → St w H [.row 3 ((encInt .i64)).size l3.length (.slice ao6 l3.length cap6) xs2, .blk b2 3 [(.int .i64 p_actuator)]] H w') ∧ k2 l3 = some r) ?_ ?_
      ·
       skip
       refine WP.block (WP.seq (WP.region ?_))
       refine wq rfl rfl rfl (ov_move rfl rfl) ?_
       obtain ⟨x1, e2, hm⟩ := bind_some hm
       obtain ⟨h4, h5, h6, cs1, h7, h8⟩ := h1.get e2 (by decide)
       obtain ⟨ao4, cap4, rfl, h3, hc7⟩ := h7
       refine wq rfl rfl rfl (ov_indexAddr Tryz.underlying22 Tryz.sizeOf51 rfl rfl rfl h4 h5 h6) ?_
       refine wq rfl rfl rfl (ov_load_elems (vs := [(.slice ao4 x1.strokes.length cap4), (.int .i64 x1.wait)]) Tryz.isAgg51 Tryz.sizeOf51 rfl rfl rfl h8 h6) ?_
       refine WL.step (Runs.free rfl) rfl rfl (os_alloc (cs := [(.slice none 0 0), (.int .i64 0)]) Tryz.zeroValue51 rfl rfl (fun b3 => ?_))
       refine wq rfl rfl rfl (ov_assign rfl rfl) ?_
       refine WL.step0 (Runs.free rfl) rfl (os_store (i := 0) (vs := [(.slice ao4 x1.strokes.length cap4), (.int .i64 x1.wait)]) (cs' := [(.slice ao4 x1.strokes.length cap4), (.int .i64 x1.wait)]) Tryz.sizeOf51 rfl rfl rfl rfl rfl rfl rfl rfl rfl ?_)
       refine WL.nil (then_normal ?_)
       obtain ⟨k3, hk3, hm⟩ := joinK_some hm
       refine WP.seq_join (fun g' S' => ∃ (c1 : Bool), Sub [(3, (pB b2 0)), (7, (.slice ao3 l1.length cap3)), (8, (.int .i64 i1)), (24, (.slice ao1 p_s.steps.length cap1)), (25, (.int .i64 (p_s.steps.length : Int))), (26, (.int .i64 i1)), (34, (.bool c1)), (1000000007, (.bool false))] g' ∧ (∀ w', S' w' → St w H [.row 3 ((encInt .i64)).size l1.length (.slice ao3 l1.length cap3) xs1, .blk b2 3 [(.int .i64 p_actuator)]] H w') ∧ k3 c1 = some r) ?_ ?_
       ·
        skip
        refine WP.region ?_
        refine wq rfl rfl rfl (ov_fieldAddr Tryz.underlying51 rfl rfl rfl Tryz.sizeOf49 rfl rfl) ?_
        refine wq rfl rfl rfl (ov_load_box (i := 0) Tryz.isAgg49 rfl rfl rfl rfl) ?_
        refine wq rfl rfl rfl (ov_makeFunc' (first := []) rfl rfl rfl) ?_
        refine WL.step (Runs.free rfl) rfl rfl (os_inline (cap := []) (vs := [(.slice ao4 x1.strokes.length cap4), (.func (.func 19) #[] #[(pB b2 0)])]) Tryz.call18 rfl rfl rfl Tryz.func18 rfl 9 Tryz.ntmps18 rfl (fun w' s => ?_))
        refine WP.seq (WP.region ?_)
        refine wq rfl rfl rfl (ov_assign rfl rfl) ?_
        refine WL.nil (then_normal (WP.seq (WP.region ?_)))
        refine wq rfl rfl rfl (ov_move rfl rfl) ?_
        refine wq rfl rfl rfl (ov_move rfl rfl) ?_
        refine WL.step (Runs.free rfl) rfl rfl (os_inline (cap := []) (vs := [(.slice ao4 x1.strokes.length cap4), (.func (.func 19) #[] #[(pB b2 0)])]) Tryz.call39 rfl rfl rfl Tryz.func39 rfl 19 Tryz.ntmps39 rfl (fun w' s => ?_))
        refine WP.seq (WP.region ?_)
        refine wq rfl rfl rfl (ov_assign rfl rfl) ?_
        refine WL.nil (then_normal ?_)
        obtain ⟨k4, hk4, hm⟩ := joinK_some hm
        refine WP.seq_join (fun g' S' => Sub [(1000000007, (.bool false))] g' ∧ (∀ w', S' w' → St w H [.blk b3 51 [(.slice ao4 x1.strokes.length cap4), (.int .i64 x1.wait)], .row 3 ((encInt .i64)).size l1.length (.slice ao3 l1.length cap3) xs1, .blk b2 3 [(.int .i64 p_actuator)]] H w') ∧ k4 = some r) ?_ ?_
        ·
         skip
         refine WP.seq (WP.region ?_)
         refine wq rfl rfl rfl (ov_move rfl rfl) ?_
         refine wq rfl rfl rfl (ov_len_slice Tryz.underlying49 rfl rfl) ?_
         refine wq rfl rfl rfl (ov_move rfl rfl) ?_
         refine WL.nil (then_normal (WP.block ?_))
         refine WP.loop (fun m2 g' S' => ∃ (i2 : Int), Sub [(0, (.slice ao4 x1.strokes.length cap4)), (1, (.func (.func 19) #[] #[(pB b2 0)])), (7, (.int .i64 (x1.strokes.length : Int))), (8, (.int .i64 i2)), (1000000007, (.bool false))] g' ∧ (∀ w', S' w' → St w H [.blk b3 51 [(.slice ao4 x1.strokes.length cap4), (.int .i64 x1.wait)], .row 3 ((encInt .i64)).size l1.length (.slice ao3 l1.length cap3) xs1, .blk b2 3 [(.int .i64 p_actuator)]] H w') ∧ sequence_Moves_loop2 p_actuator x1 k3 k4 m2 i2 = some r) ((Int.toNat ((x1.strokes.length : Int) - 0) + 1)) ⟨0, (Sub.cons rfl (Sub.cons rfl (Sub.cons rfl (Sub.cons rfl (Sub.cons rfl (Sub.nil _)))))), fun w' s => s, hm⟩ ?_ ?_
         ·
          rintro g' S' ⟨_, _, _, hm⟩
          exact none_some hm
         ·
          rintro m2 g' S' ⟨i2, hsub2, hS2, hm⟩
          refine WP.sub hsub2 (WP.weaken hS2 ?_)
          rw [sequence_Moves_loop2] at hm
          refine WP.seq (WP.region ?_)
          refine wq rfl rfl rfl (ov_lss rfl rfl rfl) ?_
          refine WL.nil (then_normal (WP.seq ?_))
          refine WP.cond rfl (fun hc8 => ?_) (fun hc8 => ?_)
          ·
           replace hm := ite_t hc8 hm
           refine WP.skip (then_normal (WP.seq (WP.block (WP.seq (WP.region ?_)))))
           refine wq rfl rfl rfl (ov_move rfl rfl) ?_
           refine wq rfl rfl rfl (ov_assign rfl rfl) ?_
           refine WL.nil (then_normal (WP.seq (WP.region ?_)))
           refine wq rfl rfl rfl (ov_move rfl rfl) ?_
           refine wq rfl rfl rfl (ov_move rfl rfl) ?_
           refine wq rfl rfl rfl (ov_move rfl rfl) ?_
           obtain ⟨x2, e3, hm⟩ := bind_some hm
           obtain ⟨h9, h10, h11, cs2, h12, h13⟩ := h3.get e3 (by decide)
           obtain rfl : cs2 = [(.int .i64 x2.actuator), (.bool x2.out)] := h12
           refine wq rfl rfl rfl (ov_indexAddr Tryz.underlying49 Tryz.sizeOf60 rfl rfl rfl h9 h10 h11) ?_
           refine wq rfl rfl rfl (ov_load_elems (vs := [(.int .i64 x2.actuator), (.bool x2.out)]) Tryz.isAgg60 Tryz.sizeOf60 rfl rfl rfl h13 h11) ?_
           refine WL.step (Runs.free rfl) rfl rfl (os_inline (cap := [(pB b2 0)]) (vs := [(.agg #[(.int .i64 x2.actuator), (.bool x2.out)])]) Tryz.call19 rfl rfl rfl Tryz.func19 rfl 8 Tryz.ntmps19 rfl (fun w' s => ?_))
           refine WP.seq (WP.region ?_)
           refine WL.step (Runs.free rfl) rfl rfl (os_box (cs := [(.int .i64 x2.actuator), (.bool x2.out)]) rfl rfl rfl (fun b4 => ?_))
           refine wq rfl rfl rfl (ov_assign rfl rfl) ?_
           refine WL.nil (then_normal (WP.seq (WP.region ?_)))
           refine wq rfl rfl rfl (ov_fieldAddr Tryz.underlying60 rfl rfl rfl Tryz.sizeOf3 rfl rfl) ?_
           refine wq rfl rfl rfl (ov_load_box (i := 0) Tryz.isAgg3 rfl rfl rfl rfl) ?_
           refine wq rfl rfl rfl (ov_load_box (i := 3) Tryz.isAgg3 rfl rfl rfl rfl) ?_
           refine wq rfl rfl rfl (ov_eql rfl rfl rfl) ?_
           refine wq rfl rfl rfl (ov_assign rfl rfl) ?_
           refine WL.nil (then_normal (WP.ret ?_))
           refine retQ_ret (v := (.bool (x2.actuator == p_actuator))) Tryz.results19 (Res.tmp rfl Res.nil) rfl (fun w' s => ⟨_, ?_, s⟩)
           refine WL.nil (then_normal ?_)
           refine WP.cond rfl (fun hc9 => ?_) (fun hc9 => ?_)
           ·
            replace hm := ite_t hc9 hm
            refine WP.seq (WP.region ?_)
            refine wq rfl rfl rfl (ov_move rfl rfl) ?_
            refine wq rfl rfl rfl (ov_assign rfl rfl) ?_
            refine WL.nil (then_normal (WP.ret (block_ret (then_ret (then_ret (block_ret (then_ret ?_)))))))
            refine retQ_ret (v := (.int .i64 i2)) Tryz.results39 (Res.tmp rfl Res.nil) rfl (fun w' s => ⟨_, ?_, s⟩)
            refine wq rfl rfl rfl (ov_geq rfl rfl rfl) ?_
            refine wq rfl rfl rfl (ov_assign rfl rfl) ?_
            refine WL.nil (then_normal (WP.ret ?_))
            refine retQ_ret (v := (.bool (decide (i2 ≥ 0)))) Tryz.results18 (Res.tmp rfl Res.nil) rfl (fun w' s => ⟨_, ?_, s⟩)
            refine WL.nil (then_normal ?_)
            exact ⟨(decide (i2 ≥ 0)), (Sub.cons rfl (Sub.cons rfl (Sub.cons rfl (Sub.cons rfl (Sub.cons rfl (Sub.cons rfl (Sub.cons rfl (Sub.cons rfl (Sub.nil _))))))))), fun w' s => (s.select [2, 3] (by decide) rfl), hm⟩
           ·
            replace hm := ite_f hc9 hm
            refine WP.skip (block_normal (then_normal (WP.region ?_)))
            refine wq rfl rfl rfl (ov_add rfl rfl rfl) ?_
            refine wq rfl rfl rfl (ov_move rfl rfl) ?_
            refine WL.nil (then_normal ?_)
            exact ⟨(IntKind.wrap .i64 (i2 + 1)), (Sub.cons rfl (Sub.cons rfl (Sub.cons rfl (Sub.cons rfl (Sub.cons rfl (Sub.nil _)))))), fun w' s => (s.select [1, 2, 3] (by decide) rfl), hm⟩
          ·
           replace hm := ite_f hc8 hm
           refine WP.exit (then_exit (then_exit (block_here (then_normal ?_))))
           exact ⟨(Sub.cons rfl (Sub.nil _)), fun w' s => s, hm⟩
        ·
         rintro g' S' ⟨hsub3, hS3, hm⟩
         refine WP.sub hsub3 (WP.weaken hS3 ?_)
         replace hm := hk4.symm.trans hm
         refine WP.seq (WP.region ?_)
         refine wq rfl rfl rfl (ov_assign rfl rfl) ?_
         refine WL.nil (then_normal (WP.ret ?_))
         refine retQ_ret (v := (.int .i64 (-1))) Tryz.results39 (Res.tmp rfl Res.nil) rfl (fun w' s => ⟨_, ?_, s⟩)
         refine wq rfl rfl rfl (ov_geq rfl rfl rfl) ?_
         refine wq rfl rfl rfl (ov_assign rfl rfl) ?_
         refine WL.nil (then_normal (WP.ret ?_))
         refine retQ_ret (v := (.bool (decide (((-1) : Int) ≥ 0)))) Tryz.results18 (Res.tmp rfl Res.nil) rfl (fun w' s => ⟨_, ?_, s⟩)
         refine WL.nil (then_normal ?_)
         exact ⟨(decide (((-1) : Int) ≥ 0)), (Sub.cons rfl (Sub.cons rfl (Sub.cons rfl (Sub.cons rfl (Sub.cons rfl (Sub.cons rfl (Sub.cons rfl (Sub.cons rfl (Sub.nil _))))))))), fun w' s => (s.select [1, 2] (by decide) rfl), hm⟩
       ·
        rintro g' S' ⟨c1, hsub4, hS4, hm⟩
        refine WP.sub hsub4 (WP.weaken hS4 ?_)
        replace hm := (congrFun hk3 c1).symm.trans hm
        refine WP.cond rfl (fun hc10 => ?_) (fun hc10 => ?_)
        ·
         replace hm := ite_t hc10 hm
         refine WP.region ?_
         refine wq rfl rfl rfl (ov_move rfl rfl) ?_
         refine wq rfl rfl rfl (ov_move rfl rfl) ?_
         have rl3 : RL H (encInt .i64) ([i1] : List Int) [(.int .i64 i1)] := RL.cons (cs := [(.int .i64 i1)]) (xs := []) rfl (RL.nil _ _)
         refine WL.step (Runs.free rfl) rfl rfl (os_buildSlice (cs := [(.int .i64 i1)]) (E := 3) (sz := 1) rfl rfl (fun _ => by kernel_rfl) rfl (by decide) (fun b5 => ?_))
         obtain ⟨l2, e4, hm⟩ := bind_some hm
         refine WL.step (Runs.free rfl) rfl rfl (os_app (i := 1) (j := 0) (En := (encInt .i64)) (xs := xs1) (ys := [(.int .i64 i1)]) Tryz.underlying29 (by kernel_rfl : (Tryz.prog.info? 3).map (fun i => (i.zero, i.size, i.bytes)) = some (some (.int .i64 0), ((encInt .i64)).size, 8)) rfl (by decide) rfl rfl rfl rfl rfl rfl rl2 rl3 e4 (fun ao5 cap5 rl4 => ?_))
         refine wq rfl rfl rfl (ov_assign rfl rfl) ?_
         refine WL.nil (block_normal (then_normal ?_))
         exact ⟨(l1 ++ ([i1] : List Int)), ao5, cap5, (xs1 ++ [(.int .i64 i1)]), rl4, (Sub.cons rfl (Sub.cons rfl (Sub.cons rfl (Sub.cons rfl (Sub.cons rfl (Sub.cons rfl (Sub.nil _))))))), fun w' s => (s.select [1, 2] (by decide) rfl), hm⟩
        ·
         replace hm := ite_f hc10 hm
         refine WP.skip (block_normal (then_normal ?_))
         exact ⟨l1, ao3, cap3, xs1, rl2, (Sub.cons rfl (Sub.cons rfl (Sub.cons rfl (Sub.cons rfl (Sub.cons rfl (Sub.cons rfl (Sub.nil _))))))), fun w' s => s, hm⟩
      ·
       rintro g' S' ⟨l3, ao6, cap6, xs2, rl5, hsub5, hS5, hm⟩
       refine WP.sub hsub5 (WP.weaken hS5 ?_)
       replace hm := (congrFun hk2 l3).symm.trans hm
       refine WP.region ?_
       refine wq rfl rfl rfl (ov_add rfl rfl rfl) ?_
       refine wq rfl rfl rfl (ov_move rfl rfl) ?_
       refine WL.nil (then_normal ?_)
       exact ⟨(IntKind.wrap .i64 (i1 + 1)), l3, ao6, cap6, xs2, rl5, (Sub.cons rfl (Sub.cons rfl (Sub.cons rfl (Sub.cons rfl (Sub.cons rfl (Sub.cons rfl (Sub.nil _))))))), fun w' s => s, hm⟩
     ·
      replace hm := ite_f hc6 hm
      refine WP.exit (then_exit (then_exit (block_here (then_normal ?_))))
      exact ⟨l1, ao3, cap3, xs1, rl2, (Sub.cons rfl (Sub.cons rfl (Sub.nil _))), fun w' s => (s.select [0] (by decide) rfl), hm⟩
   ·
    rintro g' S' ⟨l4, ao7, cap7, xs3, rl6, hsub6, hS6, hm⟩
    refine WP.sub hsub6 (WP.weaken hS6 ?_)
    replace hm := (congrFun hk1 l4).symm.trans hm
    refine WP.seq (WP.region ?_)
    refine wq rfl rfl rfl (ov_move rfl rfl) ?_
    refine wq rfl rfl rfl (ov_assign rfl rfl) ?_
    refine wq rfl rfl rfl (ov_assign rfl rfl) ?_
    refine WL.nil (then_normal (WP.ret ?_))
    obtain rfl := Option.some.inj hm
    refine retQ_ret Tryz.results7 (Res.tmp rfl (Res.tmp rfl Res.nil)) rfl (fun w' s => ⟨s.below, ?_⟩)
    obtain ⟨h14, hc11⟩ := s.ret_row (i := 0) rfl rl6
    exact ⟨ao7, cap7, rfl, h14, hc11⟩

end Go.Proofs.YtcgmhlakihjbkaaGreatDoor.W
