/- The walks. Written by our own program gen.py; Lean checks it. -/
import Derived.Test.YtbhcojijafbdiaaGreatDoorPlain
import Derived.Test.YtbhcojijafbdiaaGreatDoorEqs
import Derived.Test.YtbhcojijafbdiaaGreatDoorProg
import Derived.Test.YtbhcojijafbdiaaGreatDoorExt
import Derived.Test.YtbhcojijafbdiaaGreatDoorClone
import Derived.Test.YtbhcojijafbdiaaGreatDoorCloneS
import Derived.Test.YtbhcojijafbdiaaGreatDoorWalk0
set_option linter.unusedVariables false
set_option maxRecDepth 100000
set_option maxHeartbeats 4000000
namespace Go.Proofs.YtbhcojijafbdiaaGreatDoor.W
open Go Go.RowKit
theorem stroke_known_con (p_n : Int) (w : World) (H : Heap) (hH : Le H (hp w)) (hG : Glob H) (r : Bool) (hm : stroke_known p_n = some r) :
  Con Tryz.prog 74 [(.int .i64 p_n)] w H (fun v _ => v = (.bool r)) := by
 unfold stroke_known at hm
 refine con_of hH Tryz.func74 rfl 9 Tryz.ntmps74 rfl ?_
 refine WP.seq (WP.region ?_)
 refine wq rfl rfl rfl (ov_assign rfl rfl) ?_
 refine WL.nil (then_normal (WP.seq (WP.region ?_)))
 refine wq rfl rfl rfl (ov_move rfl rfl) ?_
 refine wq rfl rfl rfl (ov_geq rfl rfl rfl) ?_
 refine wq rfl rfl rfl (ov_move rfl rfl) ?_
 refine WL.cut_bool 3 8 (x := ((decide (p_n ≥ 0)) && (decide (p_n < 6)))) ?_ ?_
 ·
  rcases Bool.eq_false_or_eq_true (decide (p_n ≥ 0)) with hc1 | hc1
  ·
   skip
   refine WL.quiet (Runs.yes rfl rfl rfl hc1) rfl rfl (OV.quiet (ov_move rfl rfl)) ?_
   refine WL.quiet (Runs.yes rfl rfl rfl hc1) rfl rfl (OV.quiet (ov_lss rfl rfl rfl)) ?_
   refine wq rfl rfl rfl (ov_pick_true rfl (guard_eq rfl hc1) rfl) ?_
   exact WL.nil ⟨Sub.cons' rfl (congrArg Value.bool (andT hc1)) (Sub.skip rfl (Sub.skip rfl (Sub.skip rfl (Sub.refl _)))), fun _ s => s⟩
  ·
   skip
   refine WL.idle (Idle.no rfl rfl rfl hc1) rfl rfl ?_
   refine WL.idle (Idle.no rfl rfl rfl hc1) rfl rfl ?_
   refine wq rfl rfl rfl (ov_pick_false rfl (guard_eq rfl hc1) rfl) ?_
   exact WL.nil ⟨Sub.cons' rfl (congrArg Value.bool (andF hc1)) (Sub.skip rfl (Sub.skip rfl (Sub.skip rfl (Sub.refl _)))), fun _ s => s⟩
 refine wq rfl rfl rfl (ov_assign rfl rfl) ?_
 refine WL.nil (then_normal (WP.ret ?_))
 obtain rfl := Option.some.inj hm
 refine retQ_ret Tryz.results74 (Res.tmp rfl Res.nil) rfl (fun w' s => ⟨s.below, ?_⟩)
 exact rfl

theorem stroke_CheckStep_con (p_x : Step) (ao1 : Option Addr) (cap1 : Nat) (w : World) (H : Heap) (hH : Le H (hp w)) (h1 : SL H encStroke ao1 p_x.strokes) (hc1 : p_x.strokes.length ≤ cap1) (hG : Glob H) (r : Int) (hm : stroke_CheckStep p_x = some r) :
  Con Tryz.prog 73 [(.agg #[(.slice ao1 p_x.strokes.length cap1), (.int .i64 p_x.wait)])] w H (fun v _ => v = (.int .i64 r)) := by
 unfold stroke_CheckStep at hm
 refine con_of hH Tryz.func73 rfl 49 Tryz.ntmps73 rfl ?_
 refine WP.seq (WP.region ?_)
 refine WL.step (Runs.free rfl) rfl rfl (os_box (cs := [(.slice ao1 p_x.strokes.length cap1), (.int .i64 p_x.wait)]) rfl rfl rfl (fun b1 => ?_))
 refine wq rfl rfl rfl (ov_assign rfl rfl) ?_
 refine WL.nil (then_normal (WP.seq (WP.seq (WP.region ?_))))
 refine wq rfl rfl rfl (ov_fieldAddr Tryz.underlying37 rfl rfl rfl Tryz.sizeOf25 rfl rfl) ?_
 refine wq rfl rfl rfl (ov_load_box (i := 0) Tryz.isAgg25 rfl rfl rfl rfl) ?_
 refine wq rfl rfl rfl (ov_len_slice Tryz.underlying25 rfl rfl) ?_
 refine wq rfl rfl rfl (ov_assign rfl rfl) ?_
 refine WL.nil (then_normal (WP.block (WP.seq (WP.region ?_))))
 refine wq rfl rfl rfl (ov_move rfl rfl) ?_
 refine wq rfl rfl rfl (ov_eql rfl rfl rfl) ?_
 refine wq rfl rfl rfl (ov_assign rfl rfl) ?_
 refine WL.nil (then_normal ?_)
 refine WP.cond rfl (fun hc2 => ?_) (fun hc2 => ?_)
 ·
  replace hm := ite_t hc2 hm
  refine WP.seq (WP.region ?_)
  refine wq rfl rfl rfl (ov_assign rfl rfl) ?_
  refine WL.nil (then_normal (WP.ret (block_ret (then_ret ?_))))
  obtain rfl := Option.some.inj hm
  refine retQ_ret Tryz.results73 (Res.tmp rfl Res.nil) rfl (fun w' s => ⟨s.below, ?_⟩)
  exact rfl
 ·
  replace hm := ite_f hc2 hm
  refine WP.seq (WP.region ?_)
  refine wq rfl rfl rfl (ov_move rfl rfl) ?_
  refine wq rfl rfl rfl (ov_gtr rfl rfl rfl) ?_
  refine wq rfl rfl rfl (ov_assign rfl rfl) ?_
  refine WL.nil (then_normal ?_)
  refine WP.cond rfl (fun hc3 => ?_) (fun hc3 => ?_)
  ·
   replace hm := ite_t hc3 hm
   refine WP.seq (WP.region ?_)
   refine wq rfl rfl rfl (ov_assign rfl rfl) ?_
   refine WL.nil (then_normal (WP.ret (block_ret (then_ret ?_))))
   obtain rfl := Option.some.inj hm
   refine retQ_ret Tryz.results73 (Res.tmp rfl Res.nil) rfl (fun w' s => ⟨s.below, ?_⟩)
   exact rfl
  ·
   replace hm := ite_f hc3 hm
   refine WP.skip (block_normal (then_normal (WP.seq (WP.region ?_))))
   refine wq rfl rfl rfl (ov_assign rfl rfl) ?_
   refine WL.nil (then_normal ?_)
   obtain ⟨k1, hk1, hm⟩ := joinK_some hm
   refine WP.seq_join (fun g' S' => Sub [(1, (pB b1 0)), (1000000007, (.bool false))] g' ∧ (∀ w', S' w' → St w H [.blk b1 37 [(.slice ao1 p_x.strokes.length cap1), (.int .i64 p_x.wait)]] H w') ∧ k1 = some r) ?_ ?_
   ·
    skip
    refine WP.seq (WP.region ?_)
    refine wq rfl rfl rfl (ov_fieldAddr Tryz.underlying37 rfl rfl rfl Tryz.sizeOf25 rfl rfl) ?_
    refine wq rfl rfl rfl (ov_load_box (i := 0) Tryz.isAgg25 rfl rfl rfl rfl) ?_
    refine wq rfl rfl rfl (ov_len_slice Tryz.underlying25 rfl rfl) ?_
    refine wq rfl rfl rfl (ov_move rfl rfl) ?_
    refine WL.nil (then_normal (WP.block ?_))
    refine WP.loop (fun m1 g' S' => ∃ (i1 : Int) (i2 : Int), Sub [(1, (pB b1 0)), (4, (.int .i64 i1)), (17, (.slice ao1 p_x.strokes.length cap1)), (18, (.int .i64 (p_x.strokes.length : Int))), (19, (.int .i64 i2)), (1000000007, (.bool false))] g' ∧ (∀ w', S' w' → St w H [.blk b1 37 [(.slice ao1 p_x.strokes.length cap1), (.int .i64 p_x.wait)]] H w') ∧ stroke_CheckStep_loop1 p_x k1 m1 i1 i2 = some r) ((Int.toNat ((p_x.strokes.length : Int) - 0) + 1)) ⟨(-1), 0, (Sub.cons rfl (Sub.cons rfl (Sub.cons rfl (Sub.cons rfl (Sub.cons rfl (Sub.cons rfl (Sub.nil _))))))), fun w' s => s, hm⟩ ?_ ?_
    ·
     rintro g' S' ⟨_, _, _, _, hm⟩
     exact none_some hm
    ·
     rintro m1 g' S' ⟨i1, i2, hsub1, hS1, hm⟩
     refine WP.sub hsub1 (WP.weaken hS1 ?_)
     rw [stroke_CheckStep_loop1] at hm
     refine WP.seq (WP.region ?_)
     refine wq rfl rfl rfl (ov_lss rfl rfl rfl) ?_
     refine WL.nil (then_normal (WP.seq ?_))
     refine WP.cond rfl (fun hc4 => ?_) (fun hc4 => ?_)
     ·
      replace hm := ite_t hc4 hm
      refine WP.skip (then_normal (WP.seq (WP.block (WP.seq (WP.region ?_)))))
      obtain ⟨x1, e1, hm⟩ := bind_some hm
      obtain ⟨h2, h3, h4, cs1, h5, h6⟩ := h1.get e1 (by decide)
      obtain rfl : cs1 = [(.int .i64 x1.actuator), (.bool x1.out)] := h5
      refine wq rfl rfl rfl (ov_indexAddr Tryz.underlying25 Tryz.sizeOf40 rfl rfl rfl h2 h3 h4) ?_
      refine wq rfl rfl rfl (ov_load_elems (vs := [(.int .i64 x1.actuator), (.bool x1.out)]) Tryz.isAgg40 Tryz.sizeOf40 rfl rfl rfl h6 h4) ?_
      refine WL.step (Runs.free rfl) rfl rfl (os_alloc (cs := [(.int .i64 0), (.bool false)]) Tryz.zeroValue40 rfl rfl (fun b2 => ?_))
      refine WL.step0 (Runs.free rfl) rfl (os_store (i := 0) (vs := [(.int .i64 x1.actuator), (.bool x1.out)]) (cs' := [(.int .i64 x1.actuator), (.bool x1.out)]) Tryz.sizeOf40 rfl rfl rfl rfl rfl rfl rfl rfl rfl ?_)
      refine WL.nil (then_normal (WP.seq (WP.block (WP.seq (WP.region ?_)))))
      refine wq rfl rfl rfl (ov_fieldAddr Tryz.underlying40 rfl rfl rfl Tryz.sizeOf3 rfl rfl) ?_
      refine wq rfl rfl rfl (ov_load_box (i := 0) Tryz.isAgg3 rfl rfl rfl rfl) ?_
      obtain ⟨r1, e2, hm⟩ := bind_some hm
      refine WL.quiet (Runs.free rfl) rfl rfl (oq_con (r := (.bool r1)) Tryz.call74 rfl rfl (fun w' s => ⟨_, (stroke_known_con x1.actuator  w' H s.hold hG r1 e2)⟩)) ?_
      refine wq rfl rfl rfl (ov_not rfl rfl) ?_
      refine wq rfl rfl rfl (ov_assign rfl rfl) ?_
      refine WL.nil (then_normal ?_)
      refine WP.cond rfl (fun hc5 => ?_) (fun hc5 => ?_)
      ·
       replace hm := ite_t hc5 hm
       refine WP.seq (WP.region ?_)
       refine wq rfl rfl rfl (ov_assign rfl rfl) ?_
       refine WL.nil (then_normal (WP.ret (block_ret (then_ret (block_ret (then_ret (then_ret (block_ret (then_ret ?_)))))))))
       obtain rfl := Option.some.inj hm
       refine retQ_ret Tryz.results73 (Res.tmp rfl Res.nil) rfl (fun w' s => ⟨s.below, ?_⟩)
       exact rfl
      ·
       replace hm := ite_f hc5 hm
       refine WP.seq (WP.region ?_)
       refine wq rfl rfl rfl (ov_fieldAddr Tryz.underlying40 rfl rfl rfl Tryz.sizeOf3 rfl rfl) ?_
       refine wq rfl rfl rfl (ov_load_box (i := 0) Tryz.isAgg3 rfl rfl rfl rfl) ?_
       refine wq rfl rfl rfl (ov_move rfl rfl) ?_
       refine wq rfl rfl rfl (ov_eql rfl rfl rfl) ?_
       refine wq rfl rfl rfl (ov_assign rfl rfl) ?_
       refine WL.nil (then_normal ?_)
       refine WP.cond rfl (fun hc6 => ?_) (fun hc6 => ?_)
       ·
        replace hm := ite_t hc6 hm
        refine WP.seq (WP.region ?_)
        refine wq rfl rfl rfl (ov_assign rfl rfl) ?_
        refine WL.nil (then_normal (WP.ret (block_ret (then_ret (block_ret (then_ret (then_ret (block_ret (then_ret ?_)))))))))
        obtain rfl := Option.some.inj hm
        refine retQ_ret Tryz.results73 (Res.tmp rfl Res.nil) rfl (fun w' s => ⟨s.below, ?_⟩)
        exact rfl
       ·
        replace hm := ite_f hc6 hm
        refine WP.seq (WP.region ?_)
        refine wq rfl rfl rfl (ov_fieldAddr Tryz.underlying40 rfl rfl rfl Tryz.sizeOf3 rfl rfl) ?_
        refine wq rfl rfl rfl (ov_load_box (i := 0) Tryz.isAgg3 rfl rfl rfl rfl) ?_
        refine wq rfl rfl rfl (ov_move rfl rfl) ?_
        refine wq rfl rfl rfl (ov_lss rfl rfl rfl) ?_
        refine wq rfl rfl rfl (ov_assign rfl rfl) ?_
        refine WL.nil (then_normal ?_)
        refine WP.cond rfl (fun hc7 => ?_) (fun hc7 => ?_)
        ·
         replace hm := ite_t hc7 hm
         refine WP.seq (WP.region ?_)
         refine wq rfl rfl rfl (ov_assign rfl rfl) ?_
         refine WL.nil (then_normal (WP.ret (block_ret (then_ret (block_ret (then_ret (then_ret (block_ret (then_ret ?_)))))))))
         obtain rfl := Option.some.inj hm
         refine retQ_ret Tryz.results73 (Res.tmp rfl Res.nil) rfl (fun w' s => ⟨s.below, ?_⟩)
         exact rfl
        ·
         replace hm := ite_f hc7 hm
         refine WP.skip (block_normal (then_normal (WP.region ?_)))
         refine wq rfl rfl rfl (ov_fieldAddr Tryz.underlying40 rfl rfl rfl Tryz.sizeOf3 rfl rfl) ?_
         refine wq rfl rfl rfl (ov_load_box (i := 0) Tryz.isAgg3 rfl rfl rfl rfl) ?_
         refine wq rfl rfl rfl (ov_assign rfl rfl) ?_
         refine WL.nil (block_normal (then_normal (WP.region ?_)))
         refine wq rfl rfl rfl (ov_add rfl rfl rfl) ?_
         refine wq rfl rfl rfl (ov_move rfl rfl) ?_
         refine WL.nil (then_normal ?_)
         exact ⟨x1.actuator, (IntKind.wrap .i64 (i2 + 1)), (Sub.cons rfl (Sub.cons rfl (Sub.cons rfl (Sub.cons rfl (Sub.cons rfl (Sub.cons rfl (Sub.nil _))))))), fun w' s => (s.select [1] (by decide) rfl), hm⟩
     ·
      replace hm := ite_f hc4 hm
      refine WP.exit (then_exit (then_exit (block_here (then_normal ?_))))
      exact ⟨(Sub.cons rfl (Sub.cons rfl (Sub.nil _))), fun w' s => s, hm⟩
   ·
    rintro g' S' ⟨hsub2, hS2, hm⟩
    refine WP.sub hsub2 (WP.weaken hS2 ?_)
    replace hm := hk1.symm.trans hm
    refine WP.seq (WP.seq (WP.region ?_))
    refine wq rfl rfl rfl (ov_fieldAddr Tryz.underlying37 rfl rfl rfl Tryz.sizeOf3 rfl rfl) ?_
    refine wq rfl rfl rfl (ov_load_box (i := 0) Tryz.isAgg3 rfl rfl rfl rfl) ?_
    refine wq rfl rfl rfl (ov_lss rfl rfl rfl) ?_
    refine wq rfl rfl rfl (ov_move rfl rfl) ?_
    refine WL.cut_bool 4 48 (x := ((decide (p_x.wait < 0)) || (decide (p_x.wait > 1000000)))) ?_ ?_
    ·
     rcases Bool.eq_false_or_eq_true (decide (p_x.wait < 0)) with hc8 | hc8
     ·
      skip
      refine WL.idle (Idle.no rfl rfl rfl hc8) rfl rfl ?_
      refine WL.idle (Idle.no rfl rfl rfl hc8) rfl rfl ?_
      refine WL.idle (Idle.no rfl rfl rfl hc8) rfl rfl ?_
      refine wq rfl rfl rfl (ov_pick_true rfl (guard_eq rfl hc8) rfl) ?_
      exact WL.nil ⟨Sub.cons' rfl (congrArg Value.bool (orT hc8)) (Sub.skip rfl (Sub.skip rfl (Sub.skip rfl (Sub.skip rfl (Sub.refl _))))), fun _ s => s⟩
     ·
      skip
      refine WL.quiet (Runs.yes rfl rfl rfl hc8) rfl rfl (OV.quiet (ov_fieldAddr Tryz.underlying37 rfl rfl rfl Tryz.sizeOf3 rfl rfl)) ?_
      refine WL.quiet (Runs.yes rfl rfl rfl hc8) rfl rfl (OV.quiet (ov_load_box (i := 0) Tryz.isAgg3 rfl rfl rfl rfl)) ?_
      refine WL.quiet (Runs.yes rfl rfl rfl hc8) rfl rfl (OV.quiet (ov_gtr rfl rfl rfl)) ?_
      refine wq rfl rfl rfl (ov_pick_false rfl (guard_eq rfl hc8) rfl) ?_
      exact WL.nil ⟨Sub.cons' rfl (congrArg Value.bool (orF hc8)) (Sub.skip rfl (Sub.skip rfl (Sub.skip rfl (Sub.skip rfl (Sub.refl _))))), fun _ s => s⟩
    refine WL.nil (then_normal ?_)
    refine WP.cond rfl (fun hc9 => ?_) (fun hc9 => ?_)
    ·
     replace hm := ite_t hc9 hm
     refine WP.seq (WP.region ?_)
     refine wq rfl rfl rfl (ov_assign rfl rfl) ?_
     refine WL.nil (then_normal (WP.ret (then_ret ?_)))
     obtain rfl := Option.some.inj hm
     refine retQ_ret Tryz.results73 (Res.tmp rfl Res.nil) rfl (fun w' s => ⟨s.below, ?_⟩)
     exact rfl
    ·
     replace hm := ite_f hc9 hm
     refine WP.skip (then_normal (WP.seq (WP.region ?_)))
     refine wq rfl rfl rfl (ov_assign rfl rfl) ?_
     refine WL.nil (then_normal (WP.ret ?_))
     obtain rfl := Option.some.inj hm
     refine retQ_ret Tryz.results73 (Res.tmp rfl Res.nil) rfl (fun w' s => ⟨s.below, ?_⟩)
     exact rfl

theorem stroke_written_con (p_x : Stroke) (w : World) (H : Heap) (hH : Le H (hp w)) (hG : Glob H) (r : (List UInt8)) (hm : stroke_written p_x = some r) :
  Con Tryz.prog 91 [(.agg #[(.int .i64 p_x.actuator), (.bool p_x.out)])] w H (fun v _ => v = (mkS r)) := by
 unfold stroke_written at hm
 refine con_of hH Tryz.func91 rfl 15 Tryz.ntmps91 rfl ?_
 refine WP.seq (WP.region ?_)
 refine WL.step (Runs.free rfl) rfl rfl (os_box (cs := [(.int .i64 p_x.actuator), (.bool p_x.out)]) rfl rfl rfl (fun b1 => ?_))
 refine wq rfl rfl rfl (ov_assign rfl rfl) ?_
 refine WL.nil (then_normal (WP.seq (WP.region ?_)))
 refine wq rfl rfl rfl (ov_fieldAddr Tryz.underlying40 rfl rfl rfl Tryz.sizeOf3 rfl rfl) ?_
 refine wq rfl rfl rfl (ov_load_box (i := 0) Tryz.isAgg3 rfl rfl rfl rfl) ?_
 refine wq rfl rfl rfl (ov_add rfl rfl rfl) ?_
 refine wq rfl rfl rfl (ov_convert_int Tryz.underlying3 Tryz.underlying21 rfl rfl) ?_
 refine wq rfl rfl rfl (ov_convert_rune' Tryz.underlying21 Tryz.underlying9 rfl rfl) ?_
 refine wq rfl rfl rfl (ov_assign rfl rfl) ?_
 refine WL.nil (then_normal (WP.seq (WP.seq (WP.region ?_))))
 refine wq rfl rfl rfl (ov_fieldAddr Tryz.underlying40 rfl rfl rfl Tryz.sizeOf4 rfl rfl) ?_
 refine wq rfl rfl rfl (ov_load_box (i := 0) Tryz.isAgg4 rfl rfl rfl rfl) ?_
 refine WL.nil (then_normal ?_)
 refine WP.cond rfl (fun hc1 => ?_) (fun hc1 => ?_)
 ·
  replace hm := ite_t hc1 hm
  refine WP.seq (WP.region ?_)
  refine wq rfl rfl rfl (ov_move rfl rfl) ?_
  obtain ⟨s1, e1, hm⟩ := bind_some hm
  refine wq rfl rfl rfl (ov_sadd' e1 rfl rfl rfl) ?_
  refine wq rfl rfl rfl (ov_assign rfl rfl) ?_
  refine WL.nil (then_normal (WP.ret (then_ret ?_)))
  obtain rfl := Option.some.inj hm
  refine retQ_ret Tryz.results91 (Res.tmp rfl Res.nil) rfl (fun w' s => ⟨s.below, ?_⟩)
  exact rfl
 ·
  replace hm := ite_f hc1 hm
  refine WP.skip (then_normal (WP.seq (WP.region ?_)))
  refine wq rfl rfl rfl (ov_move rfl rfl) ?_
  obtain ⟨s2, e2, hm⟩ := bind_some hm
  refine wq rfl rfl rfl (ov_sadd' e2 rfl rfl rfl) ?_
  refine wq rfl rfl rfl (ov_assign rfl rfl) ?_
  refine WL.nil (then_normal (WP.ret ?_))
  obtain rfl := Option.some.inj hm
  refine retQ_ret Tryz.results91 (Res.tmp rfl Res.nil) rfl (fun w' s => ⟨s.below, ?_⟩)
  exact rfl

theorem stroke_Format_con (p_l : (List Step)) (ao1 : Option Addr) (cap1 : Nat) (w : World) (H : Heap) (hH : Le H (hp w)) (h1 : SL H encStep ao1 p_l) (hc1 : p_l.length ≤ cap1) (hG : Glob H) (r : ((List UInt8) × Int)) (hm : stroke_Format p_l = some r) :
  Con Tryz.prog 75 [(.slice ao1 p_l.length cap1)] w H (fun v _ => v = (.tuple #[(mkS r.1), (.int .i64 r.2)])) := by
 unfold stroke_Format at hm
 refine con_of hH Tryz.func75 rfl 55 Tryz.ntmps75 rfl ?_
 refine WP.seq (WP.region ?_)
 refine wq rfl rfl rfl (ov_assign rfl rfl) ?_
 refine wq rfl rfl rfl (ov_assign rfl rfl) ?_
 refine WL.nil (then_normal (WP.seq (WP.seq (WP.region ?_))))
 refine wq rfl rfl rfl (ov_move rfl rfl) ?_
 refine wq rfl rfl rfl (ov_len_slice Tryz.underlying22 rfl rfl) ?_
 refine wq rfl rfl rfl (ov_gtr rfl rfl rfl) ?_
 refine WL.nil (then_normal ?_)
 refine WP.cond rfl (fun hc2 => ?_) (fun hc2 => ?_)
 ·
  replace hm := ite_t hc2 hm
  refine WP.seq (WP.region ?_)
  refine wq rfl rfl rfl (ov_assign rfl rfl) ?_
  refine wq rfl rfl rfl (ov_assign rfl rfl) ?_
  refine WL.nil (then_normal (WP.ret (then_ret ?_)))
  obtain rfl := Option.some.inj hm
  refine retQ_ret Tryz.results75 (Res.tmp rfl (Res.tmp rfl Res.nil)) rfl (fun w' s => ⟨s.below, ?_⟩)
  exact rfl
 ·
  replace hm := ite_f hc2 hm
  refine WP.skip (then_normal (WP.seq (WP.region ?_)))
  refine wq rfl rfl rfl (ov_assign rfl rfl) ?_
  refine WL.nil (then_normal ?_)
  obtain ⟨k1, hk1, hm⟩ := joinK_some hm
  refine WP.seq_join (fun g' S' => ∃ (l9 : (List (List UInt8))) (ao11 : Option Addr) (cap11 : Nat) (xs6 : List Value), RL H encStr l9 xs6 ∧ Sub [(4, (.slice ao11 l9.length cap11)), (1000000007, (.bool false))] g' ∧ (∀ w', S' w' → St w H [.row 9 (encStr).size l9.length (.slice ao11 l9.length cap11) xs6] H w') ∧ k1 l9 = some r) ?_ ?_
  ·
   skip
   refine WP.seq (WP.region ?_)
   refine wq rfl rfl rfl (ov_move rfl rfl) ?_
   refine wq rfl rfl rfl (ov_len_slice Tryz.underlying22 rfl rfl) ?_
   refine wq rfl rfl rfl (ov_move rfl rfl) ?_
   refine WL.nil (then_normal (WP.block ?_))
   have rl1 := RL.nil (α := (List UInt8)) H encStr
   refine WP.weaken (fun _ s => s.nilrow 9 (encStr).size) ?_
   refine WP.loop (fun m1 g' S' => ∃ (i1 : Int) (l1 : (List (List UInt8))) (ao2 : Option Addr) (cap2 : Nat) (xs1 : List Value), RL H encStr l1 xs1 ∧ Sub [(4, (.slice ao2 l1.length cap2)), (14, (.slice ao1 p_l.length cap1)), (15, (.int .i64 (p_l.length : Int))), (16, (.int .i64 i1)), (1000000007, (.bool false))] g' ∧ (∀ w', S' w' → St w H [.row 9 (encStr).size l1.length (.slice ao2 l1.length cap2) xs1] H w') ∧ stroke_Format_loop1 p_l k1 m1 i1 l1 = some r) ((Int.toNat ((p_l.length : Int) - 0) + 1)) ⟨0, ([] : List (List UInt8)), none, 0, [], rl1, (Sub.cons rfl (Sub.cons rfl (Sub.cons rfl (Sub.cons rfl (Sub.cons rfl (Sub.nil _)))))), fun w' s => s, hm⟩ ?_ ?_
   ·
    rintro g' S' ⟨_, _, _, _, _, _, _, _, hm⟩
    exact none_some hm
   ·
    rintro m1 g' S' ⟨i1, l1, ao2, cap2, xs1, rl2, hsub1, hS1, hm⟩
    refine WP.sub hsub1 (WP.weaken hS1 ?_)
    rw [stroke_Format_loop1] at hm
    refine WP.seq (WP.region ?_)
    refine wq rfl rfl rfl (ov_lss rfl rfl rfl) ?_
    refine WL.nil (then_normal (WP.seq ?_))
    refine WP.cond rfl (fun hc3 => ?_) (fun hc3 => ?_)
    ·
     replace hm := ite_t hc3 hm
     refine WP.skip (then_normal ?_)
     obtain ⟨k2, hk2, hm⟩ := joinK_some hm
     refine WP.seq_join (fun g' S' => ∃ (l8 : (List (List UInt8))) (ao10 : Option Addr) (cap10 : Nat) (xs5 : List Value), RL H encStr l8 xs5 ∧ Sub [(4, (.slice ao10 l8.length cap10)), (14, (.slice ao1 p_l.length cap1)), (15, (.int .i64 (p_l.length : Int))), (16, (.int .i64 i1)), (1000000007, (.bool false))] g' ∧ (∀ w', S' w' → St w H [.row 9 (encStr).size l8.length (.slice ao10 l8.length cap10) xs5] H w') ∧ k2 l8 = some r) ?_ ?_
     ·
      skip
      refine WP.block (WP.seq (WP.region ?_))
      obtain ⟨x1, e1, hm⟩ := bind_some hm
      obtain ⟨h3, h4, h5, cs1, h6, h7⟩ := h1.get e1 (by decide)
      obtain ⟨ao3, cap3, rfl, h2, hc4⟩ := h6
      refine wq rfl rfl rfl (ov_indexAddr Tryz.underlying22 Tryz.sizeOf37 rfl rfl rfl h3 h4 h5) ?_
      refine wq rfl rfl rfl (ov_load_elems (vs := [(.slice ao3 x1.strokes.length cap3), (.int .i64 x1.wait)]) Tryz.isAgg37 Tryz.sizeOf37 rfl rfl rfl h7 h5) ?_
      refine WL.step (Runs.free rfl) rfl rfl (os_alloc (cs := [(.slice none 0 0), (.int .i64 0)]) Tryz.zeroValue37 rfl rfl (fun b1 => ?_))
      refine WL.step0 (Runs.free rfl) rfl (os_store (i := 0) (vs := [(.slice ao3 x1.strokes.length cap3), (.int .i64 x1.wait)]) (cs' := [(.slice ao3 x1.strokes.length cap3), (.int .i64 x1.wait)]) Tryz.sizeOf37 rfl rfl rfl rfl rfl rfl rfl rfl rfl ?_)
      refine WL.nil (then_normal (WP.seq (WP.seq (WP.region ?_))))
      refine wq rfl rfl rfl (ov_load_whole (i := 0) Tryz.isAgg37 Tryz.sizeOf37 rfl rfl rfl rfl) ?_
      obtain ⟨r1, e2, hm⟩ := bind_some hm
      refine WL.quiet (Runs.free rfl) rfl rfl (oq_con (r := (.int .i64 r1)) Tryz.call73 rfl rfl (fun w' s => ⟨_, (stroke_CheckStep_con x1 ao3 cap3  w' H s.hold h2 hc4 hG r1 e2)⟩)) ?_
      refine wq rfl rfl rfl (ov_assign rfl rfl) ?_
      refine WL.nil (then_normal (WP.seq (WP.region ?_)))
      refine wq rfl rfl rfl (ov_move rfl rfl) ?_
      refine wq rfl rfl rfl (ov_neq rfl rfl rfl) ?_
      refine WL.nil (then_normal ?_)
      refine WP.cond rfl (fun hc5 => ?_) (fun hc5 => ?_)
      ·
       replace hm := ite_t hc5 hm
       refine WP.seq (WP.region ?_)
       refine wq rfl rfl rfl (ov_move rfl rfl) ?_
       refine wq rfl rfl rfl (ov_assign rfl rfl) ?_
       refine wq rfl rfl rfl (ov_assign rfl rfl) ?_
       refine WL.nil (then_normal (WP.ret (then_ret (block_ret (then_ret (then_ret (block_ret (then_ret ?_))))))))
       obtain rfl := Option.some.inj hm
       refine retQ_ret Tryz.results75 (Res.tmp rfl (Res.tmp rfl Res.nil)) rfl (fun w' s => ⟨s.below, ?_⟩)
       exact rfl
      ·
       replace hm := ite_f hc5 hm
       refine WP.skip (then_normal (WP.seq (WP.region ?_)))
       refine wq rfl rfl rfl (ov_assign rfl rfl) ?_
       refine WL.nil (then_normal ?_)
       obtain ⟨k3, hk3, hm⟩ := joinK_some hm
       refine WP.seq_join (fun g' S' => ∃ (l4 : (List (List UInt8))) (ao6 : Option Addr) (cap6 : Nat) (xs3 : List Value), RL H encStr l4 xs3 ∧ Sub [(4, (.slice ao2 l1.length cap2)), (6, (pB b1 0)), (8, (.slice ao6 l4.length cap6)), (14, (.slice ao1 p_l.length cap1)), (15, (.int .i64 (p_l.length : Int))), (16, (.int .i64 i1)), (1000000007, (.bool false))] g' ∧ (∀ w', S' w' → St w H [.row 9 (encStr).size l4.length (.slice ao6 l4.length cap6) xs3, .blk b1 37 [(.slice ao3 x1.strokes.length cap3), (.int .i64 x1.wait)], .row 9 (encStr).size l1.length (.slice ao2 l1.length cap2) xs1] H w') ∧ k3 l4 = some r) ?_ ?_
       ·
        skip
        refine WP.seq (WP.region ?_)
        refine wq rfl rfl rfl (ov_fieldAddr Tryz.underlying37 rfl rfl rfl Tryz.sizeOf25 rfl rfl) ?_
        refine wq rfl rfl rfl (ov_load_box (i := 0) Tryz.isAgg25 rfl rfl rfl rfl) ?_
        refine wq rfl rfl rfl (ov_len_slice Tryz.underlying25 rfl rfl) ?_
        refine wq rfl rfl rfl (ov_move rfl rfl) ?_
        refine WL.nil (then_normal (WP.block ?_))
        have rl3 := RL.nil (α := (List UInt8)) H encStr
        refine WP.weaken (fun _ s => s.nilrow 9 (encStr).size) ?_
        refine WP.loop (fun m2 g' S' => ∃ (i2 : Int) (l2 : (List (List UInt8))) (ao4 : Option Addr) (cap4 : Nat) (xs2 : List Value), RL H encStr l2 xs2 ∧ Sub [(4, (.slice ao2 l1.length cap2)), (6, (pB b1 0)), (8, (.slice ao4 l2.length cap4)), (14, (.slice ao1 p_l.length cap1)), (15, (.int .i64 (p_l.length : Int))), (16, (.int .i64 i1)), (26, (.slice ao3 x1.strokes.length cap3)), (27, (.int .i64 (x1.strokes.length : Int))), (28, (.int .i64 i2)), (1000000007, (.bool false))] g' ∧ (∀ w', S' w' → St w H [.row 9 (encStr).size l2.length (.slice ao4 l2.length cap4) xs2, .blk b1 37 [(.slice ao3 x1.strokes.length cap3), (.int .i64 x1.wait)], .row 9 (encStr).size l1.length (.slice ao2 l1.length cap2) xs1] H w') ∧ stroke_Format_loop2 x1 k3 m2 i2 l2 = some r) ((Int.toNat ((x1.strokes.length : Int) - 0) + 1)) ⟨0, ([] : List (List UInt8)), none, 0, [], rl3, (Sub.cons rfl (Sub.cons rfl (Sub.cons rfl (Sub.cons rfl (Sub.cons rfl (Sub.cons rfl (Sub.cons rfl (Sub.cons rfl (Sub.cons rfl (Sub.cons rfl (Sub.nil _))))))))))), fun w' s => s, hm⟩ ?_ ?_
        ·
         rintro g' S' ⟨_, _, _, _, _, _, _, _, hm⟩
         exact none_some hm
        ·
         rintro m2 g' S' ⟨i2, l2, ao4, cap4, xs2, rl4, hsub2, hS2, hm⟩
         refine WP.sub hsub2 (WP.weaken hS2 ?_)
         rw [stroke_Format_loop2] at hm
         refine WP.seq (WP.region ?_)
         refine wq rfl rfl rfl (ov_lss rfl rfl rfl) ?_
         refine WL.nil (then_normal (WP.seq ?_))
         refine WP.cond rfl (fun hc6 => ?_) (fun hc6 => ?_)
         ·
          replace hm := ite_t hc6 hm
          refine WP.skip (then_normal (WP.seq (WP.block (WP.seq (WP.region ?_)))))
          obtain ⟨x2, e3, hm⟩ := bind_some hm
          obtain ⟨h8, h9, h10, cs2, h11, h12⟩ := h2.get e3 (by decide)
          obtain rfl : cs2 = [(.int .i64 x2.actuator), (.bool x2.out)] := h11
          refine wq rfl rfl rfl (ov_indexAddr Tryz.underlying25 Tryz.sizeOf40 rfl rfl rfl h8 h9 h10) ?_
          refine wq rfl rfl rfl (ov_load_elems (vs := [(.int .i64 x2.actuator), (.bool x2.out)]) Tryz.isAgg40 Tryz.sizeOf40 rfl rfl rfl h12 h10) ?_
          refine WL.step (Runs.free rfl) rfl rfl (os_alloc (cs := [(.int .i64 0), (.bool false)]) Tryz.zeroValue40 rfl rfl (fun b2 => ?_))
          refine WL.step0 (Runs.free rfl) rfl (os_store (i := 0) (vs := [(.int .i64 x2.actuator), (.bool x2.out)]) (cs' := [(.int .i64 x2.actuator), (.bool x2.out)]) Tryz.sizeOf40 rfl rfl rfl rfl rfl rfl rfl rfl rfl ?_)
          refine WL.nil (then_normal (WP.region ?_))
          refine wq rfl rfl rfl (ov_move rfl rfl) ?_
          refine wq rfl rfl rfl (ov_load_whole (i := 0) Tryz.isAgg40 Tryz.sizeOf40 rfl rfl rfl rfl) ?_
          obtain ⟨r2, e4, hm⟩ := bind_some hm
          refine WL.quiet (Runs.free rfl) rfl rfl (oq_con (r := (mkS r2)) Tryz.call91 rfl rfl (fun w' s => ⟨_, (stroke_written_con x2  w' H s.hold hG r2 e4)⟩)) ?_
          have rl5 : RL H encStr ([r2] : List (List UInt8)) [(mkS r2)] := RL.cons (cs := [(mkS r2)]) (xs := []) rfl (RL.nil _ _)
          refine WL.step (Runs.free rfl) rfl rfl (os_buildSlice (cs := [(mkS r2)]) (E := 9) (sz := 1) rfl rfl (fun _ => by kernel_rfl) rfl (by decide) (fun b3 => ?_))
          obtain ⟨l3, e5, hm⟩ := bind_some hm
          refine WL.step (Runs.free rfl) rfl rfl (os_app (i := 2) (j := 0) (En := encStr) (xs := xs2) (ys := [(mkS r2)]) Tryz.underlying127 (by kernel_rfl : (Tryz.prog.info? 9).map (fun i => (i.zero, i.size, i.bytes)) = some (some (mkS []), (encStr).size, 16)) rfl (by decide) rfl rfl rfl rfl rfl rfl rl4 rl5 e5 (fun ao5 cap5 rl6 => ?_))
          refine wq rfl rfl rfl (ov_assign rfl rfl) ?_
          refine WL.nil (block_normal (then_normal (WP.region ?_)))
          refine wq rfl rfl rfl (ov_add rfl rfl rfl) ?_
          refine wq rfl rfl rfl (ov_move rfl rfl) ?_
          refine WL.nil (then_normal ?_)
          exact ⟨(IntKind.wrap .i64 (i2 + 1)), (l2 ++ ([r2] : List (List UInt8))), ao5, cap5, (xs2 ++ [(mkS r2)]), rl6, (Sub.cons rfl (Sub.cons rfl (Sub.cons rfl (Sub.cons rfl (Sub.cons rfl (Sub.cons rfl (Sub.cons rfl (Sub.cons rfl (Sub.cons rfl (Sub.cons rfl (Sub.nil _))))))))))), fun w' s => (s.select [2, 3, 4] (by decide) rfl), hm⟩
         ·
          replace hm := ite_f hc6 hm
          refine WP.exit (then_exit (then_exit (block_here (then_normal ?_))))
          exact ⟨l2, ao4, cap4, xs2, rl4, (Sub.cons rfl (Sub.cons rfl (Sub.cons rfl (Sub.cons rfl (Sub.cons rfl (Sub.cons rfl (Sub.cons rfl (Sub.nil _)))))))), fun w' s => s, hm⟩
       ·
        rintro g' S' ⟨l4, ao6, cap6, xs3, rl7, hsub3, hS3, hm⟩
        refine WP.sub hsub3 (WP.weaken hS3 ?_)
        replace hm := (congrFun hk3 l4).symm.trans hm
        obtain ⟨k4, hk4, hm⟩ := joinK_some hm
        refine WP.seq_join (fun g' S' => ∃ (l6 : (List (List UInt8))) (ao8 : Option Addr) (cap8 : Nat) (xs4 : List Value), RL H encStr l6 xs4 ∧ Sub [(4, (.slice ao2 l1.length cap2)), (8, (.slice ao8 l6.length cap8)), (14, (.slice ao1 p_l.length cap1)), (15, (.int .i64 (p_l.length : Int))), (16, (.int .i64 i1)), (1000000007, (.bool false))] g' ∧ (∀ w', S' w' → St w H [.row 9 (encStr).size l6.length (.slice ao8 l6.length cap8) xs4, .row 9 (encStr).size l1.length (.slice ao2 l1.length cap2) xs1] H w') ∧ k4 l6 = some r) ?_ ?_
        ·
         skip
         refine WP.seq (WP.region ?_)
         refine wq rfl rfl rfl (ov_fieldAddr Tryz.underlying37 rfl rfl rfl Tryz.sizeOf3 rfl rfl) ?_
         refine wq rfl rfl rfl (ov_load_box (i := 1) Tryz.isAgg3 rfl rfl rfl rfl) ?_
         refine wq rfl rfl rfl (ov_gtr rfl rfl rfl) ?_
         refine WL.nil (then_normal ?_)
         refine WP.cond rfl (fun hc7 => ?_) (fun hc7 => ?_)
         ·
          replace hm := ite_t hc7 hm
          refine WP.region ?_
          refine wq rfl rfl rfl (ov_move rfl rfl) ?_
          refine wq rfl rfl rfl (ov_fieldAddr Tryz.underlying37 rfl rfl rfl Tryz.sizeOf3 rfl rfl) ?_
          refine wq rfl rfl rfl (ov_load_box (i := 1) Tryz.isAgg3 rfl rfl rfl rfl) ?_
          obtain ⟨r3, e6, hm⟩ := bind_some hm
          refine WL.quiet (Runs.free rfl) rfl rfl (oq_con (r := (mkS r3)) Tryz.call92 rfl rfl (fun w' s => ⟨_, (itoa_con x1.wait  w' H s.hold hG r3 e6)⟩)) ?_
          have rl8 : RL H encStr ([r3] : List (List UInt8)) [(mkS r3)] := RL.cons (cs := [(mkS r3)]) (xs := []) rfl (RL.nil _ _)
          refine WL.step (Runs.free rfl) rfl rfl (os_buildSlice (cs := [(mkS r3)]) (E := 9) (sz := 1) rfl rfl (fun _ => by kernel_rfl) rfl (by decide) (fun b4 => ?_))
          obtain ⟨l5, e7, hm⟩ := bind_some hm
          refine WL.step (Runs.free rfl) rfl rfl (os_app (i := 1) (j := 0) (En := encStr) (xs := xs3) (ys := [(mkS r3)]) Tryz.underlying127 (by kernel_rfl : (Tryz.prog.info? 9).map (fun i => (i.zero, i.size, i.bytes)) = some (some (mkS []), (encStr).size, 16)) rfl (by decide) rfl rfl rfl rfl rfl rfl rl7 rl8 e7 (fun ao7 cap7 rl9 => ?_))
          refine wq rfl rfl rfl (ov_assign rfl rfl) ?_
          refine WL.nil (then_normal ?_)
          exact ⟨(l4 ++ ([r3] : List (List UInt8))), ao7, cap7, (xs3 ++ [(mkS r3)]), rl9, (Sub.cons rfl (Sub.cons rfl (Sub.cons rfl (Sub.cons rfl (Sub.cons rfl (Sub.cons rfl (Sub.nil _))))))), fun w' s => (s.select [1, 3] (by decide) rfl), hm⟩
         ·
          replace hm := ite_f hc7 hm
          refine WP.skip (then_normal ?_)
          exact ⟨l4, ao6, cap6, xs3, rl7, (Sub.cons rfl (Sub.cons rfl (Sub.cons rfl (Sub.cons rfl (Sub.cons rfl (Sub.cons rfl (Sub.nil _))))))), fun w' s => (s.select [0, 2] (by decide) rfl), hm⟩
        ·
         rintro g' S' ⟨l6, ao8, cap8, xs4, rl10, hsub4, hS4, hm⟩
         refine WP.sub hsub4 (WP.weaken hS4 ?_)
         replace hm := (congrFun hk4 l6).symm.trans hm
         refine WP.region ?_
         refine wq rfl rfl rfl (ov_move rfl rfl) ?_
         refine wq rfl rfl rfl (ov_move rfl rfl) ?_
         obtain ⟨r4, e8, hm⟩ := bind_some hm
         refine WL.quiet (Runs.free rfl) rfl rfl (oq_con (r := (mkS r4)) Tryz.call93 rfl rfl (fun w' s => ⟨_, (joinS_con l6 [32] ao8 cap8 w' (hp w') (Le.refl _) (s.row_arg (i := 0) rfl rl10).1 (s.row_arg (i := 0) rfl rl10).2 (hG.mono s.hold) r4 e8)⟩)) ?_
         have rl11 : RL H encStr ([r4] : List (List UInt8)) [(mkS r4)] := RL.cons (cs := [(mkS r4)]) (xs := []) rfl (RL.nil _ _)
         refine WL.step (Runs.free rfl) rfl rfl (os_buildSlice (cs := [(mkS r4)]) (E := 9) (sz := 1) rfl rfl (fun _ => by kernel_rfl) rfl (by decide) (fun b5 => ?_))
         obtain ⟨l7, e9, hm⟩ := bind_some hm
         refine WL.step (Runs.free rfl) rfl rfl (os_app (i := 2) (j := 0) (En := encStr) (xs := xs1) (ys := [(mkS r4)]) Tryz.underlying127 (by kernel_rfl : (Tryz.prog.info? 9).map (fun i => (i.zero, i.size, i.bytes)) = some (some (mkS []), (encStr).size, 16)) rfl (by decide) rfl rfl rfl rfl rfl rfl rl2 rl11 e9 (fun ao9 cap9 rl12 => ?_))
         refine wq rfl rfl rfl (ov_assign rfl rfl) ?_
         refine WL.nil (block_normal (then_normal ?_))
         exact ⟨(l1 ++ ([r4] : List (List UInt8))), ao9, cap9, (xs1 ++ [(mkS r4)]), rl12, (Sub.cons rfl (Sub.cons rfl (Sub.cons rfl (Sub.cons rfl (Sub.cons rfl (Sub.nil _)))))), fun w' s => (s.select [2] (by decide) rfl), hm⟩
     ·
      rintro g' S' ⟨l8, ao10, cap10, xs5, rl13, hsub5, hS5, hm⟩
      refine WP.sub hsub5 (WP.weaken hS5 ?_)
      replace hm := (congrFun hk2 l8).symm.trans hm
      refine WP.region ?_
      refine wq rfl rfl rfl (ov_add rfl rfl rfl) ?_
      refine wq rfl rfl rfl (ov_move rfl rfl) ?_
      refine WL.nil (then_normal ?_)
      exact ⟨(IntKind.wrap .i64 (i1 + 1)), l8, ao10, cap10, xs5, rl13, (Sub.cons rfl (Sub.cons rfl (Sub.cons rfl (Sub.cons rfl (Sub.cons rfl (Sub.nil _)))))), fun w' s => s, hm⟩
    ·
     replace hm := ite_f hc3 hm
     refine WP.exit (then_exit (then_exit (block_here (then_normal ?_))))
     exact ⟨l1, ao2, cap2, xs1, rl2, (Sub.cons rfl (Sub.cons rfl (Sub.nil _))), fun w' s => s, hm⟩
  ·
   rintro g' S' ⟨l9, ao11, cap11, xs6, rl14, hsub6, hS6, hm⟩
   refine WP.sub hsub6 (WP.weaken hS6 ?_)
   replace hm := (congrFun hk1 l9).symm.trans hm
   refine WP.seq (WP.region ?_)
   refine wq rfl rfl rfl (ov_move rfl rfl) ?_
   obtain ⟨r5, e10, hm⟩ := bind_some hm
   refine WL.quiet (Runs.free rfl) rfl rfl (oq_con (r := (mkS r5)) Tryz.call93 rfl rfl (fun w' s => ⟨_, (joinS_con l9 [59, 32] ao11 cap11 w' (hp w') (Le.refl _) (s.row_arg (i := 0) rfl rl14).1 (s.row_arg (i := 0) rfl rl14).2 (hG.mono s.hold) r5 e10)⟩)) ?_
   refine wq rfl rfl rfl (ov_assign rfl rfl) ?_
   refine wq rfl rfl rfl (ov_assign rfl rfl) ?_
   refine WL.nil (then_normal (WP.ret ?_))
   obtain rfl := Option.some.inj hm
   refine retQ_ret Tryz.results75 (Res.tmp rfl (Res.tmp rfl Res.nil)) rfl (fun w' s => ⟨s.below, ?_⟩)
   exact rfl

theorem stroke_read_con (p_s : (List UInt8)) (w : World) (H : Heap) (hH : Le H (hp w)) (hG : Glob H) (r : (Stroke × Bool)) (hm : stroke_read p_s = some r) :
  Con Tryz.prog 110 [(mkS p_s)] w H (fun v _ => v = (.tuple #[(.agg #[(.int .i64 r.1.actuator), (.bool r.1.out)]), (.bool r.2)])) := by
 unfold stroke_read at hm
 refine con_of hH Tryz.func110 rfl 39 Tryz.ntmps110 rfl ?_
 refine WP.seq (WP.region ?_)
 refine WL.step (Runs.free rfl) rfl rfl (os_alloc (cs := [(.int .i64 0), (.bool false)]) Tryz.zeroValue40 rfl rfl (fun b1 => ?_))
 refine wq rfl rfl rfl (ov_assign rfl rfl) ?_
 refine WL.nil (then_normal (WP.seq (WP.seq (WP.region ?_))))
 refine wq rfl rfl rfl (ov_move rfl rfl) ?_
 refine wq rfl rfl rfl (ov_len_string Tryz.underlying9 rfl rfl) ?_
 refine wq rfl rfl rfl (ov_neq rfl rfl rfl) ?_
 refine wq rfl rfl rfl (ov_move rfl rfl) ?_
 obtain ⟨c1, e1, hm⟩ := bind_some hm
 refine WL.cut_bool 4 11 (x := c1) ?_ ?_
 ·
  rcases Bool.eq_false_or_eq_true ((p_s.length : Int) != 2) with hc1 | hc1
  ·
   skip
   replace hm := ite_t hc1 e1
   refine WL.idle (Idle.no rfl rfl rfl hc1) rfl rfl ?_
   refine WL.idle (Idle.no rfl rfl rfl hc1) rfl rfl ?_
   refine WL.idle (Idle.no rfl rfl rfl hc1) rfl rfl ?_
   refine wq rfl rfl rfl (ov_pick_true rfl (guard_eq rfl hc1) rfl) ?_
   exact WL.nil ⟨Sub.cons' rfl (congrArg Value.bool (Option.some.inj hm)) (Sub.skip rfl (Sub.skip rfl (Sub.skip rfl (Sub.skip rfl (Sub.refl _))))), fun _ s => s⟩
  ·
   skip
   replace hm := ite_f hc1 e1
   refine WL.quiet (Runs.yes rfl rfl rfl hc1) rfl rfl (OV.quiet (ov_move rfl rfl)) ?_
   obtain ⟨b2, e2, hm⟩ := bind_some hm
   refine WL.quiet (Runs.yes rfl rfl rfl hc1) rfl rfl (OV.quiet (ov_index_string Tryz.underlying9 rfl rfl rfl e2)) ?_
   refine WL.quiet (Runs.yes rfl rfl rfl hc1) rfl rfl (OV.quiet (ov_lss rfl rfl rfl)) ?_
   refine wq rfl rfl rfl (ov_pick_false rfl (guard_eq rfl hc1) rfl) ?_
   exact WL.nil ⟨Sub.cons' rfl (congrArg Value.bool (Option.some.inj hm)) (Sub.skip rfl (Sub.skip rfl (Sub.skip rfl (Sub.skip rfl (Sub.refl _))))), fun _ s => s⟩
 refine wq rfl rfl rfl (ov_move rfl rfl) ?_
 obtain ⟨c2, e3, hm⟩ := bind_some hm
 refine WL.cut_bool 7 19 (x := c2) ?_ ?_
 ·
  rcases Bool.eq_false_or_eq_true c1 with hc2 | hc2
  ·
   skip
   replace hm := ite_t hc2 e3
   refine WL.idle (Idle.no rfl rfl rfl hc2) rfl rfl ?_
   refine WL.idle (Idle.no rfl rfl rfl hc2) rfl rfl ?_
   refine WL.idle (Idle.no rfl rfl rfl hc2) rfl rfl ?_
   refine WL.idle (Idle.no rfl rfl rfl hc2) rfl rfl ?_
   refine WL.idle (Idle.no rfl rfl rfl hc2) rfl rfl ?_
   refine WL.idle (Idle.no rfl rfl rfl hc2) rfl rfl ?_
   refine wq rfl rfl rfl (ov_pick_true rfl (guard_eq rfl hc2) rfl) ?_
   exact WL.nil ⟨Sub.cons' rfl (congrArg Value.bool (Option.some.inj hm)) (Sub.skip rfl (Sub.skip rfl (Sub.skip rfl (Sub.skip rfl (Sub.skip rfl (Sub.skip rfl (Sub.skip rfl (Sub.refl _)))))))), fun _ s => s⟩
  ·
   skip
   replace hm := ite_f hc2 e3
   refine WL.quiet (Runs.yes rfl rfl rfl hc2) rfl rfl (OV.quiet (ov_move rfl rfl)) ?_
   obtain ⟨b3, e4, hm⟩ := bind_some hm
   refine WL.quiet (Runs.yes rfl rfl rfl hc2) rfl rfl (OV.quiet (ov_index_string Tryz.underlying9 rfl rfl rfl e4)) ?_
   refine WL.quiet (Runs.yes rfl rfl rfl hc2) rfl rfl (OV.quiet (ov_sub rfl rfl rfl)) ?_
   refine WL.quiet (Runs.yes rfl rfl rfl hc2) rfl rfl (OV.quiet (ov_convert_int Tryz.underlying5 Tryz.underlying3 rfl rfl)) ?_
   obtain ⟨r1, e5, hm⟩ := bind_some hm
   refine WL.quiet (Runs.yes rfl rfl rfl hc2) rfl rfl (oq_con (r := (.bool r1)) Tryz.call74 rfl rfl (fun w' s => ⟨_, (stroke_known_con (IntKind.wrap .i64 (IntKind.wrap .u8 ((b3.toNat : Int) - 65)))  w' H s.hold hG r1 e5)⟩)) ?_
   refine WL.quiet (Runs.yes rfl rfl rfl hc2) rfl rfl (OV.quiet (ov_not rfl rfl)) ?_
   refine wq rfl rfl rfl (ov_pick_false rfl (guard_eq rfl hc2) rfl) ?_
   exact WL.nil ⟨Sub.cons' rfl (congrArg Value.bool (Option.some.inj hm)) (Sub.skip rfl (Sub.skip rfl (Sub.skip rfl (Sub.skip rfl (Sub.skip rfl (Sub.skip rfl (Sub.skip rfl (Sub.refl _)))))))), fun _ s => s⟩
 refine wq rfl rfl rfl (ov_move rfl rfl) ?_
 obtain ⟨c3, e6, hm⟩ := bind_some hm
 refine WL.cut_bool 9 29 (x := c3) ?_ ?_
 ·
  rcases Bool.eq_false_or_eq_true c2 with hc3 | hc3
  ·
   skip
   replace hm := ite_t hc3 e6
   refine WL.idle (Idle.no rfl rfl rfl hc3) rfl rfl ?_
   refine WL.idle (Idle.no rfl rfl rfl hc3) rfl rfl ?_
   refine WL.idle (Idle.no rfl rfl rfl hc3) rfl rfl ?_
   refine WL.idle (Idle.no rfl rfl rfl hc3) rfl rfl ?_
   refine WL.idle (Idle.undef rfl rfl rfl) rfl rfl ?_
   refine WL.idle (Idle.undef rfl rfl rfl) rfl rfl ?_
   refine WL.idle (Idle.undef rfl rfl rfl) rfl rfl ?_
   refine WL.idle (Idle.no rfl rfl rfl hc3) rfl rfl ?_
   refine wq rfl rfl rfl (ov_pick_true rfl (guard_eq rfl hc3) rfl) ?_
   exact WL.nil ⟨Sub.cons' rfl (congrArg Value.bool (Option.some.inj hm)) (Sub.skip rfl (Sub.skip rfl (Sub.skip rfl (Sub.skip rfl (Sub.skip rfl (Sub.skip rfl (Sub.skip rfl (Sub.skip rfl (Sub.skip rfl (Sub.refl _)))))))))), fun _ s => s⟩
  ·
   skip
   replace hm := ite_f hc3 e6
   refine WL.quiet (Runs.yes rfl rfl rfl hc3) rfl rfl (OV.quiet (ov_move rfl rfl)) ?_
   obtain ⟨b4, e7, hm⟩ := bind_some hm
   refine WL.quiet (Runs.yes rfl rfl rfl hc3) rfl rfl (OV.quiet (ov_index_string Tryz.underlying9 rfl rfl rfl e7)) ?_
   refine WL.quiet (Runs.yes rfl rfl rfl hc3) rfl rfl (OV.quiet (ov_neq rfl rfl rfl)) ?_
   refine WL.quiet (Runs.yes rfl rfl rfl hc3) rfl rfl (OV.quiet (ov_move rfl rfl)) ?_
   obtain ⟨c4, e8, hm⟩ := bind_some hm
   refine WL.cut_bool 4 28 (x := c4) ?_ ?_
   ·
    rcases Bool.eq_false_or_eq_true ((b4.toNat : Int) != 43) with hc4 | hc4
    ·
     skip
     replace hm := ite_t hc4 e8
     refine WL.quiet (Runs.yes rfl rfl rfl hc4) rfl rfl (OV.quiet (ov_move rfl rfl)) ?_
     obtain ⟨b5, e9, hm⟩ := bind_some hm
     refine WL.quiet (Runs.yes rfl rfl rfl hc4) rfl rfl (OV.quiet (ov_index_string Tryz.underlying9 rfl rfl rfl e9)) ?_
     refine WL.quiet (Runs.yes rfl rfl rfl hc4) rfl rfl (OV.quiet (ov_neq rfl rfl rfl)) ?_
     refine WL.quiet (Runs.yes rfl rfl rfl hc3) rfl rfl (OV.quiet (ov_pick_true rfl (guard_eq rfl hc4) rfl)) ?_
     exact WL.nil ⟨Sub.cons' rfl (congrArg Value.bool (Option.some.inj hm)) (Sub.skip rfl (Sub.skip rfl (Sub.skip rfl (Sub.skip rfl (Sub.refl _))))), fun _ s => s⟩
    ·
     skip
     replace hm := ite_f hc4 e8
     refine WL.idle (Idle.no rfl rfl rfl hc4) rfl rfl ?_
     refine WL.idle (Idle.no rfl rfl rfl hc4) rfl rfl ?_
     refine WL.idle (Idle.no rfl rfl rfl hc4) rfl rfl ?_
     refine WL.quiet (Runs.yes rfl rfl rfl hc3) rfl rfl (OV.quiet (ov_pick_false rfl (guard_eq rfl hc4) rfl)) ?_
     exact WL.nil ⟨Sub.cons' rfl (congrArg Value.bool (Option.some.inj hm)) (Sub.skip rfl (Sub.skip rfl (Sub.skip rfl (Sub.skip rfl (Sub.refl _))))), fun _ s => s⟩
   refine wq rfl rfl rfl (ov_pick_false rfl (guard_eq rfl hc3) rfl) ?_
   exact WL.nil ⟨Sub.cons' rfl (congrArg Value.bool (Option.some.inj hm)) (Sub.skip rfl (Sub.skip rfl (Sub.skip rfl (Sub.skip rfl (Sub.skip rfl (Sub.skip rfl (Sub.refl _))))))), fun _ s => s⟩
 refine WL.nil (then_normal ?_)
 refine WP.cond rfl (fun hc5 => ?_) (fun hc5 => ?_)
 ·
  replace hm := ite_t hc5 hm
  refine WP.seq (WP.region ?_)
  refine wq rfl rfl rfl (ov_build (r := (.agg #[(.int .i64 0), (.bool false)])) rfl rfl (fun _ => by kernel_rfl)) ?_
  refine WL.step0 (Runs.free rfl) rfl (os_store (i := 0) (vs := [(.int .i64 0), (.bool false)]) (cs' := [(.int .i64 0), (.bool false)]) Tryz.sizeOf40 rfl rfl rfl rfl rfl rfl rfl rfl rfl ?_)
  refine wq rfl rfl rfl (ov_assign rfl rfl) ?_
  refine WL.nil (then_normal (WP.ret (then_ret ?_)))
  obtain rfl := Option.some.inj hm
  refine retQ_ret Tryz.results110 (Res.cell rfl (box_loads (i := 0) Tryz.isAgg40 Tryz.sizeOf40 rfl rfl) (Res.tmp rfl Res.nil)) rfl (fun w' s => ⟨s.below, ?_⟩)
  exact rfl
 ·
  replace hm := ite_f hc5 hm
  refine WP.skip (then_normal (WP.seq ?_))
  refine WP.region_any (S₀ := St w H [] H) 10 rfl (by kernel_rfl) (fun w' s => (s.select [] (by decide) rfl)) (fun _ s => s.drew) ?_
  refine tq (i := 0) rfl (by kernel_rfl) rfl rfl rfl (ov_move rfl rfl) ?_
  obtain ⟨b6, e10, hm⟩ := bind_some hm
  refine tq (i := 1) rfl (by kernel_rfl) rfl rfl rfl (ov_index_string Tryz.underlying9 rfl rfl rfl e10) ?_
  refine tq (i := 2) rfl (by kernel_rfl) rfl rfl rfl (ov_sub rfl rfl rfl) ?_
  refine tq (i := 3) rfl (by kernel_rfl) rfl rfl rfl (ov_convert_int Tryz.underlying5 Tryz.underlying3 rfl rfl) ?_
  refine tq (i := 4) rfl (by kernel_rfl) rfl rfl rfl (ov_move rfl rfl) ?_
  obtain ⟨b7, e11, hm⟩ := bind_some hm
  refine tq (i := 5) rfl (by kernel_rfl) rfl rfl rfl (ov_index_string Tryz.underlying9 rfl rfl rfl e11) ?_
  refine tq (i := 6) rfl (by kernel_rfl) rfl rfl rfl (ov_eql rfl rfl rfl) ?_
  refine tq (i := 7) rfl (by kernel_rfl) rfl rfl rfl (ov_build (r := (.agg #[(.int .i64 (IntKind.wrap .i64 (IntKind.wrap .u8 ((b6.toNat : Int) - 65)))), (.bool ((b7.toNat : Int) == 43))])) rfl rfl (fun _ => by kernel_rfl)) ?_
  refine AL.any (rs := [8]) (by kernel_rfl) (by decide) ?_
  refine ALs.cons0 (i := 8) rfl (Runs.free rfl) rfl ?_ ?_
  ·
   skip
   refine os_store (i := 0) (vs := [(.int .i64 (IntKind.wrap .i64 (IntKind.wrap .u8 ((b6.toNat : Int) - 65)))), (.bool ((b7.toNat : Int) == 43))]) (cs' := [(.int .i64 (IntKind.wrap .i64 (IntKind.wrap .u8 ((b6.toNat : Int) - 65)))), (.bool ((b7.toNat : Int) == 43))]) Tryz.sizeOf40 rfl rfl rfl rfl rfl rfl rfl rfl rfl ?_
   refine ⟨fun w' s => (s.select [] (by decide) rfl), ?_⟩
   refine tq (i := 9) rfl (by kernel_rfl) rfl rfl rfl (ov_assign rfl rfl) ?_
   refine AL.done (by kernel_rfl) ?_
   refine then_normal (WP.ret ?_)
   obtain rfl := Option.some.inj hm
   refine retQ_ret Tryz.results110 (Res.cell rfl (box_loads (i := 0) Tryz.isAgg40 Tryz.sizeOf40 rfl rfl) (Res.tmp rfl Res.nil)) rfl (fun w' s => ⟨s.below, ?_⟩)
   exact rfl
  exact ALs.nil

theorem stroke_delay_con (p_s : (List UInt8)) (w : World) (H : Heap) (hH : Le H (hp w)) (hG : Glob H) (r : (Int × Bool)) (hm : stroke_delay p_s = some r) :
  Con Tryz.prog 111 [(mkS p_s)] w H (fun v _ => v = (.tuple #[(.int .i64 r.1), (.bool r.2)])) := by
 unfold stroke_delay at hm
 refine con_of hH Tryz.func111 rfl 31 Tryz.ntmps111 rfl ?_
 refine WP.seq (WP.region ?_)
 refine wq rfl rfl rfl (ov_assign rfl rfl) ?_
 refine wq rfl rfl rfl (ov_assign rfl rfl) ?_
 refine WL.nil (then_normal (WP.seq (WP.seq (WP.region ?_))))
 refine wq rfl rfl rfl (ov_move rfl rfl) ?_
 refine wq rfl rfl rfl (ov_seql rfl rfl rfl) ?_
 refine wq rfl rfl rfl (ov_move rfl rfl) ?_
 refine WL.cut_bool 4 12 (x := ((p_s == []) || (decide ((p_s.length : Int) > 7)))) ?_ ?_
 ·
  rcases Bool.eq_false_or_eq_true (p_s == []) with hc1 | hc1
  ·
   skip
   refine WL.idle (Idle.no rfl rfl rfl hc1) rfl rfl ?_
   refine WL.idle (Idle.no rfl rfl rfl hc1) rfl rfl ?_
   refine WL.idle (Idle.no rfl rfl rfl hc1) rfl rfl ?_
   refine wq rfl rfl rfl (ov_pick_true rfl (guard_eq rfl hc1) rfl) ?_
   exact WL.nil ⟨Sub.cons' rfl (congrArg Value.bool (orT hc1)) (Sub.skip rfl (Sub.skip rfl (Sub.skip rfl (Sub.skip rfl (Sub.refl _))))), fun _ s => s⟩
  ·
   skip
   refine WL.quiet (Runs.yes rfl rfl rfl hc1) rfl rfl (OV.quiet (ov_move rfl rfl)) ?_
   refine WL.quiet (Runs.yes rfl rfl rfl hc1) rfl rfl (OV.quiet (ov_len_string Tryz.underlying9 rfl rfl)) ?_
   refine WL.quiet (Runs.yes rfl rfl rfl hc1) rfl rfl (OV.quiet (ov_gtr rfl rfl rfl)) ?_
   refine wq rfl rfl rfl (ov_pick_false rfl (guard_eq rfl hc1) rfl) ?_
   exact WL.nil ⟨Sub.cons' rfl (congrArg Value.bool (orF hc1)) (Sub.skip rfl (Sub.skip rfl (Sub.skip rfl (Sub.skip rfl (Sub.refl _))))), fun _ s => s⟩
 refine wq rfl rfl rfl (ov_move rfl rfl) ?_
 obtain ⟨c1, e1, hm⟩ := bind_some hm
 refine WL.cut_bool 4 17 (x := c1) ?_ ?_
 ·
  rcases Bool.eq_false_or_eq_true ((p_s == []) || (decide ((p_s.length : Int) > 7))) with hc2 | hc2
  ·
   skip
   replace hm := ite_t hc2 e1
   refine WL.idle (Idle.no rfl rfl rfl hc2) rfl rfl ?_
   refine WL.idle (Idle.no rfl rfl rfl hc2) rfl rfl ?_
   refine WL.idle (Idle.no rfl rfl rfl hc2) rfl rfl ?_
   refine wq rfl rfl rfl (ov_pick_true rfl (guard_eq rfl hc2) rfl) ?_
   exact WL.nil ⟨Sub.cons' rfl (congrArg Value.bool (Option.some.inj hm)) (Sub.skip rfl (Sub.skip rfl (Sub.skip rfl (Sub.skip rfl (Sub.refl _))))), fun _ s => s⟩
  ·
   skip
   replace hm := ite_f hc2 e1
   refine WL.quiet (Runs.yes rfl rfl rfl hc2) rfl rfl (OV.quiet (ov_move rfl rfl)) ?_
   obtain ⟨b1, e2, hm⟩ := bind_some hm
   refine WL.quiet (Runs.yes rfl rfl rfl hc2) rfl rfl (OV.quiet (ov_index_string Tryz.underlying9 rfl rfl rfl e2)) ?_
   refine WL.quiet (Runs.yes rfl rfl rfl hc2) rfl rfl (OV.quiet (ov_eql rfl rfl rfl)) ?_
   refine wq rfl rfl rfl (ov_pick_false rfl (guard_eq rfl hc2) rfl) ?_
   exact WL.nil ⟨Sub.cons' rfl (congrArg Value.bool (Option.some.inj hm)) (Sub.skip rfl (Sub.skip rfl (Sub.skip rfl (Sub.skip rfl (Sub.refl _))))), fun _ s => s⟩
 refine wq rfl rfl rfl (ov_move rfl rfl) ?_
 obtain ⟨c2, e3, hm⟩ := bind_some hm
 refine WL.cut_bool 4 22 (x := c2) ?_ ?_
 ·
  rcases Bool.eq_false_or_eq_true c1 with hc3 | hc3
  ·
   skip
   replace hm := ite_t hc3 e3
   refine WL.idle (Idle.no rfl rfl rfl hc3) rfl rfl ?_
   refine WL.idle (Idle.no rfl rfl rfl hc3) rfl rfl ?_
   refine WL.idle (Idle.no rfl rfl rfl hc3) rfl rfl ?_
   refine wq rfl rfl rfl (ov_pick_true rfl (guard_eq rfl hc3) rfl) ?_
   exact WL.nil ⟨Sub.cons' rfl (congrArg Value.bool (Option.some.inj hm)) (Sub.skip rfl (Sub.skip rfl (Sub.skip rfl (Sub.skip rfl (Sub.refl _))))), fun _ s => s⟩
  ·
   skip
   replace hm := ite_f hc3 e3
   refine WL.quiet (Runs.yes rfl rfl rfl hc3) rfl rfl (OV.quiet (ov_move rfl rfl)) ?_
   obtain ⟨r1, e4, hm⟩ := bind_some hm
   refine WL.quiet (Runs.yes rfl rfl rfl hc3) rfl rfl (oq_con (r := (mkS r1)) Tryz.call118 rfl rfl (fun w' s => ⟨_, (trimS_con p_s [48, 49, 50, 51, 52, 53, 54, 55, 56, 57]  w' H s.hold hG r1 e4)⟩)) ?_
   refine WL.quiet (Runs.yes rfl rfl rfl hc3) rfl rfl (OV.quiet (ov_sneq rfl rfl rfl)) ?_
   refine wq rfl rfl rfl (ov_pick_false rfl (guard_eq rfl hc3) rfl) ?_
   exact WL.nil ⟨Sub.cons' rfl (congrArg Value.bool (Option.some.inj hm)) (Sub.skip rfl (Sub.skip rfl (Sub.skip rfl (Sub.skip rfl (Sub.refl _))))), fun _ s => s⟩
 refine WL.nil (then_normal ?_)
 refine WP.cond rfl (fun hc4 => ?_) (fun hc4 => ?_)
 ·
  replace hm := ite_t hc4 hm
  refine WP.seq (WP.region ?_)
  refine wq rfl rfl rfl (ov_assign rfl rfl) ?_
  refine wq rfl rfl rfl (ov_assign rfl rfl) ?_
  refine WL.nil (then_normal (WP.ret (then_ret ?_)))
  obtain rfl := Option.some.inj hm
  refine retQ_ret Tryz.results111 (Res.tmp rfl (Res.tmp rfl Res.nil)) rfl (fun w' s => ⟨s.below, ?_⟩)
  exact rfl
 ·
  replace hm := ite_f hc4 hm
  refine WP.skip (then_normal (WP.seq (WP.region ?_)))
  refine wq rfl rfl rfl (ov_move rfl rfl) ?_
  obtain ⟨r2, e5, hm⟩ := bind_some hm
  refine WL.quiet (Runs.free rfl) rfl rfl (oq_con (r := (.tuple #[(.int .i64 r2.1), .nilIface])) Tryz.call119 rfl rfl (fun w' s => ⟨_, (strconv_Atoi_con p_s  w' H s.hold hG r2 e5)⟩)) ?_
  refine wq rfl rfl rfl (ov_move rfl rfl) ?_
  refine wq rfl rfl rfl (ov_extract rfl rfl rfl) ?_
  refine wq rfl rfl rfl (ov_extract rfl rfl rfl) ?_
  refine wq rfl rfl rfl (ov_assign rfl rfl) ?_
  refine wq rfl rfl rfl (ov_assign rfl rfl) ?_
  refine WL.nil (then_normal (WP.seq ?_))
  refine WP.region_draws (by kernel_rfl) (by kernel_rfl) (fun _ s => s.drew) ?_
  refine QL.quiet (Runs.free rfl) rfl rfl (OV.quiet (ov_move rfl rfl)) ?_
  refine QL.quiet (Runs.free rfl) rfl rfl (OV.quiet (ov_move rfl rfl)) ?_
  refine QL.quiet (Runs.free rfl) rfl rfl (OV.quiet (ov_eql_nilI (by kernel_rfl) rfl rfl rfl)) ?_
  refine QL.quiet (Runs.free rfl) rfl rfl (OV.quiet (ov_assign rfl rfl)) ?_
  refine QL.quiet (Runs.free rfl) rfl rfl (OV.quiet (ov_assign rfl rfl)) ?_
  refine QL.nil ?_
  refine then_normal (WP.ret ?_)
  obtain rfl := Option.some.inj hm
  refine retQ_ret Tryz.results111 (Res.tmp rfl (Res.tmp rfl Res.nil)) rfl (fun w' s => ⟨s.below, ?_⟩)
  exact rfl

theorem stroke_step_con (p_s : (List UInt8)) (w : World) (H : Heap) (hH : Le H (hp w)) (hG : Glob H) (r : (Step × Int)) (hm : stroke_step p_s = some r) :
  Con Tryz.prog 96 [(mkS p_s)] w H (fun v H' => ∃ (ao1 : Option Addr) (cap1 : Nat), v = (.tuple #[(.agg #[(.slice ao1 r.1.strokes.length cap1), (.int .i64 r.1.wait)]), (.int .i64 r.2)]) ∧ SL H' encStroke ao1 r.1.strokes ∧ r.1.strokes.length ≤ cap1) := by
 unfold stroke_step at hm
 refine con_of hH Tryz.func96 rfl 58 Tryz.ntmps96 rfl ?_
 refine WP.seq (WP.region ?_)
 refine WL.step (Runs.free rfl) rfl rfl (os_box (cs := [(mkS p_s)]) rfl rfl rfl (fun b1 => ?_))
 refine WL.step (Runs.free rfl) rfl rfl (os_alloc (cs := [(.slice none 0 0), (.int .i64 0)]) Tryz.zeroValue37 rfl rfl (fun b2 => ?_))
 refine WL.step (Runs.free rfl) rfl rfl (os_alloc (cs := [(.int .i64 0)]) Tryz.zeroValue28 rfl rfl (fun b3 => ?_))
 refine WL.nil (then_normal (WP.seq (WP.region ?_)))
 refine WL.step (Runs.free rfl) rfl rfl (os_alloc (cs := [(.slice none 0 0), (.int .i64 0)]) Tryz.zeroValue37 rfl rfl (fun b4 => ?_))
 refine WL.nil (then_normal (WP.seq (WP.seq (WP.region ?_))))
 refine wq rfl rfl rfl (ov_load_box (i := 3) Tryz.isAgg9 rfl rfl rfl rfl) ?_
 refine WL.step (Runs.free rfl) rfl rfl (os_inline (cap := []) (vs := [(mkS p_s), (mkS [32])]) Tryz.call95 rfl rfl rfl Tryz.func95 rfl 6 Tryz.ntmps95 rfl (fun w' s => ?_))
 refine WP.seq (WP.region ?_)
 refine WL.step (Runs.free rfl) rfl rfl (os_box (cs := [(mkS p_s)]) rfl rfl rfl (fun b5 => ?_))
 refine WL.step (Runs.free rfl) rfl rfl (os_box (cs := [(mkS [32])]) rfl rfl rfl (fun b6 => ?_))
 refine wq rfl rfl rfl (ov_assign rfl rfl) ?_
 refine WL.nil (then_normal (WP.seq (WP.region ?_)))
 refine wq rfl rfl rfl (ov_makeFunc' (first := []) rfl rfl rfl) ?_
 refine wq rfl rfl rfl (ov_assign rfl rfl) ?_
 refine WL.nil (then_normal (WP.ret ?_))
 refine retQ_ret (v := (.func (.func 108) #[] #[(pB b5 0), (pB b6 0)])) Tryz.results95 (Res.tmp rfl Res.nil) rfl (fun w' s => ⟨_, ?_, s⟩)
 refine WL.nil (then_normal (WP.block ?_))
 refine WP.range (ps := [13, 14]) (cap := [(pB b5 0), (pB b6 0)]) Tryz.call108 rfl Tryz.func108 rfl 28 Tryz.ntmps108 rfl (fun l1 D1 R1 hr1 => ?_)
 refine WP.seq (WP.region ?_)
 refine wq rfl rfl rfl (ov_assign rfl rfl) ?_
 refine WL.nil (then_normal (WP.seq (WP.region ?_)))
 refine wq rfl rfl rfl (ov_load_box (i := 3) Tryz.isAgg9 rfl rfl rfl rfl) ?_
 refine wq rfl rfl rfl (ov_load_box (i := 2) Tryz.isAgg9 rfl rfl rfl rfl) ?_
 obtain ⟨r1, e1, hm⟩ := bind_some hm
 refine WL.step (Runs.free rfl) rfl rfl (os_con Tryz.call109 rfl rfl (fun w' s => (splitS_con p_s [32]  w' H s.hold hG r1 e1)) (fun rr1 H1 hle1 hR1 => ?_))
 replace hG := hG.mono hle1
 obtain ⟨ao2, cap2, rfl, h2, hc2⟩ := hR1
 refine wq rfl rfl rfl (ov_len_slice Tryz.underlying127 rfl rfl) ?_
 refine wq rfl rfl rfl (ov_move rfl rfl) ?_
 refine WL.nil (then_normal (WP.block ?_))
 have rl1 := RL.nil (α := Stroke) H1 encStroke
 refine WP.weaken (fun _ s => s.nilrow 40 (encStroke).size) ?_
 refine WP.loop (fun m1 g' S' => ∃ (i1 : Int) (i2 : Int) (i3 : Int) (l2 : (List Stroke)) (ao3 : Option Addr) (cap3 : Nat) (xs1 : List Value), RL H1 encStroke l2 xs1 ∧ Sub [(0, (.func (.yield l1) #[] #[])), (2, (pB b6 0)), (4, (.int .i64 i1)), (9, (.slice ao2 r1.length cap2)), (10, (.int .i64 (r1.length : Int))), (11, (.int .i64 i2)), (1000000007, (.bool false))] g' ∧ (∀ w', S' w' → St w H [.row 40 (encStroke).size l2.length (.slice ao3 l2.length cap3) xs1, .obj l1 (R1 .ready none), .obj D1 (.deferred (some [])), .blk b6 9 [(mkS [32])], .blk b5 9 [(mkS p_s)], .blk b4 37 [(.slice ao3 l2.length cap3), (.int .i64 i3)], .blk b3 28 [(.int .i64 0)], .blk b2 37 [(.slice none 0 0), (.int .i64 0)], .blk b1 9 [(mkS p_s)]] H1 w') ∧ stroke_step_loop1 p_s r1 m1 i1 i2 i3 l2 = some r) ((Int.toNat ((r1.length : Int) - 0) + 1)) ⟨0, 0, 0, ([] : List Stroke), none, 0, [], rl1, (Sub.cons rfl (Sub.cons rfl (Sub.cons rfl (Sub.cons rfl (Sub.cons rfl (Sub.cons rfl (Sub.cons rfl (Sub.nil _)))))))), fun w' s => s, hm⟩ ?_ ?_
 ·
  rintro g' S' ⟨_, _, _, _, _, _, _, _, _, _, hm⟩
  exact none_some hm
 ·
  rintro m1 g' S' ⟨i1, i2, i3, l2, ao3, cap3, xs1, rl2, hsub1, hS1, hm⟩
  refine WP.sub hsub1 (WP.weaken hS1 ?_)
  rw [stroke_step_loop1] at hm
  refine WP.seq (WP.region ?_)
  refine wq rfl rfl rfl (ov_lss rfl rfl rfl) ?_
  refine WL.nil (then_normal (WP.seq ?_))
  refine WP.cond rfl (fun hc3 => ?_) (fun hc3 => ?_)
  ·
   replace hm := ite_t hc3 hm
   refine WP.skip (then_normal (WP.seq (WP.block (WP.seq (WP.region ?_)))))
   obtain ⟨x1, e2, hm⟩ := bind_some hm
   obtain ⟨h3, h4, h5, cs1, h6, h7⟩ := h2.get e2 (by decide)
   obtain rfl : cs1 = [(mkS x1)] := h6
   refine wq rfl rfl rfl (ov_indexAddr Tryz.underlying127 Tryz.sizeOf9 rfl rfl rfl h3 h4 h5) ?_
   refine wq rfl rfl rfl (ov_load_elem (v := (mkS x1)) Tryz.isAgg9 rfl rfl h7) ?_
   refine wq rfl rfl rfl (ov_assign rfl rfl) ?_
   refine WL.nil (then_normal (WP.seq (WP.seq (WP.region ?_))))
   refine wq rfl rfl rfl (ov_move rfl rfl) ?_
   refine wq rfl rfl rfl (ov_move rfl rfl) ?_
   refine wq rfl rfl rfl (ov_move rfl rfl) ?_
   refine WL.yield (i := 1) (vs := [(.int .i64 i1), (mkS x1)]) (Runs.free rfl) rfl rfl rfl rfl rfl hr1 rfl rfl rfl ?_
   refine WP.seq (WP.region ?_)
   refine wq rfl rfl rfl (ov_assign rfl rfl) ?_
   refine WL.nil (then_normal (WP.region ?_))
   refine wq rfl rfl rfl (ov_assign rfl rfl) ?_
   refine WL.nil (then_normal ?_)
   refine begin_of (i := 1) rfl ?_
   obtain ⟨k1, hk1, hm⟩ := joinK_some hm
   refine WP.join_normal (fun g' S' => ∃ (i4 : Int) (l4 : (List Stroke)) (ao5 : Option Addr) (cap5 : Nat) (xs2 : List Value), RL H1 encStroke l4 xs2 ∧ Sub [(1000000007, (.bool false))] g' ∧ (∀ w', S' w' → St w H [.row 40 (encStroke).size l4.length (.slice ao5 l4.length cap5) xs2, .obj l1 (R1 .busy none), .obj D1 (.deferred (some [])), .blk b6 9 [(mkS [32])], .blk b5 9 [(mkS p_s)], .blk b4 37 [(.slice ao5 l4.length cap5), (.int .i64 i4)], .blk b3 28 [(.int .i64 0)], .blk b2 37 [(.slice none 0 0), (.int .i64 0)], .blk b1 9 [(mkS p_s)]] H1 w') ∧ k1 i4 l4 = some r) ?_ ?_
   ·
    skip
    refine WP.block (WP.seq (WP.seq (WP.region ?_)))
    refine wq rfl rfl rfl (ov_move rfl rfl) ?_
    obtain ⟨r2, e3, hm⟩ := bind_some hm
    refine WL.quiet (Runs.free rfl) rfl rfl (oq_con (r := (.tuple #[(.agg #[(.int .i64 r2.1.actuator), (.bool r2.1.out)]), (.bool r2.2)])) Tryz.call110 rfl rfl (fun w' s => ⟨_, (stroke_read_con x1  w' H1 s.hold hG r2 e3)⟩)) ?_
    refine wq rfl rfl rfl (ov_move rfl rfl) ?_
    refine wq rfl rfl rfl (ov_extract rfl rfl rfl) ?_
    refine wq rfl rfl rfl (ov_extract rfl rfl rfl) ?_
    refine WL.step (Runs.free rfl) rfl rfl (os_alloc (cs := [(.int .i64 0), (.bool false)]) Tryz.zeroValue40 rfl rfl (fun b7 => ?_))
    refine WL.step0 (Runs.free rfl) rfl (os_store (i := 0) (vs := [(.int .i64 r2.1.actuator), (.bool r2.1.out)]) (cs' := [(.int .i64 r2.1.actuator), (.bool r2.1.out)]) Tryz.sizeOf40 rfl rfl rfl rfl rfl rfl rfl rfl rfl ?_)
    refine wq rfl rfl rfl (ov_assign rfl rfl) ?_
    refine WL.nil (then_normal (WP.seq (WP.region ?_)))
    refine wq rfl rfl rfl (ov_move rfl rfl) ?_
    refine wq rfl rfl rfl (ov_move rfl rfl) ?_
    refine WL.cut_bool 4 25 (x := (r2.2 && (i3 == 0))) ?_ ?_
    ·
     rcases Bool.eq_false_or_eq_true r2.2 with hc4 | hc4
     ·
      skip
      refine WL.quiet (Runs.yes rfl rfl rfl hc4) rfl rfl (OV.quiet (ov_fieldAddr Tryz.underlying37 rfl rfl rfl Tryz.sizeOf3 rfl rfl)) ?_
      refine WL.quiet (Runs.yes rfl rfl rfl hc4) rfl rfl (OV.quiet (ov_load_box (i := 6) Tryz.isAgg3 rfl rfl rfl rfl)) ?_
      refine WL.quiet (Runs.yes rfl rfl rfl hc4) rfl rfl (OV.quiet (ov_eql rfl rfl rfl)) ?_
      refine wq rfl rfl rfl (ov_pick_true rfl (guard_eq rfl hc4) rfl) ?_
      exact WL.nil ⟨Sub.cons' rfl (congrArg Value.bool (andT hc4)) (Sub.skip rfl (Sub.skip rfl (Sub.skip rfl (Sub.skip rfl (Sub.refl _))))), fun _ s => s⟩
     ·
      skip
      refine WL.idle (Idle.no rfl rfl rfl hc4) rfl rfl ?_
      refine WL.idle (Idle.no rfl rfl rfl hc4) rfl rfl ?_
      refine WL.idle (Idle.no rfl rfl rfl hc4) rfl rfl ?_
      refine wq rfl rfl rfl (ov_pick_false rfl (guard_eq rfl hc4) rfl) ?_
      exact WL.nil ⟨Sub.cons' rfl (congrArg Value.bool (andF hc4)) (Sub.skip rfl (Sub.skip rfl (Sub.skip rfl (Sub.skip rfl (Sub.refl _))))), fun _ s => s⟩
    refine WL.nil (then_normal ?_)
    refine WP.cond rfl (fun hc5 => ?_) (fun hc5 => ?_)
    ·
     replace hm := ite_t hc5 hm
     refine WP.seq (WP.region ?_)
     refine wq rfl rfl rfl (ov_fieldAddr Tryz.underlying37 rfl rfl rfl Tryz.sizeOf25 rfl rfl) ?_
     refine wq rfl rfl rfl (ov_load_box (i := 6) Tryz.isAgg25 rfl rfl rfl rfl) ?_
     refine wq rfl rfl rfl (ov_load_whole (i := 0) Tryz.isAgg40 Tryz.sizeOf40 rfl rfl rfl rfl) ?_
     have rl3 : RL H1 encStroke ([r2.1] : List Stroke) [(.int .i64 r2.1.actuator), (.bool r2.1.out)] := RL.cons (cs := [(.int .i64 r2.1.actuator), (.bool r2.1.out)]) (xs := []) rfl (RL.nil _ _)
     refine WL.step (Runs.free rfl) rfl rfl (os_buildSlice (cs := [(.int .i64 r2.1.actuator), (.bool r2.1.out)]) (E := 40) (sz := 2) rfl rfl (fun _ => by kernel_rfl) rfl (by decide) (fun b8 => ?_))
     obtain ⟨l3, e4, hm⟩ := bind_some hm
     refine WL.step (Runs.free rfl) rfl rfl (os_app (i := 2) (j := 0) (En := encStroke) (xs := xs1) (ys := [(.int .i64 r2.1.actuator), (.bool r2.1.out)]) Tryz.underlying25 (by kernel_rfl : (Tryz.prog.info? 40).map (fun i => (i.zero, i.size, i.bytes)) = some (some (.agg #[(.int .i64 0), (.bool false)]), (encStroke).size, 16)) rfl (by decide) rfl rfl rfl rfl rfl rfl rl2 rl3 e4 (fun ao4 cap4 rl4 => ?_))
     refine wq rfl rfl rfl (ov_fieldAddr Tryz.underlying37 rfl rfl rfl Tryz.sizeOf25 rfl rfl) ?_
     refine WL.step0 (Runs.free rfl) rfl (os_store (i := 7) (vs := [(.slice ao4 (l2 ++ ([r2.1] : List Stroke)).length cap4)]) (cs' := [(.slice ao4 (l2 ++ ([r2.1] : List Stroke)).length cap4), (.int .i64 i3)]) Tryz.sizeOf25 rfl rfl rfl rfl rfl rfl rfl rfl rfl ?_)
     refine WL.nil (then_normal (WP.exit (then_exit (block_here (then_normal ?_)))))
     exact ⟨i3, (l2 ++ ([r2.1] : List Stroke)), ao4, cap4, (xs1 ++ [(.int .i64 r2.1.actuator), (.bool r2.1.out)]), rl4, (Sub.cons rfl (Sub.nil _)), fun w' s => (s.select [2, 3, 4, 5, 6, 7, 8, 9, 10] (by decide) rfl), hm⟩
    ·
     replace hm := ite_f hc5 hm
     refine WP.skip (then_normal (WP.seq (WP.region ?_)))
     refine wq rfl rfl rfl (ov_move rfl rfl) ?_
     obtain ⟨r3, e5, hm⟩ := bind_some hm
     refine WL.quiet (Runs.free rfl) rfl rfl (oq_con (r := (.tuple #[(.int .i64 r3.1), (.bool r3.2)])) Tryz.call111 rfl rfl (fun w' s => ⟨_, (stroke_delay_con x1  w' H1 s.hold hG r3 e5)⟩)) ?_
     refine wq rfl rfl rfl (ov_move rfl rfl) ?_
     refine wq rfl rfl rfl (ov_extract rfl rfl rfl) ?_
     refine wq rfl rfl rfl (ov_extract rfl rfl rfl) ?_
     refine wq rfl rfl rfl (ov_assign rfl rfl) ?_
     refine wq rfl rfl rfl (ov_assign rfl rfl) ?_
     refine WL.nil (then_normal (WP.seq (WP.seq (WP.region ?_))))
     refine wq rfl rfl rfl (ov_move rfl rfl) ?_
     refine wq rfl rfl rfl (ov_not rfl rfl) ?_
     refine wq rfl rfl rfl (ov_move rfl rfl) ?_
     refine WL.cut_bool 3 42 (x := ((!r3.2) || (i1 == 0))) ?_ ?_
     ·
      rcases Bool.eq_false_or_eq_true (!r3.2) with hc6 | hc6
      ·
       skip
       refine WL.idle (Idle.no rfl rfl rfl hc6) rfl rfl ?_
       refine WL.idle (Idle.no rfl rfl rfl hc6) rfl rfl ?_
       refine wq rfl rfl rfl (ov_pick_true rfl (guard_eq rfl hc6) rfl) ?_
       exact WL.nil ⟨Sub.cons' rfl (congrArg Value.bool (orT hc6)) (Sub.skip rfl (Sub.skip rfl (Sub.skip rfl (Sub.refl _)))), fun _ s => s⟩
      ·
       skip
       refine WL.quiet (Runs.yes rfl rfl rfl hc6) rfl rfl (OV.quiet (ov_move rfl rfl)) ?_
       refine WL.quiet (Runs.yes rfl rfl rfl hc6) rfl rfl (OV.quiet (ov_eql rfl rfl rfl)) ?_
       refine wq rfl rfl rfl (ov_pick_false rfl (guard_eq rfl hc6) rfl) ?_
       exact WL.nil ⟨Sub.cons' rfl (congrArg Value.bool (orF hc6)) (Sub.skip rfl (Sub.skip rfl (Sub.skip rfl (Sub.refl _)))), fun _ s => s⟩
     refine wq rfl rfl rfl (ov_move rfl rfl) ?_
     refine WL.cut_bool 8 51 (x := (((!r3.2) || (i1 == 0)) || (decide ((IntKind.wrap .i64 (i1 + (x1.length : Int))) < (p_s.length : Int))))) ?_ ?_
     ·
      rcases Bool.eq_false_or_eq_true ((!r3.2) || (i1 == 0)) with hc7 | hc7
      ·
       skip
       refine WL.idle (Idle.no rfl rfl rfl hc7) rfl rfl ?_
       refine WL.idle (Idle.no rfl rfl rfl hc7) rfl rfl ?_
       refine WL.idle (Idle.no rfl rfl rfl hc7) rfl rfl ?_
       refine WL.idle (Idle.no rfl rfl rfl hc7) rfl rfl ?_
       refine WL.idle (Idle.no rfl rfl rfl hc7) rfl rfl ?_
       refine WL.idle (Idle.no rfl rfl rfl hc7) rfl rfl ?_
       refine WL.idle (Idle.no rfl rfl rfl hc7) rfl rfl ?_
       refine wq rfl rfl rfl (ov_pick_true rfl (guard_eq rfl hc7) rfl) ?_
       exact WL.nil ⟨Sub.cons' rfl (congrArg Value.bool (orT hc7)) (Sub.skip rfl (Sub.skip rfl (Sub.skip rfl (Sub.skip rfl (Sub.skip rfl (Sub.skip rfl (Sub.skip rfl (Sub.skip rfl (Sub.refl _))))))))), fun _ s => s⟩
      ·
       skip
       refine WL.quiet (Runs.yes rfl rfl rfl hc7) rfl rfl (OV.quiet (ov_move rfl rfl)) ?_
       refine WL.quiet (Runs.yes rfl rfl rfl hc7) rfl rfl (OV.quiet (ov_move rfl rfl)) ?_
       refine WL.quiet (Runs.yes rfl rfl rfl hc7) rfl rfl (OV.quiet (ov_len_string Tryz.underlying9 rfl rfl)) ?_
       refine WL.quiet (Runs.yes rfl rfl rfl hc7) rfl rfl (OV.quiet (ov_add rfl rfl rfl)) ?_
       refine WL.quiet (Runs.yes rfl rfl rfl hc7) rfl rfl (OV.quiet (ov_load_box (i := 9) Tryz.isAgg9 rfl rfl rfl rfl)) ?_
       refine WL.quiet (Runs.yes rfl rfl rfl hc7) rfl rfl (OV.quiet (ov_len_string Tryz.underlying9 rfl rfl)) ?_
       refine WL.quiet (Runs.yes rfl rfl rfl hc7) rfl rfl (OV.quiet (ov_lss rfl rfl rfl)) ?_
       refine wq rfl rfl rfl (ov_pick_false rfl (guard_eq rfl hc7) rfl) ?_
       exact WL.nil ⟨Sub.cons' rfl (congrArg Value.bool (orF hc7)) (Sub.skip rfl (Sub.skip rfl (Sub.skip rfl (Sub.skip rfl (Sub.skip rfl (Sub.skip rfl (Sub.skip rfl (Sub.skip rfl (Sub.refl _))))))))), fun _ s => s⟩
     refine WL.nil (then_normal ?_)
     refine WP.cond rfl (fun hc8 => ?_) (fun hc8 => ?_)
     ·
      replace hm := ite_t hc8 hm
      refine WP.seq (WP.region ?_)
      refine wq rfl rfl rfl (ov_build (r := (.agg #[(.slice none 0 0), (.int .i64 0)])) rfl rfl (fun _ => by kernel_rfl)) ?_
      refine WL.step0 (Runs.free rfl) rfl (os_store (i := 8) (vs := [(.slice none 0 0), (.int .i64 0)]) (cs' := [(.slice none 0 0), (.int .i64 0)]) Tryz.sizeOf37 rfl rfl rfl rfl rfl rfl rfl rfl rfl ?_)
      refine WL.step0 (Runs.free rfl) rfl (os_store (i := 7) (vs := [(.int .i64 4)]) (cs' := [(.int .i64 4)]) Tryz.sizeOf28 rfl rfl rfl rfl rfl rfl rfl rfl rfl ?_)
      refine WL.nil (then_normal (WP.ret (then_ret (block_ret (then_ret ?_)))))
      refine round_ret (i := 2) rfl ?_
      refine wq rfl rfl rfl (ov_not rfl rfl) ?_
      refine WL.nil (then_normal (WP.cond_true rfl (WP.ret (then_ret (block_ret (then_ret (then_ret (block_ret ?_))))))))
      refine retQ_ret (v := (.tuple #[])) Tryz.results108 Res.nil rfl (fun w' s => ⟨St w H [.obj l1 (R1 .done (some .ret)), .obj D1 (.deferred (some [])), .blk b7 40 [(.int .i64 r2.1.actuator), (.bool r2.1.out)], .row 40 (encStroke).size l2.length (.slice ao3 l2.length cap3) xs1, .blk b6 9 [(mkS [32])], .blk b5 9 [(mkS p_s)], .blk b4 37 [(.slice ao3 l2.length cap3), (.int .i64 i3)], .blk b3 28 [(.int .i64 4)], .blk b2 37 [(.slice none 0 0), (.int .i64 0)], .blk b1 9 [(mkS p_s)]] H1, ?_, (s.select [2, 3, 0, 1, 4, 5, 6, 7, 8, 9] (by decide) rfl)⟩)
      refine after_ret ?_
      refine block_ret (then_ret ?_)
      obtain rfl := Option.some.inj hm
      refine retQ_retM (i := 0) rfl Tryz.results96 (Res.cell rfl (box_loads (i := 6) Tryz.isAgg37 Tryz.sizeOf37 rfl rfl) (Res.cell rfl (box_load (i := 5) Tryz.isAgg28 rfl) Res.nil)) rfl (fun w' s => ⟨s.below, ?_⟩)
      exact ⟨none, 0, rfl, SL.nil _ _ _, Nat.le_refl _⟩
     ·
      replace hm := ite_f hc8 hm
      refine WP.skip (then_normal (WP.region ?_))
      refine wq rfl rfl rfl (ov_move rfl rfl) ?_
      refine wq rfl rfl rfl (ov_fieldAddr Tryz.underlying37 rfl rfl rfl Tryz.sizeOf3 rfl rfl) ?_
      refine WL.step0 (Runs.free rfl) rfl (os_store (i := 6) (vs := [(.int .i64 r3.1)]) (cs' := [(.slice ao3 l2.length cap3), (.int .i64 r3.1)]) Tryz.sizeOf3 rfl rfl rfl rfl rfl rfl rfl rfl rfl ?_)
      refine WL.nil (block_normal (then_normal ?_))
      exact ⟨r3.1, l2, ao3, cap3, xs1, rl2, (Sub.cons rfl (Sub.nil _)), fun w' s => (s.select [1, 2, 3, 4, 5, 6, 7, 8, 9] (by decide) rfl), hm⟩
   ·
    rintro g' S' ⟨i4, l4, ao5, cap5, xs2, rl5, hsub2, hS2, hm⟩
    replace hm := (congrFun (congrFun hk1 i4) l4).symm.trans hm
    refine round_from (i := 1) hS2 rfl ?_
    refine wq rfl rfl rfl (ov_not rfl rfl) ?_
    refine WL.nil (then_normal (WP.cond_false rfl (WP.skip (then_normal (WP.region ?_)))))
    refine wq rfl rfl rfl (ov_move rfl rfl) ?_
    refine wq rfl rfl rfl (ov_move rfl rfl) ?_
    refine wq rfl rfl rfl (ov_len_string Tryz.underlying9 rfl rfl) ?_
    refine wq rfl rfl rfl (ov_load_box (i := 3) Tryz.isAgg9 rfl rfl rfl rfl) ?_
    refine wq rfl rfl rfl (ov_len_string Tryz.underlying9 rfl rfl) ?_
    refine wq rfl rfl rfl (ov_add rfl rfl rfl) ?_
    refine wq rfl rfl rfl (ov_add rfl rfl rfl) ?_
    refine wq rfl rfl rfl (ov_assign rfl rfl) ?_
    refine WL.nil (block_normal (then_normal (WP.region ?_)))
    refine wq rfl rfl rfl (ov_add rfl rfl rfl) ?_
    refine wq rfl rfl rfl (ov_move rfl rfl) ?_
    refine WL.nil (then_normal ?_)
    exact ⟨(IntKind.wrap .i64 (i1 + (IntKind.wrap .i64 ((x1.length : Int) + (([32] : List UInt8).length : Int))))), (IntKind.wrap .i64 (i2 + 1)), i4, l4, ao5, cap5, xs2, rl5, (Sub.cons rfl (Sub.cons rfl (Sub.cons rfl (Sub.cons rfl (Sub.cons rfl (Sub.cons rfl (Sub.cons rfl (Sub.nil _)))))))), fun w' s => s, hm⟩
  ·
   replace hm := ite_f hc3 hm
   refine WP.exit (then_exit (then_exit (block_here ?_)))
   refine retQ_end (v := (.tuple #[])) Tryz.results108 Res.nil rfl (fun w' s => ⟨St w H [.obj l1 (R1 .ready none), .obj D1 (.deferred (some [])), .row 40 (encStroke).size l2.length (.slice ao3 l2.length cap3) xs1, .blk b6 9 [(mkS [32])], .blk b5 9 [(mkS p_s)], .blk b4 37 [(.slice ao3 l2.length cap3), (.int .i64 i3)], .blk b3 28 [(.int .i64 0)], .blk b2 37 [(.slice none 0 0), (.int .i64 0)], .blk b1 9 [(mkS p_s)]] H1, ?_, (s.select [1, 2, 0, 3, 4, 5, 6, 7, 8] (by decide) rfl)⟩)
   refine after_normal ?_
   refine block_normal (then_normal (WP.seq ?_))
   refine WP.region_any (S₀ := St w H [.obj D1 (.deferred (some [])), .row 40 (encStroke).size l2.length (.slice ao3 l2.length cap3) xs1, .blk b6 9 [(mkS [32])], .blk b5 9 [(mkS p_s)], .blk b4 37 [(.slice ao3 l2.length cap3), (.int .i64 i3)], .blk b1 9 [(mkS p_s)]] H1) 5 rfl (by kernel_rfl) (fun w' s => (s.select [0, 1, 2, 3, 4, 7] (by decide) rfl)) (fun _ s => s.drew) ?_
   refine tq (i := 0) rfl (by kernel_rfl) rfl rfl rfl (ov_load_whole (i := 4) Tryz.isAgg37 Tryz.sizeOf37 rfl rfl rfl rfl) ?_
   refine tq (i := 1) rfl (by kernel_rfl) rfl rfl rfl (ov_load_whole (i := 4) Tryz.isAgg37 Tryz.sizeOf37 rfl rfl rfl rfl) ?_
   refine AL.any (rs := [2]) (by kernel_rfl) (by decide) ?_
   refine ALs.cons (i := 2) rfl (Runs.free rfl) rfl rfl ?_ ?_
   ·
    skip
    obtain ⟨r4, e6, hm⟩ := bind_some hm
    refine OQ.step (oq_con (r := (.int .i64 r4)) Tryz.call73 rfl rfl (fun w' s => ⟨_, (stroke_CheckStep_con (Step.mk l2 i3) ao3 cap3 w' (hp w') (Le.refl _) (s.row_arg (i := 1) rfl rl2).1 (s.row_arg (i := 1) rfl rl2).2 (hG.mono s.hold) r4 e6)⟩)) ?_
    refine ⟨fun w' s => (s.select [0, 1, 2, 3, 4, 7] (by decide) rfl), ?_⟩
    refine AL.any (rs := [3]) (by kernel_rfl) (by decide) ?_
    refine ALs.cons0 (i := 3) rfl (Runs.free rfl) rfl ?_ ?_
    ·
     skip
     refine os_store (i := 6) (vs := [(.slice ao3 l2.length cap3), (.int .i64 i3)]) (cs' := [(.slice ao3 l2.length cap3), (.int .i64 i3)]) Tryz.sizeOf37 rfl rfl rfl rfl rfl rfl rfl rfl rfl ?_
     refine ⟨fun w' s => (s.select [0, 1, 2, 3, 4, 7] (by decide) rfl), ?_⟩
     refine AL.any (rs := [4]) (by kernel_rfl) (by decide) ?_
     refine ALs.cons0 (i := 4) rfl (Runs.free rfl) rfl ?_ ?_
     ·
      skip
      refine os_store (i := 5) (vs := [(.int .i64 r4)]) (cs' := [(.int .i64 r4)]) Tryz.sizeOf28 rfl rfl rfl rfl rfl rfl rfl rfl rfl ?_
      refine ⟨fun w' s => (s.select [0, 1, 2, 3, 4, 7] (by decide) rfl), ?_⟩
      refine AL.done (by kernel_rfl) ?_
      refine then_normal (WP.ret ?_)
      obtain rfl := Option.some.inj hm
      refine retQ_retM (i := 0) rfl Tryz.results96 (Res.cell rfl (box_loads (i := 5) Tryz.isAgg37 Tryz.sizeOf37 rfl rfl) (Res.cell rfl (box_load (i := 4) Tryz.isAgg28 rfl) Res.nil)) rfl (fun w' s => ⟨s.below, ?_⟩)
      obtain ⟨h8, hc9⟩ := s.ret_row (i := 0) rfl rl2
      exact ⟨ao3, cap3, rfl, h8, hc9⟩
     exact ALs.nil
    exact ALs.nil
   exact ALs.nil

theorem stroke_Parse_con (p_s : (List UInt8)) (w : World) (H : Heap) (hH : Le H (hp w)) (hG : Glob H) (r : ((List Step) × Int × Int)) (hm : stroke_Parse p_s = some r) :
  Con Tryz.prog 77 [(mkS p_s)] w H (fun v H' => ∃ (ao1 : Option Addr) (cap1 : Nat), v = (.tuple #[(.slice ao1 r.1.length cap1), (.int .i64 r.2.1), (.int .i64 r.2.2)]) ∧ SL H' encStep ao1 r.1 ∧ r.1.length ≤ cap1) := by
 unfold stroke_Parse at hm
 refine con_of hH Tryz.func77 rfl 37 Tryz.ntmps77 rfl ?_
 refine WP.seq (WP.region ?_)
 refine WL.step (Runs.free rfl) rfl rfl (os_alloc (cs := [(.slice none 0 0)]) Tryz.zeroValue22 rfl rfl (fun b1 => ?_))
 refine WL.step (Runs.free rfl) rfl rfl (os_alloc (cs := [(.int .i64 0)]) Tryz.zeroValue3 rfl rfl (fun b2 => ?_))
 refine WL.step (Runs.free rfl) rfl rfl (os_alloc (cs := [(.int .i64 0)]) Tryz.zeroValue28 rfl rfl (fun b3 => ?_))
 refine WL.nil (then_normal (WP.seq (WP.seq (WP.region ?_))))
 refine wq rfl rfl rfl (ov_move rfl rfl) ?_
 refine wq rfl rfl rfl (ov_len_string Tryz.underlying9 rfl rfl) ?_
 refine wq rfl rfl rfl (ov_gtr rfl rfl rfl) ?_
 refine WL.nil (then_normal ?_)
 refine WP.cond rfl (fun hc2 => ?_) (fun hc2 => ?_)
 ·
  replace hm := ite_t hc2 hm
  refine WP.seq (WP.region ?_)
  refine WL.step0 (Runs.free rfl) rfl (os_store (i := 2) (vs := [(.slice none 0 0)]) (cs' := [(.slice none 0 0)]) Tryz.sizeOf22 rfl rfl rfl rfl rfl rfl rfl rfl rfl ?_)
  refine WL.step0 (Runs.free rfl) rfl (os_store (i := 1) (vs := [(.int .i64 0)]) (cs' := [(.int .i64 0)]) Tryz.sizeOf3 rfl rfl rfl rfl rfl rfl rfl rfl rfl ?_)
  refine WL.step0 (Runs.free rfl) rfl (os_store (i := 0) (vs := [(.int .i64 17)]) (cs' := [(.int .i64 17)]) Tryz.sizeOf28 rfl rfl rfl rfl rfl rfl rfl rfl rfl ?_)
  refine WL.nil (then_normal (WP.ret (then_ret ?_)))
  obtain rfl := Option.some.inj hm
  refine retQ_ret Tryz.results77 (Res.cell rfl (box_load (i := 2) Tryz.isAgg22 rfl) (Res.cell rfl (box_load (i := 1) Tryz.isAgg3 rfl) (Res.cell rfl (box_load (i := 0) Tryz.isAgg28 rfl) Res.nil))) rfl (fun w' s => ⟨s.below, ?_⟩)
  exact ⟨none, 0, rfl, SL.nil _ _ _, Nat.le_refl _⟩
 ·
  replace hm := ite_f hc2 hm
  refine WP.skip (then_normal (WP.seq (WP.seq (WP.region ?_))))
  refine wq rfl rfl rfl (ov_move rfl rfl) ?_
  refine wq rfl rfl rfl (ov_seql rfl rfl rfl) ?_
  refine WL.nil (then_normal ?_)
  refine WP.cond rfl (fun hc3 => ?_) (fun hc3 => ?_)
  ·
   replace hm := ite_t hc3 hm
   refine WP.seq (WP.region ?_)
   refine WL.step0 (Runs.free rfl) rfl (os_store (i := 2) (vs := [(.slice none 0 0)]) (cs' := [(.slice none 0 0)]) Tryz.sizeOf22 rfl rfl rfl rfl rfl rfl rfl rfl rfl ?_)
   refine WL.step0 (Runs.free rfl) rfl (os_store (i := 1) (vs := [(.int .i64 0)]) (cs' := [(.int .i64 0)]) Tryz.sizeOf3 rfl rfl rfl rfl rfl rfl rfl rfl rfl ?_)
   refine WL.step0 (Runs.free rfl) rfl (os_store (i := 0) (vs := [(.int .i64 0)]) (cs' := [(.int .i64 0)]) Tryz.sizeOf28 rfl rfl rfl rfl rfl rfl rfl rfl rfl ?_)
   refine WL.nil (then_normal (WP.ret (then_ret ?_)))
   obtain rfl := Option.some.inj hm
   refine retQ_ret Tryz.results77 (Res.cell rfl (box_load (i := 2) Tryz.isAgg22 rfl) (Res.cell rfl (box_load (i := 1) Tryz.isAgg3 rfl) (Res.cell rfl (box_load (i := 0) Tryz.isAgg28 rfl) Res.nil))) rfl (fun w' s => ⟨s.below, ?_⟩)
   exact ⟨none, 0, rfl, SL.nil _ _ _, Nat.le_refl _⟩
  ·
   replace hm := ite_f hc3 hm
   refine WP.skip (then_normal (WP.seq (WP.region ?_)))
   refine WL.step (Runs.free rfl) rfl rfl (os_alloc (cs := [(.slice none 0 0)]) Tryz.zeroValue22 rfl rfl (fun b4 => ?_))
   refine WL.nil (then_normal (WP.seq (WP.seq (WP.region ?_))))
   refine wq rfl rfl rfl (ov_move rfl rfl) ?_
   refine WL.step (Runs.free rfl) rfl rfl (os_inline (cap := []) (vs := [(mkS p_s), (mkS [59, 32])]) Tryz.call95 rfl rfl rfl Tryz.func95 rfl 6 Tryz.ntmps95 rfl (fun w' s => ?_))
   refine WP.seq (WP.region ?_)
   refine WL.step (Runs.free rfl) rfl rfl (os_box (cs := [(mkS p_s)]) rfl rfl rfl (fun b5 => ?_))
   refine WL.step (Runs.free rfl) rfl rfl (os_box (cs := [(mkS [59, 32])]) rfl rfl rfl (fun b6 => ?_))
   refine wq rfl rfl rfl (ov_assign rfl rfl) ?_
   refine WL.nil (then_normal (WP.seq (WP.region ?_)))
   refine wq rfl rfl rfl (ov_makeFunc' (first := []) rfl rfl rfl) ?_
   refine wq rfl rfl rfl (ov_assign rfl rfl) ?_
   refine WL.nil (then_normal (WP.ret ?_))
   refine retQ_ret (v := (.func (.func 108) #[] #[(pB b5 0), (pB b6 0)])) Tryz.results95 (Res.tmp rfl Res.nil) rfl (fun w' s => ⟨_, ?_, s⟩)
   refine WL.nil (then_normal (WP.block ?_))
   refine WP.range (ps := [17, 18]) (cap := [(pB b5 0), (pB b6 0)]) Tryz.call108 rfl Tryz.func108 rfl 28 Tryz.ntmps108 rfl (fun l1 D1 R1 hr1 => ?_)
   refine WP.seq (WP.region ?_)
   refine wq rfl rfl rfl (ov_assign rfl rfl) ?_
   refine WL.nil (then_normal (WP.seq (WP.region ?_)))
   refine wq rfl rfl rfl (ov_load_box (i := 3) Tryz.isAgg9 rfl rfl rfl rfl) ?_
   refine wq rfl rfl rfl (ov_load_box (i := 2) Tryz.isAgg9 rfl rfl rfl rfl) ?_
   obtain ⟨r1, e1, hm⟩ := bind_some hm
   refine WL.step (Runs.free rfl) rfl rfl (os_con Tryz.call109 rfl rfl (fun w' s => (splitS_con p_s [59, 32]  w' H s.hold hG r1 e1)) (fun rr1 H1 hle1 hR1 => ?_))
   replace hG := hG.mono hle1
   obtain ⟨ao2, cap2, rfl, h2, hc4⟩ := hR1
   refine wq rfl rfl rfl (ov_len_slice Tryz.underlying127 rfl rfl) ?_
   refine wq rfl rfl rfl (ov_move rfl rfl) ?_
   refine WL.nil (then_normal (WP.block ?_))
   have rl1 := RL.nil (α := Step) H1 encStep
   refine WP.weaken (fun _ s => s.nilrow 37 (encStep).size) ?_
   refine WP.loop (fun m1 g' S' => ∃ (H2 : Heap) (i1 : Int) (i2 : Int) (l2 : (List Step)) (ao3 : Option Addr) (cap3 : Nat) (xs1 : List Value), Le H1 H2 ∧ RL H2 encStep l2 xs1 ∧ Sub [(0, (.func (.yield l1) #[] #[])), (2, (pB b6 0)), (4, (.int .i64 i1)), (9, (.slice ao2 r1.length cap2)), (10, (.int .i64 (r1.length : Int))), (11, (.int .i64 i2)), (1000000007, (.bool false))] g' ∧ (∀ w', S' w' → St w H [.row 37 (encStep).size l2.length (.slice ao3 l2.length cap3) xs1, .obj l1 (R1 .ready none), .obj D1 (.deferred (some [])), .blk b6 9 [(mkS [59, 32])], .blk b5 9 [(mkS p_s)], .blk b4 22 [(.slice ao3 l2.length cap3)], .blk b3 28 [(.int .i64 0)], .blk b2 3 [(.int .i64 0)], .blk b1 22 [(.slice none 0 0)]] H2 w') ∧ stroke_Parse_loop1 r1 m1 i1 i2 l2 = some r) ((Int.toNat ((r1.length : Int) - 0) + 1)) ⟨H1, 0, 0, ([] : List Step), none, 0, [], (Le.refl _), rl1, (Sub.cons rfl (Sub.cons rfl (Sub.cons rfl (Sub.cons rfl (Sub.cons rfl (Sub.cons rfl (Sub.cons rfl (Sub.nil _)))))))), fun w' s => s, hm⟩ ?_ ?_
   ·
    rintro g' S' ⟨_, _, _, _, _, _, _, _, _, _, _, hm⟩
    exact none_some hm
   ·
    rintro m1 g' S' ⟨H2, i1, i2, l2, ao3, cap3, xs1, hle2, rl2, hsub1, hS1, hm⟩
    refine WP.sub hsub1 (WP.weaken hS1 ?_)
    rw [stroke_Parse_loop1] at hm
    replace h2 := h2.mono hle2
    replace hG := hG.mono hle2
    refine WP.seq (WP.region ?_)
    refine wq rfl rfl rfl (ov_lss rfl rfl rfl) ?_
    refine WL.nil (then_normal (WP.seq ?_))
    refine WP.cond rfl (fun hc5 => ?_) (fun hc5 => ?_)
    ·
     replace hm := ite_t hc5 hm
     refine WP.skip (then_normal (WP.seq (WP.block (WP.seq (WP.region ?_)))))
     obtain ⟨x1, e2, hm⟩ := bind_some hm
     obtain ⟨h3, h4, h5, cs1, h6, h7⟩ := h2.get e2 (by decide)
     obtain rfl : cs1 = [(mkS x1)] := h6
     refine wq rfl rfl rfl (ov_indexAddr Tryz.underlying127 Tryz.sizeOf9 rfl rfl rfl h3 h4 h5) ?_
     refine wq rfl rfl rfl (ov_load_elem (v := (mkS x1)) Tryz.isAgg9 rfl rfl h7) ?_
     refine wq rfl rfl rfl (ov_assign rfl rfl) ?_
     refine WL.nil (then_normal (WP.seq (WP.seq (WP.region ?_))))
     refine wq rfl rfl rfl (ov_move rfl rfl) ?_
     refine wq rfl rfl rfl (ov_move rfl rfl) ?_
     refine wq rfl rfl rfl (ov_move rfl rfl) ?_
     refine WL.yield (i := 1) (vs := [(.int .i64 i1), (mkS x1)]) (Runs.free rfl) rfl rfl rfl rfl rfl hr1 rfl rfl rfl ?_
     refine WP.seq (WP.region ?_)
     refine wq rfl rfl rfl (ov_assign rfl rfl) ?_
     refine WL.nil (then_normal (WP.region ?_))
     refine wq rfl rfl rfl (ov_assign rfl rfl) ?_
     refine WL.nil (then_normal ?_)
     refine begin_of (i := 1) rfl ?_
     refine WP.block (WP.seq (WP.seq (WP.region ?_)))
     refine wq rfl rfl rfl (ov_load_box (i := 5) Tryz.isAgg22 rfl rfl rfl rfl) ?_
     refine wq rfl rfl rfl (ov_len_slice Tryz.underlying22 rfl rfl) ?_
     refine wq rfl rfl rfl (ov_eql rfl rfl rfl) ?_
     refine WL.nil (then_normal ?_)
     refine WP.cond rfl (fun hc6 => ?_) (fun hc6 => ?_)
     ·
      replace hm := ite_t hc6 hm
      refine WP.seq (WP.region ?_)
      refine wq rfl rfl rfl (ov_move rfl rfl) ?_
      refine WL.step0 (Runs.free rfl) rfl (os_store (i := 8) (vs := [(.slice none 0 0)]) (cs' := [(.slice none 0 0)]) Tryz.sizeOf22 rfl rfl rfl rfl rfl rfl rfl rfl rfl ?_)
      refine WL.step0 (Runs.free rfl) rfl (os_store (i := 7) (vs := [(.int .i64 i1)]) (cs' := [(.int .i64 i1)]) Tryz.sizeOf3 rfl rfl rfl rfl rfl rfl rfl rfl rfl ?_)
      refine WL.step0 (Runs.free rfl) rfl (os_store (i := 6) (vs := [(.int .i64 5)]) (cs' := [(.int .i64 5)]) Tryz.sizeOf28 rfl rfl rfl rfl rfl rfl rfl rfl rfl ?_)
      refine WL.nil (then_normal (WP.ret (then_ret (block_ret ?_))))
      refine round_ret (i := 1) rfl ?_
      refine wq rfl rfl rfl (ov_not rfl rfl) ?_
      refine WL.nil (then_normal (WP.cond_true rfl (WP.ret (then_ret (block_ret (then_ret (then_ret (block_ret ?_))))))))
      refine retQ_ret (v := (.tuple #[])) Tryz.results108 Res.nil rfl (fun w' s => ⟨St w H [.obj l1 (R1 .done (some .ret)), .obj D1 (.deferred (some [])), .row 37 (encStep).size l2.length (.slice ao3 l2.length cap3) xs1, .blk b6 9 [(mkS [59, 32])], .blk b5 9 [(mkS p_s)], .blk b4 22 [(.slice ao3 l2.length cap3)], .blk b3 28 [(.int .i64 5)], .blk b2 3 [(.int .i64 i1)], .blk b1 22 [(.slice none 0 0)]] H2, ?_, (s.select [1, 2, 0, 3, 4, 5, 6, 7, 8] (by decide) rfl)⟩)
      refine after_ret ?_
      refine block_ret (then_ret ?_)
      obtain rfl := Option.some.inj hm
      refine retQ_retM (i := 0) rfl Tryz.results77 (Res.cell rfl (box_load (i := 6) Tryz.isAgg22 rfl) (Res.cell rfl (box_load (i := 5) Tryz.isAgg3 rfl) (Res.cell rfl (box_load (i := 4) Tryz.isAgg28 rfl) Res.nil))) rfl (fun w' s => ⟨s.below, ?_⟩)
      exact ⟨none, 0, rfl, SL.nil _ _ _, Nat.le_refl _⟩
     ·
      replace hm := ite_f hc6 hm
      refine WP.skip (then_normal (WP.seq (WP.region ?_)))
      refine wq rfl rfl rfl (ov_move rfl rfl) ?_
      obtain ⟨r2, e3, hm⟩ := bind_some hm
      refine WL.step (Runs.free rfl) rfl rfl (os_con Tryz.call96 rfl rfl (fun w' s => (stroke_step_con x1  w' H2 s.hold hG r2 e3)) (fun rr2 H3 hle3 hR2 => ?_))
      replace h2 := h2.mono hle3
      replace h7 := h7.mono hle3
      replace rl2 := rl2.mono hle3
      replace hG := hG.mono hle3
      obtain ⟨ao4, cap4, rfl, h8, hc7⟩ := hR2
      refine wq rfl rfl rfl (ov_move rfl rfl) ?_
      refine wq rfl rfl rfl (ov_extract rfl rfl rfl) ?_
      refine wq rfl rfl rfl (ov_extract rfl rfl rfl) ?_
      refine WL.step (Runs.free rfl) rfl rfl (os_alloc (cs := [(.slice none 0 0), (.int .i64 0)]) Tryz.zeroValue37 rfl rfl (fun b7 => ?_))
      refine WL.step0 (Runs.free rfl) rfl (os_store (i := 0) (vs := [(.slice ao4 r2.1.strokes.length cap4), (.int .i64 r2.1.wait)]) (cs' := [(.slice ao4 r2.1.strokes.length cap4), (.int .i64 r2.1.wait)]) Tryz.sizeOf37 rfl rfl rfl rfl rfl rfl rfl rfl rfl ?_)
      refine wq rfl rfl rfl (ov_assign rfl rfl) ?_
      refine WL.nil (then_normal (WP.seq (WP.seq (WP.region ?_))))
      refine wq rfl rfl rfl (ov_move rfl rfl) ?_
      refine wq rfl rfl rfl (ov_neq rfl rfl rfl) ?_
      refine WL.nil (then_normal ?_)
      refine WP.cond rfl (fun hc8 => ?_) (fun hc8 => ?_)
      ·
       replace hm := ite_t hc8 hm
       refine WP.seq (WP.region ?_)
       refine wq rfl rfl rfl (ov_move rfl rfl) ?_
       refine wq rfl rfl rfl (ov_move rfl rfl) ?_
       refine WL.step0 (Runs.free rfl) rfl (os_store (i := 9) (vs := [(.slice none 0 0)]) (cs' := [(.slice none 0 0)]) Tryz.sizeOf22 rfl rfl rfl rfl rfl rfl rfl rfl rfl ?_)
       refine WL.step0 (Runs.free rfl) rfl (os_store (i := 8) (vs := [(.int .i64 i1)]) (cs' := [(.int .i64 i1)]) Tryz.sizeOf3 rfl rfl rfl rfl rfl rfl rfl rfl rfl ?_)
       refine WL.step0 (Runs.free rfl) rfl (os_store (i := 7) (vs := [(.int .i64 r2.2)]) (cs' := [(.int .i64 r2.2)]) Tryz.sizeOf28 rfl rfl rfl rfl rfl rfl rfl rfl rfl ?_)
       refine WL.nil (then_normal (WP.ret (then_ret (block_ret ?_))))
       refine round_ret (i := 2) rfl ?_
       refine wq rfl rfl rfl (ov_not rfl rfl) ?_
       refine WL.nil (then_normal (WP.cond_true rfl (WP.ret (then_ret (block_ret (then_ret (then_ret (block_ret ?_))))))))
       refine retQ_ret (v := (.tuple #[])) Tryz.results108 Res.nil rfl (fun w' s => ⟨St w H [.obj l1 (R1 .done (some .ret)), .obj D1 (.deferred (some [])), .blk b7 37 [(.slice ao4 r2.1.strokes.length cap4), (.int .i64 r2.1.wait)], .row 37 (encStep).size l2.length (.slice ao3 l2.length cap3) xs1, .blk b6 9 [(mkS [59, 32])], .blk b5 9 [(mkS p_s)], .blk b4 22 [(.slice ao3 l2.length cap3)], .blk b3 28 [(.int .i64 r2.2)], .blk b2 3 [(.int .i64 i1)], .blk b1 22 [(.slice none 0 0)]] H3, ?_, (s.select [2, 3, 0, 1, 4, 5, 6, 7, 8, 9] (by decide) rfl)⟩)
       refine after_ret ?_
       refine block_ret (then_ret ?_)
       obtain rfl := Option.some.inj hm
       refine retQ_retM (i := 0) rfl Tryz.results77 (Res.cell rfl (box_load (i := 7) Tryz.isAgg22 rfl) (Res.cell rfl (box_load (i := 6) Tryz.isAgg3 rfl) (Res.cell rfl (box_load (i := 5) Tryz.isAgg28 rfl) Res.nil))) rfl (fun w' s => ⟨s.below, ?_⟩)
       exact ⟨none, 0, rfl, SL.nil _ _ _, Nat.le_refl _⟩
      ·
       replace hm := ite_f hc8 hm
       refine WP.skip (then_normal (WP.region ?_))
       refine wq rfl rfl rfl (ov_load_box (i := 6) Tryz.isAgg22 rfl rfl rfl rfl) ?_
       refine wq rfl rfl rfl (ov_load_whole (i := 0) Tryz.isAgg37 Tryz.sizeOf37 rfl rfl rfl rfl) ?_
       have rl3 : RL H3 encStep ([r2.1] : List Step) [(.slice ao4 r2.1.strokes.length cap4), (.int .i64 r2.1.wait)] := RL.cons (cs := [(.slice ao4 r2.1.strokes.length cap4), (.int .i64 r2.1.wait)]) (xs := []) ⟨ao4, cap4, rfl, h8, hc7⟩ (RL.nil _ _)
       refine WL.step (Runs.free rfl) rfl rfl (os_buildSlice (cs := [(.slice ao4 r2.1.strokes.length cap4), (.int .i64 r2.1.wait)]) (E := 37) (sz := 2) rfl rfl (fun _ => by kernel_rfl) rfl (by decide) (fun b8 => ?_))
       obtain ⟨l3, e4, hm⟩ := bind_some hm
       refine WL.step (Runs.free rfl) rfl rfl (os_app (i := 2) (j := 0) (En := encStep) (xs := xs1) (ys := [(.slice ao4 r2.1.strokes.length cap4), (.int .i64 r2.1.wait)]) Tryz.underlying22 (by kernel_rfl : (Tryz.prog.info? 37).map (fun i => (i.zero, i.size, i.bytes)) = some (some (.agg #[(.slice none 0 0), (.int .i64 0)]), (encStep).size, 32)) rfl (by decide) rfl rfl rfl rfl rfl rfl rl2 rl3 e4 (fun ao5 cap5 rl4 => ?_))
       refine WL.step0 (Runs.free rfl) rfl (os_store (i := 7) (vs := [(.slice ao5 (l2 ++ ([r2.1] : List Step)).length cap5)]) (cs' := [(.slice ao5 (l2 ++ ([r2.1] : List Step)).length cap5)]) Tryz.sizeOf22 rfl rfl rfl rfl rfl rfl rfl rfl rfl ?_)
       refine WL.nil (block_normal ?_)
       refine round_normal (i := 3) rfl ?_
       refine wq rfl rfl rfl (ov_not rfl rfl) ?_
       refine WL.nil (then_normal (WP.cond_false rfl (WP.skip (then_normal (WP.region ?_)))))
       refine wq rfl rfl rfl (ov_move rfl rfl) ?_
       refine wq rfl rfl rfl (ov_move rfl rfl) ?_
       refine wq rfl rfl rfl (ov_len_string Tryz.underlying9 rfl rfl) ?_
       refine wq rfl rfl rfl (ov_load_box (i := 5) Tryz.isAgg9 rfl rfl rfl rfl) ?_
       refine wq rfl rfl rfl (ov_len_string Tryz.underlying9 rfl rfl) ?_
       refine wq rfl rfl rfl (ov_add rfl rfl rfl) ?_
       refine wq rfl rfl rfl (ov_add rfl rfl rfl) ?_
       refine wq rfl rfl rfl (ov_assign rfl rfl) ?_
       refine WL.nil (block_normal (then_normal (WP.region ?_)))
       refine wq rfl rfl rfl (ov_add rfl rfl rfl) ?_
       refine wq rfl rfl rfl (ov_move rfl rfl) ?_
       refine WL.nil (then_normal ?_)
       exact ⟨H3, (IntKind.wrap .i64 (i1 + (IntKind.wrap .i64 ((x1.length : Int) + (([59, 32] : List UInt8).length : Int))))), (IntKind.wrap .i64 (i2 + 1)), (l2 ++ ([r2.1] : List Step)), ao5, cap5, (xs1 ++ [(.slice ao4 r2.1.strokes.length cap4), (.int .i64 r2.1.wait)]), (hle2.trans hle3), rl4, (Sub.cons rfl (Sub.cons rfl (Sub.cons rfl (Sub.cons rfl (Sub.cons rfl (Sub.cons rfl (Sub.cons rfl (Sub.nil _)))))))), fun w' s => (s.select [2, 3, 4, 5, 6, 7, 8, 9, 10] (by decide) rfl), hm⟩
    ·
     replace hm := ite_f hc5 hm
     refine WP.exit (then_exit (then_exit (block_here ?_)))
     refine retQ_end (v := (.tuple #[])) Tryz.results108 Res.nil rfl (fun w' s => ⟨St w H [.obj l1 (R1 .ready none), .obj D1 (.deferred (some [])), .row 37 (encStep).size l2.length (.slice ao3 l2.length cap3) xs1, .blk b6 9 [(mkS [59, 32])], .blk b5 9 [(mkS p_s)], .blk b4 22 [(.slice ao3 l2.length cap3)], .blk b3 28 [(.int .i64 0)], .blk b2 3 [(.int .i64 0)], .blk b1 22 [(.slice none 0 0)]] H2, ?_, (s.select [1, 2, 0, 3, 4, 5, 6, 7, 8] (by decide) rfl)⟩)
     refine after_normal ?_
     refine block_normal (then_normal (WP.seq (WP.region ?_)))
     refine wq rfl rfl rfl (ov_load_box (i := 4) Tryz.isAgg22 rfl rfl rfl rfl) ?_
     refine WL.step0 (Runs.free rfl) rfl (os_store (i := 7) (vs := [(.slice ao3 l2.length cap3)]) (cs' := [(.slice ao3 l2.length cap3)]) Tryz.sizeOf22 rfl rfl rfl rfl rfl rfl rfl rfl rfl ?_)
     refine WL.step0 (Runs.free rfl) rfl (os_store (i := 6) (vs := [(.int .i64 0)]) (cs' := [(.int .i64 0)]) Tryz.sizeOf3 rfl rfl rfl rfl rfl rfl rfl rfl rfl ?_)
     refine WL.step0 (Runs.free rfl) rfl (os_store (i := 5) (vs := [(.int .i64 0)]) (cs' := [(.int .i64 0)]) Tryz.sizeOf28 rfl rfl rfl rfl rfl rfl rfl rfl rfl ?_)
     refine WL.nil (then_normal (WP.ret ?_))
     obtain rfl := Option.some.inj hm
     refine retQ_retM (i := 0) rfl Tryz.results77 (Res.cell rfl (box_load (i := 6) Tryz.isAgg22 rfl) (Res.cell rfl (box_load (i := 5) Tryz.isAgg3 rfl) (Res.cell rfl (box_load (i := 4) Tryz.isAgg28 rfl) Res.nil))) rfl (fun w' s => ⟨s.below, ?_⟩)
     obtain ⟨h9, hc9⟩ := s.ret_row (i := 0) rfl rl2
     exact ⟨ao3, cap3, rfl, h9, hc9⟩

end Go.Proofs.YtbhcojijafbdiaaGreatDoor.W
