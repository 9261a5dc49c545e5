/- The walks. Written by our own program gen.py; Lean checks it. -/
import Derived.Test.YtbhcojijafbdiaaGreatDoorPlain
import Derived.Test.YtbhcojijafbdiaaGreatDoorEqs
import Derived.Test.YtbhcojijafbdiaaGreatDoorProg
import Derived.Test.YtbhcojijafbdiaaGreatDoorExt
import Derived.Test.YtbhcojijafbdiaaGreatDoorClone
import Derived.Test.YtbhcojijafbdiaaGreatDoorCloneS
import Derived.Test.YtbhcojijafbdiaaGreatDoorWalk2
set_option linter.unusedVariables false
set_option maxRecDepth 100000
set_option maxHeartbeats 4000000
namespace Go.Proofs.YtbhcojijafbdiaaGreatDoor.W
open Go Go.RowKit
theorem slices_Equal_boolbool_con (p_s1 : (List Bool)) (p_s2 : (List Bool)) (ao1 : Option Addr) (cap1 : Nat) (ao2 : Option Addr) (cap2 : Nat) (w : World) (H : Heap) (hH : Le H (hp w)) (h1 : SL H encBool ao1 p_s1) (hc1 : p_s1.length ≤ cap1) (h2 : SL H encBool ao2 p_s2) (hc2 : p_s2.length ≤ cap2) (hG : Glob H) (r : Bool) (hm : slices_Equal_boolbool p_s1 p_s2 = some r) :
  Con Tryz.prog 39 [(.slice ao1 p_s1.length cap1), (.slice ao2 p_s2.length cap2)] w H (fun v _ => v = (.bool r)) := by
 unfold slices_Equal_boolbool at hm
 refine con_of hH Tryz.func39 rfl 26 Tryz.ntmps39 rfl ?_
 refine WP.seq (WP.region ?_)
 refine wq rfl rfl rfl (ov_assign rfl rfl) ?_
 refine WL.nil (then_normal (WP.seq (WP.seq (WP.region ?_))))
 refine wq rfl rfl rfl (ov_move rfl rfl) ?_
 refine wq rfl rfl rfl (ov_len_slice Tryz.underlying47 rfl rfl) ?_
 refine wq rfl rfl rfl (ov_move rfl rfl) ?_
 refine wq rfl rfl rfl (ov_len_slice Tryz.underlying47 rfl rfl) ?_
 refine wq rfl rfl rfl (ov_neq rfl rfl rfl) ?_
 refine WL.nil (then_normal ?_)
 refine WP.cond rfl (fun hc3 => ?_) (fun hc3 => ?_)
 ·
  replace hm := ite_t hc3 hm
  refine WP.seq (WP.region ?_)
  refine wq rfl rfl rfl (ov_assign rfl rfl) ?_
  refine WL.nil (then_normal (WP.ret (then_ret ?_)))
  obtain rfl := Option.some.inj hm
  refine retQ_ret Tryz.results39 (Res.tmp rfl Res.nil) rfl (fun w' s => ⟨s.below, ?_⟩)
  exact rfl
 ·
  replace hm := ite_f hc3 hm
  refine WP.skip (then_normal ?_)
  obtain ⟨k1, hk1, hm⟩ := joinK_some hm
  refine WP.seq_join (fun g' S' => Sub [(1000000007, (.bool false))] g' ∧ (∀ w', S' w' → St w H [] H w') ∧ k1 = some r) ?_ ?_
  ·
   skip
   refine WP.seq (WP.region ?_)
   refine wq rfl rfl rfl (ov_move rfl rfl) ?_
   refine wq rfl rfl rfl (ov_len_slice Tryz.underlying47 rfl rfl) ?_
   refine wq rfl rfl rfl (ov_move rfl rfl) ?_
   refine WL.nil (then_normal (WP.block ?_))
   refine WP.loop (fun m1 g' S' => ∃ (i1 : Int), Sub [(0, (.slice ao1 p_s1.length cap1)), (1, (.slice ao2 p_s2.length cap2)), (12, (.int .i64 (p_s1.length : Int))), (13, (.int .i64 i1)), (1000000007, (.bool false))] g' ∧ (∀ w', S' w' → St w H [] H w') ∧ slices_Equal_boolbool_loop1 p_s1 p_s2 k1 m1 i1 = some r) ((Int.toNat ((p_s1.length : Int) - 0) + 1)) ⟨0, (Sub.cons rfl (Sub.cons rfl (Sub.cons rfl (Sub.cons rfl (Sub.cons rfl (Sub.nil _)))))), fun w' s => s, hm⟩ ?_ ?_
   ·
    rintro g' S' ⟨_, _, _, hm⟩
    exact none_some hm
   ·
    rintro m1 g' S' ⟨i1, hsub1, hS1, hm⟩
    refine WP.sub hsub1 (WP.weaken hS1 ?_)
    rw [slices_Equal_boolbool_loop1] at hm
    refine WP.seq (WP.region ?_)
    refine wq rfl rfl rfl (ov_lss rfl rfl rfl) ?_
    refine WL.nil (then_normal (WP.seq ?_))
    refine WP.cond rfl (fun hc4 => ?_) (fun hc4 => ?_)
    ·
     replace hm := ite_t hc4 hm
     refine WP.skip (then_normal (WP.seq (WP.block (WP.seq (WP.region ?_)))))
     refine wq rfl rfl rfl (ov_move rfl rfl) ?_
     refine wq rfl rfl rfl (ov_assign rfl rfl) ?_
     refine WL.nil (then_normal (WP.seq ?_))
     refine WP.region_draws (by kernel_rfl) (by kernel_rfl) (fun _ s => s.drew) ?_
     refine QL.quiet (Runs.free rfl) rfl rfl (OV.quiet (ov_move rfl rfl)) ?_
     refine QL.quiet (Runs.free rfl) rfl rfl (OV.quiet (ov_move rfl rfl)) ?_
     obtain ⟨x1, e1, hm⟩ := bind_some hm
     obtain ⟨h3, h4, h5, cs1, h6, h7⟩ := h1.get e1 (by decide)
     obtain rfl : cs1 = [(.bool x1)] := h6
     refine QL.quiet (Runs.free rfl) rfl rfl (OV.quiet (ov_indexAddr Tryz.underlying47 Tryz.sizeOf4 rfl rfl rfl h3 h4 h5)) ?_
     refine QL.quiet (Runs.free rfl) rfl rfl (OV.quiet (ov_load_elem (v := (.bool x1)) Tryz.isAgg4 rfl rfl h7)) ?_
     refine QL.quiet (Runs.free rfl) rfl rfl (OV.quiet (ov_move rfl rfl)) ?_
     refine QL.quiet (Runs.free rfl) rfl rfl (OV.quiet (ov_move rfl rfl)) ?_
     obtain ⟨x2, e2, hm⟩ := bind_some hm
     obtain ⟨h8, h9, h10, cs2, h11, h12⟩ := h2.get e2 (by decide)
     obtain rfl : cs2 = [(.bool x2)] := h11
     refine QL.quiet (Runs.free rfl) rfl rfl (OV.quiet (ov_indexAddr Tryz.underlying47 Tryz.sizeOf4 rfl rfl rfl h8 h9 h10)) ?_
     refine QL.quiet (Runs.free rfl) rfl rfl (OV.quiet (ov_load_elem (v := (.bool x2)) Tryz.isAgg4 rfl rfl h12)) ?_
     refine QL.quiet (Runs.free rfl) rfl rfl (OV.quiet (ov_bneq Tryz.underlying4 rfl rfl rfl)) ?_
     refine QL.nil ?_
     refine then_normal ?_
     refine WP.cond rfl (fun hc5 => ?_) (fun hc5 => ?_)
     ·
      replace hm := ite_t hc5 hm
      refine WP.seq (WP.region ?_)
      refine wq rfl rfl rfl (ov_assign rfl rfl) ?_
      refine WL.nil (then_normal (WP.ret (block_ret (then_ret (then_ret (block_ret (then_ret ?_)))))))
      obtain rfl := Option.some.inj hm
      refine retQ_ret Tryz.results39 (Res.tmp rfl Res.nil) rfl (fun w' s => ⟨s.below, ?_⟩)
      exact rfl
     ·
      replace hm := ite_f hc5 hm
      refine WP.skip (block_normal (then_normal (WP.region ?_)))
      refine wq rfl rfl rfl (ov_add rfl rfl rfl) ?_
      refine wq rfl rfl rfl (ov_move rfl rfl) ?_
      refine WL.nil (then_normal ?_)
      exact ⟨(IntKind.wrap .i64 (i1 + 1)), (Sub.cons rfl (Sub.cons rfl (Sub.cons rfl (Sub.cons rfl (Sub.cons rfl (Sub.nil _)))))), fun w' s => s, hm⟩
    ·
     replace hm := ite_f hc4 hm
     refine WP.exit (then_exit (then_exit (block_here (then_normal ?_))))
     exact ⟨(Sub.cons rfl (Sub.nil _)), fun w' s => s, hm⟩
  ·
   rintro g' S' ⟨hsub2, hS2, hm⟩
   refine WP.sub hsub2 (WP.weaken hS2 ?_)
   replace hm := hk1.symm.trans hm
   refine WP.seq (WP.region ?_)
   refine wq rfl rfl rfl (ov_assign rfl rfl) ?_
   refine WL.nil (then_normal (WP.ret ?_))
   obtain rfl := Option.some.inj hm
   refine retQ_ret Tryz.results39 (Res.tmp rfl Res.nil) rfl (fun w' s => ⟨s.below, ?_⟩)
   exact rfl

theorem ref03_Digits_con (p_n : Int) (w : World) (H : Heap) (hH : Le H (hp w)) (hG : Glob H) (r : (List UInt8)) (hm : ref03_Digits p_n = some r) :
  Con Tryz.prog 107 [(.int .i64 p_n)] w H (fun v _ => v = (mkS r)) := by
 unfold ref03_Digits at hm
 refine con_of hH Tryz.func107 rfl 23 Tryz.ntmps107 rfl ?_
 refine WP.seq (WP.region ?_)
 refine wq rfl rfl rfl (ov_assign rfl rfl) ?_
 refine WL.nil (then_normal (WP.seq (WP.region ?_)))
 refine wq rfl rfl rfl (ov_assign rfl rfl) ?_
 refine WL.nil (then_normal ?_)
 obtain ⟨k1, hk1, hm⟩ := joinK_some hm
 refine WP.seq_join (fun g' S' => ∃ (s4 : (List UInt8)), Sub [(3, (mkS s4)), (1000000007, (.bool false))] g' ∧ (∀ w', S' w' → St w H [] H w') ∧ k1 s4 = some r) ?_ ?_
 ·
  skip
  refine WP.seq (WP.region ?_)
  refine wq rfl rfl rfl (ov_move rfl rfl) ?_
  refine wq rfl rfl rfl (ov_assign rfl rfl) ?_
  refine WL.nil (then_normal (WP.block ?_))
  refine WP.loop (fun m1 g' S' => ∃ (s1 : (List UInt8)) (i1 : Int), Sub [(3, (mkS s1)), (4, (.int .i64 i1)), (1000000007, (.bool false))] g' ∧ (∀ w', S' w' → St w H [] H w') ∧ ref03_Digits_loop1 k1 m1 s1 i1 = some r) ((p_n.toNat + 2)) ⟨[], p_n, (Sub.cons rfl (Sub.cons rfl (Sub.cons rfl (Sub.nil _)))), fun w' s => s, hm⟩ ?_ ?_
  ·
   rintro g' S' ⟨_, _, _, _, hm⟩
   exact none_some hm
  ·
   rintro m1 g' S' ⟨s1, i1, hsub1, hS1, hm⟩
   refine WP.sub hsub1 (WP.weaken hS1 ?_)
   rw [ref03_Digits_loop1] at hm
   refine WP.seq (WP.seq (WP.region ?_))
   refine wq rfl rfl rfl (ov_move rfl rfl) ?_
   refine wq rfl rfl rfl (ov_gtr rfl rfl rfl) ?_
   refine wq rfl rfl rfl (ov_move rfl rfl) ?_
   refine WL.cut_bool 3 11 (x := ((decide (i1 > 0)) || (s1 == []))) ?_ ?_
   ·
    rcases Bool.eq_false_or_eq_true (decide (i1 > 0)) with hc1 | hc1
    ·
     skip
     refine WL.idle (Idle.no rfl rfl rfl hc1) rfl rfl ?_
     refine WL.idle (Idle.no rfl rfl rfl hc1) rfl rfl ?_
     refine wq rfl rfl rfl (ov_pick_true rfl (guard_eq rfl hc1) rfl) ?_
     exact WL.nil ⟨Sub.cons' rfl (congrArg Value.bool (orT hc1)) (Sub.skip rfl (Sub.skip rfl (Sub.skip rfl (Sub.refl _)))), fun _ s => s⟩
    ·
     skip
     refine WL.quiet (Runs.yes rfl rfl rfl hc1) rfl rfl (OV.quiet (ov_move rfl rfl)) ?_
     refine WL.quiet (Runs.yes rfl rfl rfl hc1) rfl rfl (OV.quiet (ov_seql rfl rfl rfl)) ?_
     refine wq rfl rfl rfl (ov_pick_false rfl (guard_eq rfl hc1) rfl) ?_
     exact WL.nil ⟨Sub.cons' rfl (congrArg Value.bool (orF hc1)) (Sub.skip rfl (Sub.skip rfl (Sub.skip rfl (Sub.refl _)))), fun _ s => s⟩
   refine WL.nil (then_normal ?_)
   refine WP.cond rfl (fun hc2 => ?_) (fun hc2 => ?_)
   ·
    replace hm := ite_t hc2 hm
    refine WP.skip (then_normal (WP.seq (WP.block (WP.region ?_))))
    refine wq rfl rfl rfl (ov_move rfl rfl) ?_
    refine wq rfl rfl rfl (ov_rem rfl rfl rfl (by decide)) ?_
    refine wq rfl rfl rfl (ov_move rfl rfl) ?_
    refine wq rfl rfl rfl (ov_rem rfl rfl rfl (by decide)) ?_
    refine wq rfl rfl rfl (ov_add rfl rfl rfl) ?_
    obtain ⟨s2, e1, hm⟩ := bind_some hm
    refine wq rfl rfl rfl (ov_slice_string Tryz.underlying9 rfl rfl rfl rfl e1) ?_
    refine wq rfl rfl rfl (ov_move rfl rfl) ?_
    obtain ⟨s3, e2, hm⟩ := bind_some hm
    refine wq rfl rfl rfl (ov_sadd' e2 rfl rfl rfl) ?_
    refine wq rfl rfl rfl (ov_assign rfl rfl) ?_
    refine WL.nil (block_normal (then_normal (WP.region ?_)))
    refine wq rfl rfl rfl (ov_move rfl rfl) ?_
    refine wq rfl rfl rfl (ov_quo rfl rfl rfl (by decide)) ?_
    refine wq rfl rfl rfl (ov_assign rfl rfl) ?_
    refine WL.nil (then_normal ?_)
    exact ⟨s3, (IntKind.wrap .i64 (Int.tdiv i1 10)), (Sub.cons rfl (Sub.cons rfl (Sub.cons rfl (Sub.nil _)))), fun w' s => s, hm⟩
   ·
    replace hm := ite_f hc2 hm
    refine WP.exit (then_exit (then_exit (block_here (then_normal ?_))))
    exact ⟨s1, (Sub.cons rfl (Sub.cons rfl (Sub.nil _))), fun w' s => s, hm⟩
 ·
  rintro g' S' ⟨s4, hsub2, hS2, hm⟩
  refine WP.sub hsub2 (WP.weaken hS2 ?_)
  replace hm := (congrFun hk1 s4).symm.trans hm
  refine WP.seq (WP.region ?_)
  refine wq rfl rfl rfl (ov_move rfl rfl) ?_
  refine wq rfl rfl rfl (ov_assign rfl rfl) ?_
  refine WL.nil (then_normal (WP.ret ?_))
  obtain rfl := Option.some.inj hm
  refine retQ_ret Tryz.results107 (Res.tmp rfl Res.nil) rfl (fun w' s => ⟨s.below, ?_⟩)
  exact rfl

theorem ref13_Line_con (p_x : Step) (ao1 : Option Addr) (cap1 : Nat) (w : World) (H : Heap) (hH : Le H (hp w)) (h1 : SL H encStroke ao1 p_x.strokes) (hc1 : p_x.strokes.length ≤ cap1) (hG : Glob H) (r : (List UInt8)) (hm : ref13_Line p_x = some r) :
  Con Tryz.prog 94 [(.agg #[(.slice ao1 p_x.strokes.length cap1), (.int .i64 p_x.wait)])] w H (fun v _ => v = (mkS r)) := by
 unfold ref13_Line at hm
 refine con_of hH Tryz.func94 rfl 34 Tryz.ntmps94 rfl ?_
 refine WP.seq (WP.region ?_)
 refine WL.step (Runs.free rfl) rfl rfl (os_box (cs := [(.slice ao1 p_x.strokes.length cap1), (.int .i64 p_x.wait)]) rfl rfl rfl (fun b1 => ?_))
 refine wq rfl rfl rfl (ov_assign rfl rfl) ?_
 refine WL.nil (then_normal (WP.seq (WP.region ?_)))
 refine wq rfl rfl rfl (ov_assign rfl rfl) ?_
 refine WL.nil (then_normal ?_)
 obtain ⟨k1, hk1, hm⟩ := joinK_some hm
 refine WP.seq_join (fun g' S' => ∃ (s5 : (List UInt8)), Sub [(1, (pB b1 0)), (3, (mkS s5)), (1000000007, (.bool false))] g' ∧ (∀ w', S' w' → St w H [.blk b1 37 [(.slice ao1 p_x.strokes.length cap1), (.int .i64 p_x.wait)]] H w') ∧ k1 s5 = some r) ?_ ?_
 ·
  skip
  refine WP.seq (WP.region ?_)
  refine wq rfl rfl rfl (ov_assign rfl rfl) ?_
  refine WL.nil (then_normal (WP.block ?_))
  refine WP.loop (fun m1 g' S' => ∃ (s1 : (List UInt8)) (i1 : Int), Sub [(1, (pB b1 0)), (3, (mkS s1)), (4, (.int .i64 i1)), (1000000007, (.bool false))] g' ∧ (∀ w', S' w' → St w H [.blk b1 37 [(.slice ao1 p_x.strokes.length cap1), (.int .i64 p_x.wait)]] H w') ∧ ref13_Line_loop1 p_x k1 m1 s1 i1 = some r) ((Int.toNat ((p_x.strokes.length : Int) - 0) + 1)) ⟨[], 0, (Sub.cons rfl (Sub.cons rfl (Sub.cons rfl (Sub.cons rfl (Sub.nil _))))), fun w' s => s, hm⟩ ?_ ?_
  ·
   rintro g' S' ⟨_, _, _, _, hm⟩
   exact none_some hm
  ·
   rintro m1 g' S' ⟨s1, i1, hsub1, hS1, hm⟩
   refine WP.sub hsub1 (WP.weaken hS1 ?_)
   rw [ref13_Line_loop1] at hm
   refine WP.seq (WP.seq (WP.region ?_))
   refine wq rfl rfl rfl (ov_move rfl rfl) ?_
   refine wq rfl rfl rfl (ov_fieldAddr Tryz.underlying37 rfl rfl rfl Tryz.sizeOf25 rfl rfl) ?_
   refine wq rfl rfl rfl (ov_load_box (i := 0) Tryz.isAgg25 rfl rfl rfl rfl) ?_
   refine wq rfl rfl rfl (ov_len_slice Tryz.underlying25 rfl rfl) ?_
   refine wq rfl rfl rfl (ov_lss rfl rfl rfl) ?_
   refine WL.nil (then_normal ?_)
   refine WP.cond rfl (fun hc2 => ?_) (fun hc2 => ?_)
   ·
    replace hm := ite_t hc2 hm
    refine WP.skip (then_normal (WP.seq (WP.block ?_)))
    obtain ⟨k2, hk2, hm⟩ := joinK_some hm
    refine WP.seq_join (fun g' S' => ∃ (s3 : (List UInt8)), Sub [(1, (pB b1 0)), (3, (mkS s3)), (4, (.int .i64 i1)), (1000000007, (.bool false))] g' ∧ (∀ w', S' w' → St w H [.blk b1 37 [(.slice ao1 p_x.strokes.length cap1), (.int .i64 p_x.wait)]] H w') ∧ k2 s3 = some r) ?_ ?_
    ·
     skip
     refine WP.seq (WP.region ?_)
     refine wq rfl rfl rfl (ov_move rfl rfl) ?_
     refine wq rfl rfl rfl (ov_gtr rfl rfl rfl) ?_
     refine WL.nil (then_normal ?_)
     refine WP.cond rfl (fun hc3 => ?_) (fun hc3 => ?_)
     ·
      replace hm := ite_t hc3 hm
      refine WP.region ?_
      refine wq rfl rfl rfl (ov_move rfl rfl) ?_
      obtain ⟨s2, e1, hm⟩ := bind_some hm
      refine wq rfl rfl rfl (ov_sadd' e1 rfl rfl rfl) ?_
      refine wq rfl rfl rfl (ov_assign rfl rfl) ?_
      refine WL.nil (then_normal ?_)
      exact ⟨s2, (Sub.cons rfl (Sub.cons rfl (Sub.cons rfl (Sub.cons rfl (Sub.nil _))))), fun w' s => s, hm⟩
     ·
      replace hm := ite_f hc3 hm
      refine WP.skip (then_normal ?_)
      exact ⟨s1, (Sub.cons rfl (Sub.cons rfl (Sub.cons rfl (Sub.cons rfl (Sub.nil _))))), fun w' s => s, hm⟩
    ·
     rintro g' S' ⟨s3, hsub2, hS2, hm⟩
     refine WP.sub hsub2 (WP.weaken hS2 ?_)
     replace hm := (congrFun hk2 s3).symm.trans hm
     refine WP.region ?_
     refine wq rfl rfl rfl (ov_move rfl rfl) ?_
     refine wq rfl rfl rfl (ov_fieldAddr Tryz.underlying37 rfl rfl rfl Tryz.sizeOf25 rfl rfl) ?_
     refine wq rfl rfl rfl (ov_load_box (i := 0) Tryz.isAgg25 rfl rfl rfl rfl) ?_
     refine wq rfl rfl rfl (ov_move rfl rfl) ?_
     obtain ⟨x1, e2, hm⟩ := bind_some hm
     obtain ⟨h2, h3, h4, cs1, h5, h6⟩ := h1.get e2 (by decide)
     obtain rfl : cs1 = [(.int .i64 x1.actuator), (.bool x1.out)] := h5
     refine wq rfl rfl rfl (ov_indexAddr Tryz.underlying25 Tryz.sizeOf40 rfl rfl rfl h2 h3 h4) ?_
     refine wq rfl rfl rfl (ov_load_elems (vs := [(.int .i64 x1.actuator), (.bool x1.out)]) Tryz.isAgg40 Tryz.sizeOf40 rfl rfl rfl h6 h4) ?_
     obtain ⟨r1, e3, hm⟩ := bind_some hm
     refine WL.quiet (Runs.free rfl) rfl rfl (oq_con (r := (mkS r1)) Tryz.call106 rfl rfl (fun w' s => ⟨_, (ref13_Written_con x1  w' H s.hold hG r1 e3)⟩)) ?_
     obtain ⟨s4, e4, hm⟩ := bind_some hm
     refine wq rfl rfl rfl (ov_sadd' e4 rfl rfl rfl) ?_
     refine wq rfl rfl rfl (ov_assign rfl rfl) ?_
     refine WL.nil (block_normal (then_normal (WP.region ?_)))
     refine wq rfl rfl rfl (ov_move rfl rfl) ?_
     refine wq rfl rfl rfl (ov_add rfl rfl rfl) ?_
     refine wq rfl rfl rfl (ov_assign rfl rfl) ?_
     refine WL.nil (then_normal ?_)
     exact ⟨s4, (IntKind.wrap .i64 (i1 + 1)), (Sub.cons rfl (Sub.cons rfl (Sub.cons rfl (Sub.cons rfl (Sub.nil _))))), fun w' s => s, hm⟩
   ·
    replace hm := ite_f hc2 hm
    refine WP.exit (then_exit (then_exit (block_here (then_normal ?_))))
    exact ⟨s1, (Sub.cons rfl (Sub.cons rfl (Sub.cons rfl (Sub.nil _)))), fun w' s => s, hm⟩
 ·
  rintro g' S' ⟨s5, hsub3, hS3, hm⟩
  refine WP.sub hsub3 (WP.weaken hS3 ?_)
  replace hm := (congrFun hk1 s5).symm.trans hm
  obtain ⟨k3, hk3, hm⟩ := joinK_some hm
  refine WP.seq_join (fun g' S' => ∃ (s8 : (List UInt8)), Sub [(3, (mkS s8)), (1000000007, (.bool false))] g' ∧ (∀ w', S' w' → St w H [] H w') ∧ k3 s8 = some r) ?_ ?_
  ·
   skip
   refine WP.seq (WP.region ?_)
   refine wq rfl rfl rfl (ov_fieldAddr Tryz.underlying37 rfl rfl rfl Tryz.sizeOf3 rfl rfl) ?_
   refine wq rfl rfl rfl (ov_load_box (i := 0) Tryz.isAgg3 rfl rfl rfl rfl) ?_
   refine wq rfl rfl rfl (ov_gtr rfl rfl rfl) ?_
   refine WL.nil (then_normal ?_)
   refine WP.cond rfl (fun hc4 => ?_) (fun hc4 => ?_)
   ·
    replace hm := ite_t hc4 hm
    refine WP.region ?_
    refine wq rfl rfl rfl (ov_move rfl rfl) ?_
    refine wq rfl rfl rfl (ov_fieldAddr Tryz.underlying37 rfl rfl rfl Tryz.sizeOf3 rfl rfl) ?_
    refine wq rfl rfl rfl (ov_load_box (i := 0) Tryz.isAgg3 rfl rfl rfl rfl) ?_
    obtain ⟨r2, e5, hm⟩ := bind_some hm
    refine WL.quiet (Runs.free rfl) rfl rfl (oq_con (r := (mkS r2)) Tryz.call107 rfl rfl (fun w' s => ⟨_, (ref03_Digits_con p_x.wait  w' H s.hold hG r2 e5)⟩)) ?_
    obtain ⟨s6, e6, hm⟩ := bind_some hm
    refine wq rfl rfl rfl (ov_sadd' e6 rfl rfl rfl) ?_
    obtain ⟨s7, e7, hm⟩ := bind_some hm
    refine wq rfl rfl rfl (ov_sadd' e7 rfl rfl rfl) ?_
    refine wq rfl rfl rfl (ov_assign rfl rfl) ?_
    refine WL.nil (then_normal ?_)
    exact ⟨s7, (Sub.cons rfl (Sub.cons rfl (Sub.nil _))), fun w' s => (s.select [] (by decide) rfl), hm⟩
   ·
    replace hm := ite_f hc4 hm
    refine WP.skip (then_normal ?_)
    exact ⟨s5, (Sub.cons rfl (Sub.cons rfl (Sub.nil _))), fun w' s => (s.select [] (by decide) rfl), hm⟩
  ·
   rintro g' S' ⟨s8, hsub4, hS4, hm⟩
   refine WP.sub hsub4 (WP.weaken hS4 ?_)
   replace hm := (congrFun hk3 s8).symm.trans hm
   refine WP.seq (WP.region ?_)
   refine wq rfl rfl rfl (ov_move rfl rfl) ?_
   refine wq rfl rfl rfl (ov_assign rfl rfl) ?_
   refine WL.nil (then_normal (WP.ret ?_))
   obtain rfl := Option.some.inj hm
   refine retQ_ret Tryz.results94 (Res.tmp rfl Res.nil) rfl (fun w' s => ⟨s.below, ?_⟩)
   exact rfl

theorem ref13_Lines_con (p_l : (List Step)) (ao1 : Option Addr) (cap1 : Nat) (w : World) (H : Heap) (hH : Le H (hp w)) (h1 : SL H encStep ao1 p_l) (hc1 : p_l.length ≤ cap1) (hG : Glob H) (r : (List UInt8)) (hm : ref13_Lines p_l = some r) :
  Con Tryz.prog 76 [(.slice ao1 p_l.length cap1)] w H (fun v _ => v = (mkS r)) := by
 unfold ref13_Lines at hm
 refine con_of hH Tryz.func76 rfl 23 Tryz.ntmps76 rfl ?_
 refine WP.seq (WP.region ?_)
 refine wq rfl rfl rfl (ov_assign rfl rfl) ?_
 refine WL.nil (then_normal (WP.seq (WP.region ?_)))
 refine wq rfl rfl rfl (ov_assign rfl rfl) ?_
 refine WL.nil (then_normal ?_)
 obtain ⟨k1, hk1, hm⟩ := joinK_some hm
 refine WP.seq_join (fun g' S' => ∃ (s5 : (List UInt8)), Sub [(3, (mkS s5)), (1000000007, (.bool false))] g' ∧ (∀ w', S' w' → St w H [] H w') ∧ k1 s5 = some r) ?_ ?_
 ·
  skip
  refine WP.seq (WP.region ?_)
  refine wq rfl rfl rfl (ov_assign rfl rfl) ?_
  refine WL.nil (then_normal (WP.block ?_))
  refine WP.loop (fun m1 g' S' => ∃ (s1 : (List UInt8)) (i1 : Int), Sub [(0, (.slice ao1 p_l.length cap1)), (3, (mkS s1)), (4, (.int .i64 i1)), (1000000007, (.bool false))] g' ∧ (∀ w', S' w' → St w H [] H w') ∧ ref13_Lines_loop1 p_l k1 m1 s1 i1 = some r) ((Int.toNat ((p_l.length : Int) - 0) + 1)) ⟨[], 0, (Sub.cons rfl (Sub.cons rfl (Sub.cons rfl (Sub.cons rfl (Sub.nil _))))), fun w' s => s, hm⟩ ?_ ?_
  ·
   rintro g' S' ⟨_, _, _, _, hm⟩
   exact none_some hm
  ·
   rintro m1 g' S' ⟨s1, i1, hsub1, hS1, hm⟩
   refine WP.sub hsub1 (WP.weaken hS1 ?_)
   rw [ref13_Lines_loop1] at hm
   refine WP.seq (WP.seq (WP.region ?_))
   refine wq rfl rfl rfl (ov_move rfl rfl) ?_
   refine wq rfl rfl rfl (ov_move rfl rfl) ?_
   refine wq rfl rfl rfl (ov_len_slice Tryz.underlying22 rfl rfl) ?_
   refine wq rfl rfl rfl (ov_lss rfl rfl rfl) ?_
   refine WL.nil (then_normal ?_)
   refine WP.cond rfl (fun hc2 => ?_) (fun hc2 => ?_)
   ·
    replace hm := ite_t hc2 hm
    refine WP.skip (then_normal (WP.seq (WP.block ?_)))
    obtain ⟨k2, hk2, hm⟩ := joinK_some hm
    refine WP.seq_join (fun g' S' => ∃ (s3 : (List UInt8)), Sub [(0, (.slice ao1 p_l.length cap1)), (3, (mkS s3)), (4, (.int .i64 i1)), (1000000007, (.bool false))] g' ∧ (∀ w', S' w' → St w H [] H w') ∧ k2 s3 = some r) ?_ ?_
    ·
     skip
     refine WP.seq (WP.region ?_)
     refine wq rfl rfl rfl (ov_move rfl rfl) ?_
     refine wq rfl rfl rfl (ov_gtr rfl rfl rfl) ?_
     refine WL.nil (then_normal ?_)
     refine WP.cond rfl (fun hc3 => ?_) (fun hc3 => ?_)
     ·
      replace hm := ite_t hc3 hm
      refine WP.region ?_
      refine wq rfl rfl rfl (ov_move rfl rfl) ?_
      obtain ⟨s2, e1, hm⟩ := bind_some hm
      refine wq rfl rfl rfl (ov_sadd' e1 rfl rfl rfl) ?_
      refine wq rfl rfl rfl (ov_assign rfl rfl) ?_
      refine WL.nil (then_normal ?_)
      exact ⟨s2, (Sub.cons rfl (Sub.cons rfl (Sub.cons rfl (Sub.cons rfl (Sub.nil _))))), fun w' s => s, hm⟩
     ·
      replace hm := ite_f hc3 hm
      refine WP.skip (then_normal ?_)
      exact ⟨s1, (Sub.cons rfl (Sub.cons rfl (Sub.cons rfl (Sub.cons rfl (Sub.nil _))))), fun w' s => s, hm⟩
    ·
     rintro g' S' ⟨s3, hsub2, hS2, hm⟩
     refine WP.sub hsub2 (WP.weaken hS2 ?_)
     replace hm := (congrFun hk2 s3).symm.trans hm
     refine WP.region ?_
     refine wq rfl rfl rfl (ov_move rfl rfl) ?_
     refine wq rfl rfl rfl (ov_move rfl rfl) ?_
     refine wq rfl rfl rfl (ov_move rfl rfl) ?_
     obtain ⟨x1, e2, hm⟩ := bind_some hm
     obtain ⟨h3, h4, h5, cs1, h6, h7⟩ := h1.get e2 (by decide)
     obtain ⟨ao2, cap2, rfl, h2, hc4⟩ := h6
     refine wq rfl rfl rfl (ov_indexAddr Tryz.underlying22 Tryz.sizeOf37 rfl rfl rfl h3 h4 h5) ?_
     refine wq rfl rfl rfl (ov_load_elems (vs := [(.slice ao2 x1.strokes.length cap2), (.int .i64 x1.wait)]) Tryz.isAgg37 Tryz.sizeOf37 rfl rfl rfl h7 h5) ?_
     obtain ⟨r1, e3, hm⟩ := bind_some hm
     refine WL.quiet (Runs.free rfl) rfl rfl (oq_con (r := (mkS r1)) Tryz.call94 rfl rfl (fun w' s => ⟨_, (ref13_Line_con x1 ao2 cap2  w' H s.hold h2 hc4 hG r1 e3)⟩)) ?_
     obtain ⟨s4, e4, hm⟩ := bind_some hm
     refine wq rfl rfl rfl (ov_sadd' e4 rfl rfl rfl) ?_
     refine wq rfl rfl rfl (ov_assign rfl rfl) ?_
     refine WL.nil (block_normal (then_normal (WP.region ?_)))
     refine wq rfl rfl rfl (ov_move rfl rfl) ?_
     refine wq rfl rfl rfl (ov_add rfl rfl rfl) ?_
     refine wq rfl rfl rfl (ov_assign rfl rfl) ?_
     refine WL.nil (then_normal ?_)
     exact ⟨s4, (IntKind.wrap .i64 (i1 + 1)), (Sub.cons rfl (Sub.cons rfl (Sub.cons rfl (Sub.cons rfl (Sub.nil _))))), fun w' s => s, hm⟩
   ·
    replace hm := ite_f hc2 hm
    refine WP.exit (then_exit (then_exit (block_here (then_normal ?_))))
    exact ⟨s1, (Sub.cons rfl (Sub.cons rfl (Sub.nil _))), fun w' s => s, hm⟩
 ·
  rintro g' S' ⟨s5, hsub3, hS3, hm⟩
  refine WP.sub hsub3 (WP.weaken hS3 ?_)
  replace hm := (congrFun hk1 s5).symm.trans hm
  refine WP.seq (WP.region ?_)
  refine wq rfl rfl rfl (ov_move rfl rfl) ?_
  refine wq rfl rfl rfl (ov_assign rfl rfl) ?_
  refine WL.nil (then_normal (WP.ret ?_))
  obtain rfl := Option.some.inj hm
  refine retQ_ret Tryz.results76 (Res.tmp rfl Res.nil) rfl (fun w' s => ⟨s.below, ?_⟩)
  exact rfl

theorem ref13_Way_con (p_x : Step) (p_actuator : Int) (ao1 : Option Addr) (cap1 : Nat) (w : World) (H : Heap) (hH : Le H (hp w)) (h1 : SL H encStroke ao1 p_x.strokes) (hc1 : p_x.strokes.length ≤ cap1) (hG : Glob H) (r : Int) (hm : ref13_Way p_x p_actuator = some r) :
  Con Tryz.prog 87 [(.agg #[(.slice ao1 p_x.strokes.length cap1), (.int .i64 p_x.wait)]), (.int .i64 p_actuator)] w H (fun v _ => v = (.int .i64 r)) := by
 unfold ref13_Way at hm
 refine con_of hH Tryz.func87 rfl 27 Tryz.ntmps87 rfl ?_
 refine WP.seq (WP.region ?_)
 refine WL.step (Runs.free rfl) rfl rfl (os_box (cs := [(.slice ao1 p_x.strokes.length cap1), (.int .i64 p_x.wait)]) rfl rfl rfl (fun b1 => ?_))
 refine wq rfl rfl rfl (ov_assign rfl rfl) ?_
 refine WL.nil (then_normal ?_)
 obtain ⟨k1, hk1, hm⟩ := joinK_some hm
 refine WP.seq_join (fun g' S' => Sub [(1000000007, (.bool false))] g' ∧ (∀ w', S' w' → St w H [] H w') ∧ k1 = some r) ?_ ?_
 ·
  skip
  refine WP.seq (WP.region ?_)
  refine wq rfl rfl rfl (ov_assign rfl rfl) ?_
  refine WL.nil (then_normal (WP.block ?_))
  refine WP.loop (fun m1 g' S' => ∃ (i1 : Int), Sub [(1, (.int .i64 p_actuator)), (2, (pB b1 0)), (5, (.int .i64 i1)), (1000000007, (.bool false))] g' ∧ (∀ w', S' w' → St w H [.blk b1 37 [(.slice ao1 p_x.strokes.length cap1), (.int .i64 p_x.wait)]] H w') ∧ ref13_Way_loop1 p_x p_actuator k1 m1 i1 = some r) ((Int.toNat ((p_x.strokes.length : Int) - 0) + 1)) ⟨0, (Sub.cons rfl (Sub.cons rfl (Sub.cons rfl (Sub.cons rfl (Sub.nil _))))), fun w' s => s, hm⟩ ?_ ?_
  ·
   rintro g' S' ⟨_, _, _, hm⟩
   exact none_some hm
  ·
   rintro m1 g' S' ⟨i1, hsub1, hS1, hm⟩
   refine WP.sub hsub1 (WP.weaken hS1 ?_)
   rw [ref13_Way_loop1] at hm
   refine WP.seq (WP.seq (WP.region ?_))
   refine wq rfl rfl rfl (ov_move rfl rfl) ?_
   refine wq rfl rfl rfl (ov_fieldAddr Tryz.underlying37 rfl rfl rfl Tryz.sizeOf25 rfl rfl) ?_
   refine wq rfl rfl rfl (ov_load_box (i := 0) Tryz.isAgg25 rfl rfl rfl rfl) ?_
   refine wq rfl rfl rfl (ov_len_slice Tryz.underlying25 rfl rfl) ?_
   refine wq rfl rfl rfl (ov_lss rfl rfl rfl) ?_
   refine WL.nil (then_normal ?_)
   refine WP.cond rfl (fun hc2 => ?_) (fun hc2 => ?_)
   ·
    replace hm := ite_t hc2 hm
    refine WP.skip (then_normal (WP.seq (WP.block (WP.seq (WP.region ?_)))))
    refine wq rfl rfl rfl (ov_fieldAddr Tryz.underlying37 rfl rfl rfl Tryz.sizeOf25 rfl rfl) ?_
    refine wq rfl rfl rfl (ov_load_box (i := 0) Tryz.isAgg25 rfl rfl rfl rfl) ?_
    refine wq rfl rfl rfl (ov_move rfl rfl) ?_
    obtain ⟨x1, e1, hm⟩ := bind_some hm
    obtain ⟨h2, h3, h4, cs1, h5, h6⟩ := h1.get e1 (by decide)
    obtain rfl : cs1 = [(.int .i64 x1.actuator), (.bool x1.out)] := h5
    refine wq rfl rfl rfl (ov_indexAddr Tryz.underlying25 Tryz.sizeOf40 rfl rfl rfl h2 h3 h4) ?_
    refine wq rfl rfl rfl (ov_fieldAddrE Tryz.underlying40 rfl rfl rfl Tryz.sizeOf3 rfl rfl) ?_
    refine wq rfl rfl rfl (ov_load_elem (v := (.int .i64 x1.actuator)) Tryz.isAgg3 rfl rfl (h6.one (off := 0) rfl)) ?_
    refine wq rfl rfl rfl (ov_move rfl rfl) ?_
    refine wq rfl rfl rfl (ov_eql rfl rfl rfl) ?_
    refine WL.nil (then_normal ?_)
    refine WP.cond rfl (fun hc3 => ?_) (fun hc3 => ?_)
    ·
     replace hm := ite_t hc3 hm
     refine WP.seq (WP.seq (WP.region ?_))
     refine wq rfl rfl rfl (ov_fieldAddr Tryz.underlying37 rfl rfl rfl Tryz.sizeOf25 rfl rfl) ?_
     refine wq rfl rfl rfl (ov_load_box (i := 0) Tryz.isAgg25 rfl rfl rfl rfl) ?_
     refine wq rfl rfl rfl (ov_move rfl rfl) ?_
     obtain ⟨x2, e2, hm⟩ := bind_some hm
     obtain ⟨h7, h8, h9, cs2, h10, h11⟩ := h1.get e2 (by decide)
     obtain rfl : cs2 = [(.int .i64 x2.actuator), (.bool x2.out)] := h10
     refine wq rfl rfl rfl (ov_indexAddr Tryz.underlying25 Tryz.sizeOf40 rfl rfl rfl h7 h8 h9) ?_
     refine wq rfl rfl rfl (ov_fieldAddrE Tryz.underlying40 rfl rfl rfl Tryz.sizeOf4 rfl rfl) ?_
     refine wq rfl rfl rfl (ov_load_elem (v := (.bool x2.out)) Tryz.isAgg4 rfl rfl (h11.one (off := 1) rfl)) ?_
     refine WL.nil (then_normal ?_)
     refine WP.cond rfl (fun hc4 => ?_) (fun hc4 => ?_)
     ·
      replace hm := ite_t hc4 hm
      refine WP.seq (WP.region ?_)
      refine wq rfl rfl rfl (ov_assign rfl rfl) ?_
      refine WL.nil (then_normal (WP.ret (then_ret (block_ret (then_ret (then_ret (block_ret (then_ret ?_))))))))
      obtain rfl := Option.some.inj hm
      refine retQ_ret Tryz.results87 (Res.tmp rfl Res.nil) rfl (fun w' s => ⟨s.below, ?_⟩)
      exact rfl
     ·
      replace hm := ite_f hc4 hm
      refine WP.skip (then_normal (WP.seq (WP.region ?_)))
      refine wq rfl rfl rfl (ov_assign rfl rfl) ?_
      refine WL.nil (then_normal (WP.ret (block_ret (then_ret (then_ret (block_ret (then_ret ?_)))))))
      obtain rfl := Option.some.inj hm
      refine retQ_ret Tryz.results87 (Res.tmp rfl Res.nil) rfl (fun w' s => ⟨s.below, ?_⟩)
      exact rfl
    ·
     replace hm := ite_f hc3 hm
     refine WP.skip (block_normal (then_normal (WP.region ?_)))
     refine wq rfl rfl rfl (ov_move rfl rfl) ?_
     refine wq rfl rfl rfl (ov_add rfl rfl rfl) ?_
     refine wq rfl rfl rfl (ov_assign rfl rfl) ?_
     refine WL.nil (then_normal ?_)
     exact ⟨(IntKind.wrap .i64 (i1 + 1)), (Sub.cons rfl (Sub.cons rfl (Sub.cons rfl (Sub.cons rfl (Sub.nil _))))), fun w' s => s, hm⟩
   ·
    replace hm := ite_f hc2 hm
    refine WP.exit (then_exit (then_exit (block_here (then_normal ?_))))
    exact ⟨(Sub.cons rfl (Sub.nil _)), fun w' s => (s.select [] (by decide) rfl), hm⟩
 ·
  rintro g' S' ⟨hsub2, hS2, hm⟩
  refine WP.sub hsub2 (WP.weaken hS2 ?_)
  replace hm := hk1.symm.trans hm
  refine WP.seq (WP.region ?_)
  refine wq rfl rfl rfl (ov_assign rfl rfl) ?_
  refine WL.nil (then_normal (WP.ret ?_))
  obtain rfl := Option.some.inj hm
  refine retQ_ret Tryz.results87 (Res.tmp rfl Res.nil) rfl (fun w' s => ⟨s.below, ?_⟩)
  exact rfl

theorem ref13_Suits_con (p_x : Step) (p_ends : (List Bool)) (ao1 : Option Addr) (cap1 : Nat) (ao2 : Option Addr) (cap2 : Nat) (w : World) (H : Heap) (hH : Le H (hp w)) (h1 : SL H encStroke ao1 p_x.strokes) (hc1 : p_x.strokes.length ≤ cap1) (h2 : SL H encBool ao2 p_ends) (hc2 : p_ends.length ≤ cap2) (hG : Glob H) (r : Bool) (hm : ref13_Suits p_x p_ends = some r) :
  Con Tryz.prog 86 [(.agg #[(.slice ao1 p_x.strokes.length cap1), (.int .i64 p_x.wait)]), (.slice ao2 p_ends.length cap2)] w H (fun v _ => v = (.bool r)) := by
 unfold ref13_Suits at hm
 refine con_of hH Tryz.func86 rfl 34 Tryz.ntmps86 rfl ?_
 refine WP.seq (WP.region ?_)
 refine WL.step (Runs.free rfl) rfl rfl (os_box (cs := [(.slice ao1 p_x.strokes.length cap1), (.int .i64 p_x.wait)]) rfl rfl rfl (fun b1 => ?_))
 refine wq rfl rfl rfl (ov_assign rfl rfl) ?_
 refine WL.nil (then_normal ?_)
 obtain ⟨k1, hk1, hm⟩ := joinK_some hm
 refine WP.seq_join (fun g' S' => Sub [(1000000007, (.bool false))] g' ∧ (∀ w', S' w' → St w H [] H w') ∧ k1 = some r) ?_ ?_
 ·
  skip
  refine WP.seq (WP.region ?_)
  refine wq rfl rfl rfl (ov_assign rfl rfl) ?_
  refine WL.nil (then_normal (WP.block ?_))
  refine WP.loop (fun m1 g' S' => ∃ (i1 : Int), Sub [(1, (.slice ao2 p_ends.length cap2)), (2, (pB b1 0)), (5, (.int .i64 i1)), (1000000007, (.bool false))] g' ∧ (∀ w', S' w' → St w H [.blk b1 37 [(.slice ao1 p_x.strokes.length cap1), (.int .i64 p_x.wait)]] H w') ∧ ref13_Suits_loop1 p_x p_ends k1 m1 i1 = some r) ((Int.toNat ((p_x.strokes.length : Int) - 0) + 1)) ⟨0, (Sub.cons rfl (Sub.cons rfl (Sub.cons rfl (Sub.cons rfl (Sub.nil _))))), fun w' s => s, hm⟩ ?_ ?_
  ·
   rintro g' S' ⟨_, _, _, hm⟩
   exact none_some hm
  ·
   rintro m1 g' S' ⟨i1, hsub1, hS1, hm⟩
   refine WP.sub hsub1 (WP.weaken hS1 ?_)
   rw [ref13_Suits_loop1] at hm
   refine WP.seq (WP.seq (WP.region ?_))
   refine wq rfl rfl rfl (ov_move rfl rfl) ?_
   refine wq rfl rfl rfl (ov_fieldAddr Tryz.underlying37 rfl rfl rfl Tryz.sizeOf25 rfl rfl) ?_
   refine wq rfl rfl rfl (ov_load_box (i := 0) Tryz.isAgg25 rfl rfl rfl rfl) ?_
   refine wq rfl rfl rfl (ov_len_slice Tryz.underlying25 rfl rfl) ?_
   refine wq rfl rfl rfl (ov_lss rfl rfl rfl) ?_
   refine WL.nil (then_normal ?_)
   refine WP.cond rfl (fun hc3 => ?_) (fun hc3 => ?_)
   ·
    replace hm := ite_t hc3 hm
    refine WP.skip (then_normal (WP.seq (WP.block (WP.seq (WP.region ?_)))))
    refine wq rfl rfl rfl (ov_fieldAddr Tryz.underlying37 rfl rfl rfl Tryz.sizeOf25 rfl rfl) ?_
    refine wq rfl rfl rfl (ov_load_box (i := 0) Tryz.isAgg25 rfl rfl rfl rfl) ?_
    refine wq rfl rfl rfl (ov_move rfl rfl) ?_
    obtain ⟨x1, e1, hm⟩ := bind_some hm
    obtain ⟨h3, h4, h5, cs1, h6, h7⟩ := h1.get e1 (by decide)
    obtain rfl : cs1 = [(.int .i64 x1.actuator), (.bool x1.out)] := h6
    refine wq rfl rfl rfl (ov_indexAddr Tryz.underlying25 Tryz.sizeOf40 rfl rfl rfl h3 h4 h5) ?_
    refine wq rfl rfl rfl (ov_load_elems (vs := [(.int .i64 x1.actuator), (.bool x1.out)]) Tryz.isAgg40 Tryz.sizeOf40 rfl rfl rfl h7 h5) ?_
    refine WL.step (Runs.free rfl) rfl rfl (os_alloc (cs := [(.int .i64 0), (.bool false)]) Tryz.zeroValue40 rfl rfl (fun b2 => ?_))
    refine WL.step0 (Runs.free rfl) rfl (os_store (i := 0) (vs := [(.int .i64 x1.actuator), (.bool x1.out)]) (cs' := [(.int .i64 x1.actuator), (.bool x1.out)]) Tryz.sizeOf40 rfl rfl rfl rfl rfl rfl rfl rfl rfl ?_)
    refine WL.nil (then_normal (WP.seq ?_))
    refine WP.region_draws (by kernel_rfl) (by kernel_rfl) (fun _ s => s.drew) ?_
    refine QL.quiet (Runs.free rfl) rfl rfl (OV.quiet (ov_fieldAddr Tryz.underlying40 rfl rfl rfl Tryz.sizeOf3 rfl rfl)) ?_
    refine QL.quiet (Runs.free rfl) rfl rfl (OV.quiet (ov_load_box (i := 0) Tryz.isAgg3 rfl rfl rfl rfl)) ?_
    refine QL.quiet (Runs.free rfl) rfl rfl (OV.quiet (ov_move rfl rfl)) ?_
    refine QL.quiet (Runs.free rfl) rfl rfl (OV.quiet (ov_len_slice Tryz.underlying47 rfl rfl)) ?_
    refine QL.quiet (Runs.free rfl) rfl rfl (OV.quiet (ov_geq rfl rfl rfl)) ?_
    refine QL.quiet (Runs.free rfl) rfl rfl (OV.quiet (ov_move rfl rfl)) ?_
    obtain ⟨c1, e2, hm⟩ := bind_some hm
    refine QL.part_bool 9 33 (x := c1) ?_ ?_
    ·
     rcases Bool.eq_false_or_eq_true (decide (x1.actuator ≥ (p_ends.length : Int))) with hc4 | hc4
     ·
      skip
      replace hm := ite_t hc4 e2
      refine QL.idle (Idle.no rfl rfl rfl hc4) rfl rfl ?_
      refine QL.idle (Idle.no rfl rfl rfl hc4) rfl rfl ?_
      refine QL.idle (Idle.no rfl rfl rfl hc4) rfl rfl ?_
      refine QL.idle (Idle.no rfl rfl rfl hc4) rfl rfl ?_
      refine QL.idle (Idle.no rfl rfl rfl hc4) rfl rfl ?_
      refine QL.idle (Idle.no rfl rfl rfl hc4) rfl rfl ?_
      refine QL.idle (Idle.no rfl rfl rfl hc4) rfl rfl ?_
      refine QL.idle (Idle.no rfl rfl rfl hc4) rfl rfl ?_
      refine QL.quiet (Runs.free rfl) rfl rfl (OV.quiet (ov_pick_true rfl (guard_eq rfl hc4) rfl)) ?_
      exact QL.nil (Sub.cons' rfl (congrArg Value.bool (Option.some.inj hm)) (Sub.skip rfl (Sub.skip rfl (Sub.skip rfl (Sub.skip rfl (Sub.skip rfl (Sub.skip rfl (Sub.skip rfl (Sub.skip rfl (Sub.skip rfl (Sub.refl _)))))))))))
     ·
      skip
      replace hm := ite_f hc4 e2
      refine QL.quiet (Runs.yes rfl rfl rfl hc4) rfl rfl (OV.quiet (ov_move rfl rfl)) ?_
      refine QL.quiet (Runs.yes rfl rfl rfl hc4) rfl rfl (OV.quiet (ov_fieldAddr Tryz.underlying40 rfl rfl rfl Tryz.sizeOf3 rfl rfl)) ?_
      refine QL.quiet (Runs.yes rfl rfl rfl hc4) rfl rfl (OV.quiet (ov_load_box (i := 0) Tryz.isAgg3 rfl rfl rfl rfl)) ?_
      obtain ⟨x2, e3, hm⟩ := bind_some hm
      obtain ⟨h8, h9, h10, cs2, h11, h12⟩ := h2.get e3 (by decide)
      obtain rfl : cs2 = [(.bool x2)] := h11
      refine QL.quiet (Runs.yes rfl rfl rfl hc4) rfl rfl (OV.quiet (ov_indexAddr Tryz.underlying47 Tryz.sizeOf4 rfl rfl rfl h8 h9 h10)) ?_
      refine QL.quiet (Runs.yes rfl rfl rfl hc4) rfl rfl (OV.quiet (ov_load_elem (v := (.bool x2)) Tryz.isAgg4 rfl rfl h12)) ?_
      refine QL.quiet (Runs.yes rfl rfl rfl hc4) rfl rfl (OV.quiet (ov_fieldAddr Tryz.underlying40 rfl rfl rfl Tryz.sizeOf4 rfl rfl)) ?_
      refine QL.quiet (Runs.yes rfl rfl rfl hc4) rfl rfl (OV.quiet (ov_load_box (i := 0) Tryz.isAgg4 rfl rfl rfl rfl)) ?_
      refine QL.quiet (Runs.yes rfl rfl rfl hc4) rfl rfl (OV.quiet (ov_beql Tryz.underlying4 rfl rfl rfl)) ?_
      refine QL.quiet (Runs.free rfl) rfl rfl (OV.quiet (ov_pick_false rfl (guard_eq rfl hc4) rfl)) ?_
      exact QL.nil (Sub.cons' rfl (congrArg Value.bool (Option.some.inj hm)) (Sub.skip rfl (Sub.skip rfl (Sub.skip rfl (Sub.skip rfl (Sub.skip rfl (Sub.skip rfl (Sub.skip rfl (Sub.skip rfl (Sub.skip rfl (Sub.refl _)))))))))))
    refine QL.nil ?_
    refine then_normal ?_
    refine WP.cond rfl (fun hc5 => ?_) (fun hc5 => ?_)
    ·
     replace hm := ite_t hc5 hm
     refine WP.seq (WP.region ?_)
     refine wq rfl rfl rfl (ov_assign rfl rfl) ?_
     refine WL.nil (then_normal (WP.ret (block_ret (then_ret (then_ret (block_ret (then_ret ?_)))))))
     obtain rfl := Option.some.inj hm
     refine retQ_ret Tryz.results86 (Res.tmp rfl Res.nil) rfl (fun w' s => ⟨s.below, ?_⟩)
     exact rfl
    ·
     replace hm := ite_f hc5 hm
     refine WP.skip (block_normal (then_normal (WP.region ?_)))
     refine wq rfl rfl rfl (ov_move rfl rfl) ?_
     refine wq rfl rfl rfl (ov_add rfl rfl rfl) ?_
     refine wq rfl rfl rfl (ov_assign rfl rfl) ?_
     refine WL.nil (then_normal ?_)
     exact ⟨(IntKind.wrap .i64 (i1 + 1)), (Sub.cons rfl (Sub.cons rfl (Sub.cons rfl (Sub.cons rfl (Sub.nil _))))), fun w' s => (s.select [1] (by decide) rfl), hm⟩
   ·
    replace hm := ite_f hc3 hm
    refine WP.exit (then_exit (then_exit (block_here (then_normal ?_))))
    exact ⟨(Sub.cons rfl (Sub.nil _)), fun w' s => (s.select [] (by decide) rfl), hm⟩
 ·
  rintro g' S' ⟨hsub2, hS2, hm⟩
  refine WP.sub hsub2 (WP.weaken hS2 ?_)
  replace hm := hk1.symm.trans hm
  refine WP.seq (WP.region ?_)
  refine wq rfl rfl rfl (ov_assign rfl rfl) ?_
  refine WL.nil (then_normal (WP.ret ?_))
  obtain rfl := Option.some.inj hm
  refine retQ_ret Tryz.results86 (Res.tmp rfl Res.nil) rfl (fun w' s => ⟨s.below, ?_⟩)
  exact rfl

theorem ref13_After_con (p_x : Step) (p_ends : (List Bool)) (ao1 : Option Addr) (cap1 : Nat) (ao2 : Option Addr) (cap2 : Nat) (w : World) (H : Heap) (hH : Le H (hp w)) (h1 : SL H encStroke ao1 p_x.strokes) (hc1 : p_x.strokes.length ≤ cap1) (h2 : SL H encBool ao2 p_ends) (hc2 : p_ends.length ≤ cap2) (hG : Glob H) (r : (List Bool)) (hm : ref13_After p_x p_ends = some r) :
  Con Tryz.prog 54 [(.agg #[(.slice ao1 p_x.strokes.length cap1), (.int .i64 p_x.wait)]), (.slice ao2 p_ends.length cap2)] w H (fun v H' => ∃ (ao3 : Option Addr) (cap3 : Nat), v = (.slice ao3 r.length cap3) ∧ SL H' encBool ao3 r ∧ r.length ≤ cap3) := by
 unfold ref13_After at hm
 refine con_of hH Tryz.func54 rfl 32 Tryz.ntmps54 rfl ?_
 refine WP.seq (WP.region ?_)
 refine WL.step (Runs.free rfl) rfl rfl (os_box (cs := [(.slice ao1 p_x.strokes.length cap1), (.int .i64 p_x.wait)]) rfl rfl rfl (fun b1 => ?_))
 refine wq rfl rfl rfl (ov_assign rfl rfl) ?_
 refine WL.nil (then_normal (WP.seq (WP.region ?_)))
 have rl1 : RL H encBool ([] : List Bool) [] := RL.nil _ _
 refine WL.step (Runs.free rfl) rfl rfl (os_buildSlice (cs := []) (E := 4) (sz := 1) rfl rfl (fun _ => by kernel_rfl) rfl (by decide) (fun b2 => ?_))
 refine wq rfl rfl rfl (ov_move rfl rfl) ?_
 obtain ⟨l1, e1, hm⟩ := bind_some hm
 refine WL.step (Runs.free rfl) rfl rfl (os_app_sl (i := 0) (En := encBool) (xs := []) Tryz.underlying47 (by kernel_rfl : (Tryz.prog.info? 4).map (fun i => (i.zero, i.size, i.bytes)) = some (some (.bool false), (encBool).size, 1)) rfl (by decide) one_encBool rfl rfl rfl rfl h2 hc2 rl1 e1 (fun ao4 cap4 ys1 rl2 => ?_))
 refine wq rfl rfl rfl (ov_assign rfl rfl) ?_
 refine WL.nil (then_normal ?_)
 obtain ⟨k1, hk1, hm⟩ := joinK_some hm
 refine WP.seq_join (fun g' S' => ∃ (l3 : (List Bool)) (ao6 : Option Addr) (cap6 : Nat) (xs2 : List Value), RL H encBool l3 xs2 ∧ Sub [(5, (.slice ao6 l3.length cap6)), (1000000007, (.bool false))] g' ∧ (∀ w', S' w' → St w H [.row 4 (encBool).size l3.length (.slice ao6 l3.length cap6) xs2] H w') ∧ k1 l3 = some r) ?_ ?_
 ·
  skip
  refine WP.seq (WP.region ?_)
  refine wq rfl rfl rfl (ov_assign rfl rfl) ?_
  refine WL.nil (then_normal (WP.block ?_))
  refine WP.loop (fun m1 g' S' => ∃ (i1 : Int) (l2 : (List Bool)) (ao5 : Option Addr) (cap5 : Nat) (xs1 : List Value), RL H encBool l2 xs1 ∧ Sub [(2, (pB b1 0)), (5, (.slice ao5 l2.length cap5)), (6, (.int .i64 i1)), (1000000007, (.bool false))] g' ∧ (∀ w', S' w' → St w H [.row 4 (encBool).size l2.length (.slice ao5 l2.length cap5) xs1, .blk b1 37 [(.slice ao1 p_x.strokes.length cap1), (.int .i64 p_x.wait)]] H w') ∧ ref13_After_loop1 p_x k1 m1 i1 l2 = some r) ((Int.toNat ((p_x.strokes.length : Int) - 0) + 1)) ⟨0, (([] : List Bool) ++ p_ends), ao4, cap4, ([] ++ ys1), rl2, (Sub.cons rfl (Sub.cons rfl (Sub.cons rfl (Sub.cons rfl (Sub.nil _))))), fun w' s => s, hm⟩ ?_ ?_
  ·
   rintro g' S' ⟨_, _, _, _, _, _, _, _, hm⟩
   exact none_some hm
  ·
   rintro m1 g' S' ⟨i1, l2, ao5, cap5, xs1, rl3, hsub1, hS1, hm⟩
   refine WP.sub hsub1 (WP.weaken hS1 ?_)
   rw [ref13_After_loop1] at hm
   refine WP.seq (WP.seq (WP.region ?_))
   refine wq rfl rfl rfl (ov_move rfl rfl) ?_
   refine wq rfl rfl rfl (ov_fieldAddr Tryz.underlying37 rfl rfl rfl Tryz.sizeOf25 rfl rfl) ?_
   refine wq rfl rfl rfl (ov_load_box (i := 1) Tryz.isAgg25 rfl rfl rfl rfl) ?_
   refine wq rfl rfl rfl (ov_len_slice Tryz.underlying25 rfl rfl) ?_
   refine wq rfl rfl rfl (ov_lss rfl rfl rfl) ?_
   refine WL.nil (then_normal ?_)
   refine WP.cond rfl (fun hc4 => ?_) (fun hc4 => ?_)
   ·
    replace hm := ite_t hc4 hm
    refine WP.skip (then_normal (WP.seq (WP.block ?_)))
    refine WP.region_any (S₀ := St w H [.blk b1 37 [(.slice ao1 p_x.strokes.length cap1), (.int .i64 p_x.wait)]] H) 15 rfl (by kernel_rfl) (fun w' s => (s.select [1] (by decide) rfl)) (fun _ s => s.drew) ?_
    refine tq (i := 0) rfl (by kernel_rfl) rfl rfl rfl (ov_move rfl rfl) ?_
    refine tq (i := 1) rfl (by kernel_rfl) rfl rfl rfl (ov_fieldAddr Tryz.underlying37 rfl rfl rfl Tryz.sizeOf25 rfl rfl) ?_
    refine tq (i := 2) rfl (by kernel_rfl) rfl rfl rfl (ov_load_box (i := 0) Tryz.isAgg25 rfl rfl rfl rfl) ?_
    refine tq (i := 3) rfl (by kernel_rfl) rfl rfl rfl (ov_move rfl rfl) ?_
    obtain ⟨x1, e2, hm⟩ := bind_some hm
    obtain ⟨h4, h5, h6, cs1, h7, h8⟩ := h1.get e2 (by decide)
    obtain rfl : cs1 = [(.int .i64 x1.actuator), (.bool x1.out)] := h7
    refine tq (i := 4) rfl (by kernel_rfl) rfl rfl rfl (ov_indexAddr Tryz.underlying25 Tryz.sizeOf40 rfl rfl rfl h4 h5 h6) ?_
    refine tq (i := 5) rfl (by kernel_rfl) rfl rfl rfl (ov_fieldAddrE Tryz.underlying40 rfl rfl rfl Tryz.sizeOf3 rfl rfl) ?_
    refine tq (i := 6) rfl (by kernel_rfl) rfl rfl rfl (ov_load_elem (v := (.int .i64 x1.actuator)) Tryz.isAgg3 rfl rfl (h8.one (off := 0) rfl)) ?_
    refine tq (i := 7) rfl (by kernel_rfl) rfl rfl rfl (ov_fieldAddr Tryz.underlying37 rfl rfl rfl Tryz.sizeOf25 rfl rfl) ?_
    refine tq (i := 8) rfl (by kernel_rfl) rfl rfl rfl (ov_load_box (i := 0) Tryz.isAgg25 rfl rfl rfl rfl) ?_
    refine tq (i := 9) rfl (by kernel_rfl) rfl rfl rfl (ov_move rfl rfl) ?_
    obtain ⟨x2, e3, hm⟩ := bind_some hm
    obtain ⟨h9, h10, h11, cs2, h12, h13⟩ := h1.get e3 (by decide)
    obtain rfl : cs2 = [(.int .i64 x2.actuator), (.bool x2.out)] := h12
    refine tq (i := 10) rfl (by kernel_rfl) rfl rfl rfl (ov_indexAddr Tryz.underlying25 Tryz.sizeOf40 rfl rfl rfl h9 h10 h11) ?_
    refine tq (i := 11) rfl (by kernel_rfl) rfl rfl rfl (ov_fieldAddrE Tryz.underlying40 rfl rfl rfl Tryz.sizeOf4 rfl rfl) ?_
    refine tq (i := 12) rfl (by kernel_rfl) rfl rfl rfl (ov_load_elem (v := (.bool x2.out)) Tryz.isAgg4 rfl rfl (h13.one (off := 1) rfl)) ?_
    refine AL.any (rs := [13]) (by kernel_rfl) (by decide) ?_
    refine ALs.cons (i := 13) rfl (Runs.free rfl) rfl rfl ?_ ?_
    ·
     skip
     obtain ⟨x3, e4, hm⟩ := bind_some hm
     obtain ⟨h14, h15, h16, cs3, h17, h18⟩ := RL.get rl3 e4
     obtain rfl : cs3 = [(.bool x3)] := h17
     refine OQ.step (OV.quiet (ov_indexAddr_own (i := 0) Tryz.underlying47 Tryz.sizeOf4 rfl rfl rfl rfl h14 h15)) ?_
     refine ⟨fun w' s => (s.select [1] (by decide) rfl), ?_⟩
     refine AL.any (rs := [14]) (by kernel_rfl) (by decide) ?_
     refine ALs.cons0 (i := 14) rfl (Runs.free rfl) rfl ?_ ?_
     ·
      skip
      have rl4 := RL.set rl3 (y := x2.out) (off := 0) (vs := [(.bool x2.out)]) e4 h18 rfl (Nat.le_of_ble_eq_true rfl)
      have e5 := at?_set (y := x2.out) e4
      refine os_store_own (i := 0) (vs := [(.bool x2.out)]) Tryz.sizeOf4 rfl rfl rfl rfl (own_pos h14 h15) rfl rfl (elem_le (off := 0) h16 (Nat.le_of_ble_eq_true rfl)) rfl ?_
      rw [show l2.length = (List.set l2 (Int.toNat x1.actuator) x2.out).length from List.length_set.symm]
      obtain ⟨h19, h20, h21, cs4, h22, h23⟩ := rl4.get e5
      obtain rfl : cs4 = [(.bool x2.out)] := h22
      refine ⟨fun w' s => (s.select [1] (by decide) rfl), ?_⟩
      refine AL.done (by kernel_rfl) ?_
      refine block_normal (then_normal (WP.region ?_))
      refine wq rfl rfl rfl (ov_move rfl rfl) ?_
      refine wq rfl rfl rfl (ov_add rfl rfl rfl) ?_
      refine wq rfl rfl rfl (ov_assign rfl rfl) ?_
      refine WL.nil (then_normal ?_)
      exact ⟨(IntKind.wrap .i64 (i1 + 1)), (List.set l2 (Int.toNat x1.actuator) x2.out), ao5, cap5, (spl xs1 (Int.toNat x1.actuator * encBool.size + 0) [(.bool x2.out)]), rl4, (Sub.cons rfl (Sub.cons rfl (Sub.cons rfl (Sub.cons rfl (Sub.nil _))))), fun w' s => s, hm⟩
     exact ALs.nil
    exact ALs.nil
   ·
    replace hm := ite_f hc4 hm
    refine WP.exit (then_exit (then_exit (block_here (then_normal ?_))))
    exact ⟨l2, ao5, cap5, xs1, rl3, (Sub.cons rfl (Sub.cons rfl (Sub.nil _))), fun w' s => (s.select [0] (by decide) rfl), hm⟩
 ·
  rintro g' S' ⟨l3, ao6, cap6, xs2, rl5, hsub2, hS2, hm⟩
  refine WP.sub hsub2 (WP.weaken hS2 ?_)
  replace hm := (congrFun hk1 l3).symm.trans hm
  refine WP.seq (WP.region ?_)
  refine wq rfl rfl rfl (ov_move rfl rfl) ?_
  refine wq rfl rfl rfl (ov_assign rfl rfl) ?_
  refine WL.nil (then_normal (WP.ret ?_))
  obtain rfl := Option.some.inj hm
  refine retQ_ret Tryz.results54 (Res.tmp rfl Res.nil) rfl (fun w' s => ⟨s.below, ?_⟩)
  obtain ⟨h24, hc5⟩ := s.ret_row (i := 0) rfl rl5
  exact ⟨ao6, cap6, rfl, h24, hc5⟩

theorem ref13_SameEnds_con (p_a : (List Bool)) (p_b : (List Bool)) (ao1 : Option Addr) (cap1 : Nat) (ao2 : Option Addr) (cap2 : Nat) (w : World) (H : Heap) (hH : Le H (hp w)) (h1 : SL H encBool ao1 p_a) (hc1 : p_a.length ≤ cap1) (h2 : SL H encBool ao2 p_b) (hc2 : p_b.length ≤ cap2) (hG : Glob H) (r : Bool) (hm : ref13_SameEnds p_a p_b = some r) :
  Con Tryz.prog 23 [(.slice ao1 p_a.length cap1), (.slice ao2 p_b.length cap2)] w H (fun v _ => v = (.bool r)) := by
 unfold ref13_SameEnds at hm
 refine con_of hH Tryz.func23 rfl 26 Tryz.ntmps23 rfl ?_
 refine WP.seq (WP.region ?_)
 refine wq rfl rfl rfl (ov_assign rfl rfl) ?_
 refine WL.nil (then_normal (WP.seq (WP.seq (WP.region ?_))))
 refine wq rfl rfl rfl (ov_move rfl rfl) ?_
 refine wq rfl rfl rfl (ov_len_slice Tryz.underlying47 rfl rfl) ?_
 refine wq rfl rfl rfl (ov_move rfl rfl) ?_
 refine wq rfl rfl rfl (ov_len_slice Tryz.underlying47 rfl rfl) ?_
 refine wq rfl rfl rfl (ov_neq rfl rfl rfl) ?_
 refine WL.nil (then_normal ?_)
 refine WP.cond rfl (fun hc3 => ?_) (fun hc3 => ?_)
 ·
  replace hm := ite_t hc3 hm
  refine WP.seq (WP.region ?_)
  refine wq rfl rfl rfl (ov_assign rfl rfl) ?_
  refine WL.nil (then_normal (WP.ret (then_ret ?_)))
  obtain rfl := Option.some.inj hm
  refine retQ_ret Tryz.results23 (Res.tmp rfl Res.nil) rfl (fun w' s => ⟨s.below, ?_⟩)
  exact rfl
 ·
  replace hm := ite_f hc3 hm
  refine WP.skip (then_normal ?_)
  obtain ⟨k1, hk1, hm⟩ := joinK_some hm
  refine WP.seq_join (fun g' S' => Sub [(1000000007, (.bool false))] g' ∧ (∀ w', S' w' → St w H [] H w') ∧ k1 = some r) ?_ ?_
  ·
   skip
   refine WP.seq (WP.region ?_)
   refine wq rfl rfl rfl (ov_assign rfl rfl) ?_
   refine WL.nil (then_normal (WP.block ?_))
   refine WP.loop (fun m1 g' S' => ∃ (i1 : Int), Sub [(0, (.slice ao1 p_a.length cap1)), (1, (.slice ao2 p_b.length cap2)), (5, (.int .i64 i1)), (1000000007, (.bool false))] g' ∧ (∀ w', S' w' → St w H [] H w') ∧ ref13_SameEnds_loop1 p_a p_b k1 m1 i1 = some r) ((Int.toNat ((p_a.length : Int) - 0) + 1)) ⟨0, (Sub.cons rfl (Sub.cons rfl (Sub.cons rfl (Sub.cons rfl (Sub.nil _))))), fun w' s => s, hm⟩ ?_ ?_
   ·
    rintro g' S' ⟨_, _, _, hm⟩
    exact none_some hm
   ·
    rintro m1 g' S' ⟨i1, hsub1, hS1, hm⟩
    refine WP.sub hsub1 (WP.weaken hS1 ?_)
    rw [ref13_SameEnds_loop1] at hm
    refine WP.seq (WP.seq (WP.region ?_))
    refine wq rfl rfl rfl (ov_move rfl rfl) ?_
    refine wq rfl rfl rfl (ov_move rfl rfl) ?_
    refine wq rfl rfl rfl (ov_len_slice Tryz.underlying47 rfl rfl) ?_
    refine wq rfl rfl rfl (ov_lss rfl rfl rfl) ?_
    refine WL.nil (then_normal ?_)
    refine WP.cond rfl (fun hc4 => ?_) (fun hc4 => ?_)
    ·
     replace hm := ite_t hc4 hm
     refine WP.skip (then_normal (WP.seq (WP.block (WP.seq ?_))))
     refine WP.region_draws (by kernel_rfl) (by kernel_rfl) (fun _ s => s.drew) ?_
     refine QL.quiet (Runs.free rfl) rfl rfl (OV.quiet (ov_move rfl rfl)) ?_
     refine QL.quiet (Runs.free rfl) rfl rfl (OV.quiet (ov_move rfl rfl)) ?_
     obtain ⟨x1, e1, hm⟩ := bind_some hm
     obtain ⟨h3, h4, h5, cs1, h6, h7⟩ := h1.get e1 (by decide)
     obtain rfl : cs1 = [(.bool x1)] := h6
     refine QL.quiet (Runs.free rfl) rfl rfl (OV.quiet (ov_indexAddr Tryz.underlying47 Tryz.sizeOf4 rfl rfl rfl h3 h4 h5)) ?_
     refine QL.quiet (Runs.free rfl) rfl rfl (OV.quiet (ov_load_elem (v := (.bool x1)) Tryz.isAgg4 rfl rfl h7)) ?_
     refine QL.quiet (Runs.free rfl) rfl rfl (OV.quiet (ov_move rfl rfl)) ?_
     refine QL.quiet (Runs.free rfl) rfl rfl (OV.quiet (ov_move rfl rfl)) ?_
     obtain ⟨x2, e2, hm⟩ := bind_some hm
     obtain ⟨h8, h9, h10, cs2, h11, h12⟩ := h2.get e2 (by decide)
     obtain rfl : cs2 = [(.bool x2)] := h11
     refine QL.quiet (Runs.free rfl) rfl rfl (OV.quiet (ov_indexAddr Tryz.underlying47 Tryz.sizeOf4 rfl rfl rfl h8 h9 h10)) ?_
     refine QL.quiet (Runs.free rfl) rfl rfl (OV.quiet (ov_load_elem (v := (.bool x2)) Tryz.isAgg4 rfl rfl h12)) ?_
     refine QL.quiet (Runs.free rfl) rfl rfl (OV.quiet (ov_bneq Tryz.underlying4 rfl rfl rfl)) ?_
     refine QL.nil ?_
     refine then_normal ?_
     refine WP.cond rfl (fun hc5 => ?_) (fun hc5 => ?_)
     ·
      replace hm := ite_t hc5 hm
      refine WP.seq (WP.region ?_)
      refine wq rfl rfl rfl (ov_assign rfl rfl) ?_
      refine WL.nil (then_normal (WP.ret (block_ret (then_ret (then_ret (block_ret (then_ret ?_)))))))
      obtain rfl := Option.some.inj hm
      refine retQ_ret Tryz.results23 (Res.tmp rfl Res.nil) rfl (fun w' s => ⟨s.below, ?_⟩)
      exact rfl
     ·
      replace hm := ite_f hc5 hm
      refine WP.skip (block_normal (then_normal (WP.region ?_)))
      refine wq rfl rfl rfl (ov_move rfl rfl) ?_
      refine wq rfl rfl rfl (ov_add rfl rfl rfl) ?_
      refine wq rfl rfl rfl (ov_assign rfl rfl) ?_
      refine WL.nil (then_normal ?_)
      exact ⟨(IntKind.wrap .i64 (i1 + 1)), (Sub.cons rfl (Sub.cons rfl (Sub.cons rfl (Sub.cons rfl (Sub.nil _))))), fun w' s => s, hm⟩
    ·
     replace hm := ite_f hc4 hm
     refine WP.exit (then_exit (then_exit (block_here (then_normal ?_))))
     exact ⟨(Sub.cons rfl (Sub.nil _)), fun w' s => s, hm⟩
  ·
   rintro g' S' ⟨hsub2, hS2, hm⟩
   refine WP.sub hsub2 (WP.weaken hS2 ?_)
   replace hm := hk1.symm.trans hm
   refine WP.seq (WP.region ?_)
   refine wq rfl rfl rfl (ov_assign rfl rfl) ?_
   refine WL.nil (then_normal (WP.ret ?_))
   obtain rfl := Option.some.inj hm
   refine retQ_ret Tryz.results23 (Res.tmp rfl Res.nil) rfl (fun w' s => ⟨s.below, ?_⟩)
   exact rfl

end Go.Proofs.YtbhcojijafbdiaaGreatDoor.W
