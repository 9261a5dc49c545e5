/- The walks. Written by our own program gen.py; Lean checks it. -/
import Derived.Test.YtcgmhlakihjbkaaGreatDoorPlain
import Derived.Test.YtcgmhlakihjbkaaGreatDoorEqs
import Derived.Test.YtcgmhlakihjbkaaGreatDoorProg
import Derived.Test.YtcgmhlakihjbkaaGreatDoorExt
import Derived.Test.YtcgmhlakihjbkaaGreatDoorClone
import Derived.Test.YtcgmhlakihjbkaaGreatDoorInsert
import Derived.Test.YtcgmhlakihjbkaaGreatDoorBuild
import Derived.Test.YtcgmhlakihjbkaaGreatDoorWalk4
set_option linter.unusedVariables false
set_option maxRecDepth 100000
set_option maxHeartbeats 4000000
namespace Go.Proofs.YtcgmhlakihjbkaaGreatDoor.W
open Go Go.RowKit
theorem ref13_Suits_con (p_x : Step) (p_ends : (List Bool)) (ao1 : Option Addr) (cap1 : Nat) (ao2 : Option Addr) (cap2 : Nat) (w : World) (H : Heap) (hH : Le H (hp w)) (h1 : SL H encStroke ao1 p_x.strokes) (hc1 : p_x.strokes.length ≤ cap1) (h2 : SL H encBool ao2 p_ends) (hc2 : p_ends.length ≤ cap2) (hG : Glob H) (r : Bool) (hm : ref13_Suits p_x p_ends = some r) :
  Con Tryz.prog 26 [(.agg #[(.slice ao1 p_x.strokes.length cap1), (.int .i64 p_x.wait)]), (.slice ao2 p_ends.length cap2)] w H (fun v _ => v = (.bool r)) := by
 unfold ref13_Suits at hm
 refine con_of hH Tryz.func26 rfl 34 Tryz.ntmps26 rfl ?_
 refine WP.seq (WP.region ?_)
 refine WL.step (Runs.free rfl) rfl rfl (os_box (cs := [(.slice ao1 p_x.strokes.length cap1), (.int .i64 p_x.wait)]) rfl rfl rfl (fun b1 => ?_))
 refine wq rfl rfl rfl (ov_assign rfl rfl) ?_
 refine WL.nil (then_normal ?_)
 obtain ⟨k1, hk1, hm⟩ := joinK_some hm
 refine WP.seq_join (fun g' S' => Sub [(1000000007, (.bool false))] g' ∧ (∀ w', S' w' → St w H [] H w') ∧ k1 = some r) ?_ ?_
 ·
  skip
  refine WP.seq (WP.region ?_)
  refine wq rfl rfl rfl (ov_assign rfl rfl) ?_
  refine WL.nil (then_normal (WP.block ?_))
  refine WP.loop (fun m1 g' S' => ∃ (i1 : Int), Sub [(1, (.slice ao2 p_ends.length cap2)), (2, (pB b1 0)), (5, (.int .i64 i1)), (1000000007, (.bool false))] g' ∧ (∀ w', S' w' → St w H [.blk b1 51 [(.slice ao1 p_x.strokes.length cap1), (.int .i64 p_x.wait)]] H w') ∧ ref13_Suits_loop1 p_x p_ends k1 m1 i1 = some r) ((Int.toNat ((p_x.strokes.length : Int) - 0) + 1)) ⟨0, (Sub.cons rfl (Sub.cons rfl (Sub.cons rfl (Sub.cons rfl (Sub.nil _))))), fun w' s => s, hm⟩ ?_ ?_
  ·
   rintro g' S' ⟨_, _, _, hm⟩
   exact none_some hm
  ·
   rintro m1 g' S' ⟨i1, hsub1, hS1, hm⟩
   refine WP.sub hsub1 (WP.weaken hS1 ?_)
   rw [ref13_Suits_loop1] at hm
   refine WP.seq (WP.seq (WP.region ?_))
   refine wq rfl rfl rfl (ov_move rfl rfl) ?_
   refine wq rfl rfl rfl (ov_fieldAddr Tryz.underlying51 rfl rfl rfl Tryz.sizeOf49 rfl rfl) ?_
   refine wq rfl rfl rfl (ov_load_box (i := 0) Tryz.isAgg49 rfl rfl rfl rfl) ?_
   refine wq rfl rfl rfl (ov_len_slice Tryz.underlying49 rfl rfl) ?_
   refine wq rfl rfl rfl (ov_lss rfl rfl rfl) ?_
   refine WL.nil (then_normal ?_)
   refine WP.cond rfl (fun hc3 => ?_) (fun hc3 => ?_)
   ·
    replace hm := ite_t hc3 hm
    refine WP.skip (then_normal (WP.seq (WP.block (WP.seq (WP.region ?_)))))
    refine wq rfl rfl rfl (ov_fieldAddr Tryz.underlying51 rfl rfl rfl Tryz.sizeOf49 rfl rfl) ?_
    refine wq rfl rfl rfl (ov_load_box (i := 0) Tryz.isAgg49 rfl rfl rfl rfl) ?_
    refine wq rfl rfl rfl (ov_move rfl rfl) ?_
    obtain ⟨x1, e1, hm⟩ := bind_some hm
    obtain ⟨h3, h4, h5, cs1, h6, h7⟩ := h1.get e1 (by decide)
    obtain rfl : cs1 = [(.int .i64 x1.actuator), (.bool x1.out)] := h6
    refine wq rfl rfl rfl (ov_indexAddr Tryz.underlying49 Tryz.sizeOf60 rfl rfl rfl h3 h4 h5) ?_
    refine wq rfl rfl rfl (ov_load_elems (vs := [(.int .i64 x1.actuator), (.bool x1.out)]) Tryz.isAgg60 Tryz.sizeOf60 rfl rfl rfl h7 h5) ?_
    refine WL.step (Runs.free rfl) rfl rfl (os_alloc (cs := [(.int .i64 0), (.bool false)]) Tryz.zeroValue60 rfl rfl (fun b2 => ?_))
    refine WL.step0 (Runs.free rfl) rfl (os_store (i := 0) (vs := [(.int .i64 x1.actuator), (.bool x1.out)]) (cs' := [(.int .i64 x1.actuator), (.bool x1.out)]) Tryz.sizeOf60 rfl rfl rfl rfl rfl rfl rfl rfl rfl ?_)
    refine WL.nil (then_normal (WP.seq ?_))
    refine WP.region_draws (by kernel_rfl) (by kernel_rfl) (fun _ s => s.drew) ?_
    refine QL.quiet (Runs.free rfl) rfl rfl (OV.quiet (ov_fieldAddr Tryz.underlying60 rfl rfl rfl Tryz.sizeOf3 rfl rfl)) ?_
    refine QL.quiet (Runs.free rfl) rfl rfl (OV.quiet (ov_load_box (i := 0) Tryz.isAgg3 rfl rfl rfl rfl)) ?_
    refine QL.quiet (Runs.free rfl) rfl rfl (OV.quiet (ov_move rfl rfl)) ?_
    refine QL.quiet (Runs.free rfl) rfl rfl (OV.quiet (ov_len_slice Tryz.underlying69 rfl rfl)) ?_
    refine QL.quiet (Runs.free rfl) rfl rfl (OV.quiet (ov_geq rfl rfl rfl)) ?_
    refine QL.quiet (Runs.free rfl) rfl rfl (OV.quiet (ov_move rfl rfl)) ?_
    obtain ⟨c1, e2, hm⟩ := bind_some hm
    refine QL.part_bool 9 33 (x := c1) ?_ ?_
    ·
     rcases Bool.eq_false_or_eq_true (decide (x1.actuator ≥ (p_ends.length : Int))) with hc4 | hc4
     ·
      skip
      replace hm := ite_t hc4 e2
      refine QL.idle (Idle.no rfl rfl rfl hc4) rfl rfl ?_
      refine QL.idle (Idle.no rfl rfl rfl hc4) rfl rfl ?_
      refine QL.idle (Idle.no rfl rfl rfl hc4) rfl rfl ?_
      refine QL.idle (Idle.no rfl rfl rfl hc4) rfl rfl ?_
      refine QL.idle (Idle.no rfl rfl rfl hc4) rfl rfl ?_
      refine QL.idle (Idle.no rfl rfl rfl hc4) rfl rfl ?_
      refine QL.idle (Idle.no rfl rfl rfl hc4) rfl rfl ?_
      refine QL.idle (Idle.no rfl rfl rfl hc4) rfl rfl ?_
      refine QL.quiet (Runs.free rfl) rfl rfl (OV.quiet (ov_pick_true rfl (guard_eq rfl hc4) rfl)) ?_
      exact QL.nil (Sub.cons' rfl (congrArg Value.bool (Option.some.inj hm)) (Sub.skip rfl (Sub.skip rfl (Sub.skip rfl (Sub.skip rfl (Sub.skip rfl (Sub.skip rfl (Sub.skip rfl (Sub.skip rfl (Sub.skip rfl (Sub.refl _)))))))))))
     ·
      skip
      replace hm := ite_f hc4 e2
      refine QL.quiet (Runs.yes rfl rfl rfl hc4) rfl rfl (OV.quiet (ov_move rfl rfl)) ?_
      refine QL.quiet (Runs.yes rfl rfl rfl hc4) rfl rfl (OV.quiet (ov_fieldAddr Tryz.underlying60 rfl rfl rfl Tryz.sizeOf3 rfl rfl)) ?_
      refine QL.quiet (Runs.yes rfl rfl rfl hc4) rfl rfl (OV.quiet (ov_load_box (i := 0) Tryz.isAgg3 rfl rfl rfl rfl)) ?_
      obtain ⟨x2, e3, hm⟩ := bind_some hm
      obtain ⟨h8, h9, h10, cs2, h11, h12⟩ := h2.get e3 (by decide)
      obtain rfl : cs2 = [(.bool x2)] := h11
      refine QL.quiet (Runs.yes rfl rfl rfl hc4) rfl rfl (OV.quiet (ov_indexAddr Tryz.underlying69 Tryz.sizeOf4 rfl rfl rfl h8 h9 h10)) ?_
      refine QL.quiet (Runs.yes rfl rfl rfl hc4) rfl rfl (OV.quiet (ov_load_elem (v := (.bool x2)) Tryz.isAgg4 rfl rfl h12)) ?_
      refine QL.quiet (Runs.yes rfl rfl rfl hc4) rfl rfl (OV.quiet (ov_fieldAddr Tryz.underlying60 rfl rfl rfl Tryz.sizeOf4 rfl rfl)) ?_
      refine QL.quiet (Runs.yes rfl rfl rfl hc4) rfl rfl (OV.quiet (ov_load_box (i := 0) Tryz.isAgg4 rfl rfl rfl rfl)) ?_
      refine QL.quiet (Runs.yes rfl rfl rfl hc4) rfl rfl (OV.quiet (ov_beql Tryz.underlying4 rfl rfl rfl)) ?_
      refine QL.quiet (Runs.free rfl) rfl rfl (OV.quiet (ov_pick_false rfl (guard_eq rfl hc4) rfl)) ?_
      exact QL.nil (Sub.cons' rfl (congrArg Value.bool (Option.some.inj hm)) (Sub.skip rfl (Sub.skip rfl (Sub.skip rfl (Sub.skip rfl (Sub.skip rfl (Sub.skip rfl (Sub.skip rfl (Sub.skip rfl (Sub.skip rfl (Sub.refl _)))))))))))
    refine QL.nil ?_
    refine then_normal ?_
    refine WP.cond rfl (fun hc5 => ?_) (fun hc5 => ?_)
    ·
     replace hm := ite_t hc5 hm
     refine WP.seq (WP.region ?_)
     refine wq rfl rfl rfl (ov_assign rfl rfl) ?_
     refine WL.nil (then_normal (WP.ret (block_ret (then_ret (then_ret (block_ret (then_ret ?_)))))))
     obtain rfl := Option.some.inj hm
     refine retQ_ret Tryz.results26 (Res.tmp rfl Res.nil) rfl (fun w' s => ⟨s.below, ?_⟩)
     exact rfl
    ·
     replace hm := ite_f hc5 hm
     refine WP.skip (block_normal (then_normal (WP.region ?_)))
     refine wq rfl rfl rfl (ov_move rfl rfl) ?_
     refine wq rfl rfl rfl (ov_add rfl rfl rfl) ?_
     refine wq rfl rfl rfl (ov_assign rfl rfl) ?_
     refine WL.nil (then_normal ?_)
     exact ⟨(IntKind.wrap .i64 (i1 + 1)), (Sub.cons rfl (Sub.cons rfl (Sub.cons rfl (Sub.cons rfl (Sub.nil _))))), fun w' s => (s.select [1] (by decide) rfl), hm⟩
   ·
    replace hm := ite_f hc3 hm
    refine WP.exit (then_exit (then_exit (block_here (then_normal ?_))))
    exact ⟨(Sub.cons rfl (Sub.nil _)), fun w' s => (s.select [] (by decide) rfl), hm⟩
 ·
  rintro g' S' ⟨hsub2, hS2, hm⟩
  refine WP.sub hsub2 (WP.weaken hS2 ?_)
  replace hm := hk1.symm.trans hm
  refine WP.seq (WP.region ?_)
  refine wq rfl rfl rfl (ov_assign rfl rfl) ?_
  refine WL.nil (then_normal (WP.ret ?_))
  obtain rfl := Option.some.inj hm
  refine retQ_ret Tryz.results26 (Res.tmp rfl Res.nil) rfl (fun w' s => ⟨s.below, ?_⟩)
  exact rfl

theorem ref13_After_con (p_x : Step) (p_ends : (List Bool)) (ao1 : Option Addr) (cap1 : Nat) (ao2 : Option Addr) (cap2 : Nat) (w : World) (H : Heap) (hH : Le H (hp w)) (h1 : SL H encStroke ao1 p_x.strokes) (hc1 : p_x.strokes.length ≤ cap1) (h2 : SL H encBool ao2 p_ends) (hc2 : p_ends.length ≤ cap2) (hG : Glob H) (r : (List Bool)) (hm : ref13_After p_x p_ends = some r) :
  Con Tryz.prog 27 [(.agg #[(.slice ao1 p_x.strokes.length cap1), (.int .i64 p_x.wait)]), (.slice ao2 p_ends.length cap2)] w H (fun v H' => ∃ (ao3 : Option Addr) (cap3 : Nat), v = (.slice ao3 r.length cap3) ∧ SL H' encBool ao3 r ∧ r.length ≤ cap3) := by
 unfold ref13_After at hm
 refine con_of hH Tryz.func27 rfl 32 Tryz.ntmps27 rfl ?_
 refine WP.seq (WP.region ?_)
 refine WL.step (Runs.free rfl) rfl rfl (os_box (cs := [(.slice ao1 p_x.strokes.length cap1), (.int .i64 p_x.wait)]) rfl rfl rfl (fun b1 => ?_))
 refine wq rfl rfl rfl (ov_assign rfl rfl) ?_
 refine WL.nil (then_normal (WP.seq (WP.region ?_)))
 have rl1 : RL H encBool ([] : List Bool) [] := RL.nil _ _
 refine WL.step (Runs.free rfl) rfl rfl (os_buildSlice (cs := []) (E := 4) (sz := 1) rfl rfl (fun _ => by kernel_rfl) rfl (by decide) (fun b2 => ?_))
 refine wq rfl rfl rfl (ov_move rfl rfl) ?_
 obtain ⟨l1, e1, hm⟩ := bind_some hm
 refine WL.step (Runs.free rfl) rfl rfl (os_app_sl (i := 0) (En := encBool) (xs := []) Tryz.underlying69 (by kernel_rfl : (Tryz.prog.info? 4).map (fun i => (i.zero, i.size, i.bytes)) = some (some (.bool false), (encBool).size, 1)) rfl (by decide) one_encBool rfl rfl rfl rfl h2 hc2 rl1 e1 (fun ao4 cap4 ys1 rl2 => ?_))
 refine wq rfl rfl rfl (ov_assign rfl rfl) ?_
 refine WL.nil (then_normal ?_)
 obtain ⟨k1, hk1, hm⟩ := joinK_some hm
 refine WP.seq_join (fun g' S' => ∃ (l3 : (List Bool)) (ao6 : Option Addr) (cap6 : Nat) (xs2 : List Value), RL H encBool l3 xs2 ∧ Sub [(5, (.slice ao6 l3.length cap6)), (1000000007, (.bool false))] g' ∧ (∀ w', S' w' → St w H [.row 4 (encBool).size l3.length (.slice ao6 l3.length cap6) xs2] H w') ∧ k1 l3 = some r) ?_ ?_
 ·
  skip
  refine WP.seq (WP.region ?_)
  refine wq rfl rfl rfl (ov_assign rfl rfl) ?_
  refine WL.nil (then_normal (WP.block ?_))
  refine WP.loop (fun m1 g' S' => ∃ (i1 : Int) (l2 : (List Bool)) (ao5 : Option Addr) (cap5 : Nat) (xs1 : List Value), RL H encBool l2 xs1 ∧ Sub [(2, (pB b1 0)), (5, (.slice ao5 l2.length cap5)), (6, (.int .i64 i1)), (1000000007, (.bool false))] g' ∧ (∀ w', S' w' → St w H [.row 4 (encBool).size l2.length (.slice ao5 l2.length cap5) xs1, .blk b1 51 [(.slice ao1 p_x.strokes.length cap1), (.int .i64 p_x.wait)]] H w') ∧ ref13_After_loop1 p_x k1 m1 i1 l2 = some r) ((Int.toNat ((p_x.strokes.length : Int) - 0) + 1)) ⟨0, (([] : List Bool) ++ p_ends), ao4, cap4, ([] ++ ys1), rl2, (Sub.cons rfl (Sub.cons rfl (Sub.cons rfl (Sub.cons rfl (Sub.nil _))))), fun w' s => s, hm⟩ ?_ ?_
  ·
   rintro g' S' ⟨_, _, _, _, _, _, _, _, hm⟩
   exact none_some hm
  ·
   rintro m1 g' S' ⟨i1, l2, ao5, cap5, xs1, rl3, hsub1, hS1, hm⟩
   refine WP.sub hsub1 (WP.weaken hS1 ?_)
   rw [ref13_After_loop1] at hm
   refine WP.seq (WP.seq (WP.region ?_))
   refine wq rfl rfl rfl (ov_move rfl rfl) ?_
   refine wq rfl rfl rfl (ov_fieldAddr Tryz.underlying51 rfl rfl rfl Tryz.sizeOf49 rfl rfl) ?_
   refine wq rfl rfl rfl (ov_load_box (i := 1) Tryz.isAgg49 rfl rfl rfl rfl) ?_
   refine wq rfl rfl rfl (ov_len_slice Tryz.underlying49 rfl rfl) ?_
   refine wq rfl rfl rfl (ov_lss rfl rfl rfl) ?_
   refine WL.nil (then_normal ?_)
   refine WP.cond rfl (fun hc4 => ?_) (fun hc4 => ?_)
   ·
    replace hm := ite_t hc4 hm
    refine WP.skip (then_normal (WP.seq (WP.block ?_)))
    refine WP.region_any (S₀ := St w H [.blk b1 51 [(.slice ao1 p_x.strokes.length cap1), (.int .i64 p_x.wait)]] H) 15 rfl (by kernel_rfl) (fun w' s => (s.select [1] (by decide) rfl)) (fun _ s => s.drew) ?_
    refine tq (i := 0) rfl (by kernel_rfl) rfl rfl rfl (ov_move rfl rfl) ?_
    refine tq (i := 1) rfl (by kernel_rfl) rfl rfl rfl (ov_fieldAddr Tryz.underlying51 rfl rfl rfl Tryz.sizeOf49 rfl rfl) ?_
    refine tq (i := 2) rfl (by kernel_rfl) rfl rfl rfl (ov_load_box (i := 0) Tryz.isAgg49 rfl rfl rfl rfl) ?_
    refine tq (i := 3) rfl (by kernel_rfl) rfl rfl rfl (ov_move rfl rfl) ?_
    obtain ⟨x1, e2, hm⟩ := bind_some hm
    obtain ⟨h4, h5, h6, cs1, h7, h8⟩ := h1.get e2 (by decide)
    obtain rfl : cs1 = [(.int .i64 x1.actuator), (.bool x1.out)] := h7
    refine tq (i := 4) rfl (by kernel_rfl) rfl rfl rfl (ov_indexAddr Tryz.underlying49 Tryz.sizeOf60 rfl rfl rfl h4 h5 h6) ?_
    refine tq (i := 5) rfl (by kernel_rfl) rfl rfl rfl (ov_fieldAddrE Tryz.underlying60 rfl rfl rfl Tryz.sizeOf3 rfl rfl) ?_
    refine tq (i := 6) rfl (by kernel_rfl) rfl rfl rfl (ov_load_elem (v := (.int .i64 x1.actuator)) Tryz.isAgg3 rfl rfl (h8.one (off := 0) rfl)) ?_
    refine tq (i := 7) rfl (by kernel_rfl) rfl rfl rfl (ov_fieldAddr Tryz.underlying51 rfl rfl rfl Tryz.sizeOf49 rfl rfl) ?_
    refine tq (i := 8) rfl (by kernel_rfl) rfl rfl rfl (ov_load_box (i := 0) Tryz.isAgg49 rfl rfl rfl rfl) ?_
    refine tq (i := 9) rfl (by kernel_rfl) rfl rfl rfl (ov_move rfl rfl) ?_
    obtain ⟨x2, e3, hm⟩ := bind_some hm
    obtain ⟨h9, h10, h11, cs2, h12, h13⟩ := h1.get e3 (by decide)
    obtain rfl : cs2 = [(.int .i64 x2.actuator), (.bool x2.out)] := h12
    refine tq (i := 10) rfl (by kernel_rfl) rfl rfl rfl (ov_indexAddr Tryz.underlying49 Tryz.sizeOf60 rfl rfl rfl h9 h10 h11) ?_
    refine tq (i := 11) rfl (by kernel_rfl) rfl rfl rfl (ov_fieldAddrE Tryz.underlying60 rfl rfl rfl Tryz.sizeOf4 rfl rfl) ?_
    refine tq (i := 12) rfl (by kernel_rfl) rfl rfl rfl (ov_load_elem (v := (.bool x2.out)) Tryz.isAgg4 rfl rfl (h13.one (off := 1) rfl)) ?_
    refine AL.any (rs := [13]) (by kernel_rfl) (by decide) ?_
    refine ALs.cons (i := 13) rfl (Runs.free rfl) rfl rfl ?_ ?_
    ·
     skip
     obtain ⟨x3, e4, hm⟩ := bind_some hm
     obtain ⟨h14, h15, h16, cs3, h17, h18⟩ := RL.get rl3 e4
     obtain rfl : cs3 = [(.bool x3)] := h17
     refine OQ.step (OV.quiet (ov_indexAddr_own (i := 0) Tryz.underlying69 Tryz.sizeOf4 rfl rfl rfl rfl h14 h15)) ?_
     refine ⟨fun w' s => (s.select [1] (by decide) rfl), ?_⟩
     refine AL.any (rs := [14]) (by kernel_rfl) (by decide) ?_
     refine ALs.cons0 (i := 14) rfl (Runs.free rfl) rfl ?_ ?_
     ·
      skip
      have rl4 := RL.set rl3 (y := x2.out) (off := 0) (vs := [(.bool x2.out)]) e4 h18 rfl (Nat.le_of_ble_eq_true rfl)
      have e5 := at?_set (y := x2.out) e4
      refine os_store_own (i := 0) (vs := [(.bool x2.out)]) Tryz.sizeOf4 rfl rfl rfl rfl (own_pos h14 h15) rfl rfl (elem_le (off := 0) h16 (Nat.le_of_ble_eq_true rfl)) rfl ?_
      rw [show l2.length = (List.set l2 (Int.toNat x1.actuator) x2.out).length from List.length_set.symm]
      obtain ⟨h19, h20, h21, cs4, h22, h23⟩ := rl4.get e5
      obtain rfl : cs4 = [(.bool x2.out)] := h22
      refine ⟨fun w' s => (s.select [1] (by decide) rfl), ?_⟩
      refine AL.done (by kernel_rfl) ?_
      refine block_normal (then_normal (WP.region ?_))
      refine wq rfl rfl rfl (ov_move rfl rfl) ?_
      refine wq rfl rfl rfl (ov_add rfl rfl rfl) ?_
      refine wq rfl rfl rfl (ov_assign rfl rfl) ?_
      refine WL.nil (then_normal ?_)
      exact ⟨(IntKind.wrap .i64 (i1 + 1)), (List.set l2 (Int.toNat x1.actuator) x2.out), ao5, cap5, (spl xs1 (Int.toNat x1.actuator * encBool.size + 0) [(.bool x2.out)]), rl4, (Sub.cons rfl (Sub.cons rfl (Sub.cons rfl (Sub.cons rfl (Sub.nil _))))), fun w' s => s, hm⟩
     exact ALs.nil
    exact ALs.nil
   ·
    replace hm := ite_f hc4 hm
    refine WP.exit (then_exit (then_exit (block_here (then_normal ?_))))
    exact ⟨l2, ao5, cap5, xs1, rl3, (Sub.cons rfl (Sub.cons rfl (Sub.nil _))), fun w' s => (s.select [0] (by decide) rfl), hm⟩
 ·
  rintro g' S' ⟨l3, ao6, cap6, xs2, rl5, hsub2, hS2, hm⟩
  refine WP.sub hsub2 (WP.weaken hS2 ?_)
  replace hm := (congrFun hk1 l3).symm.trans hm
  refine WP.seq (WP.region ?_)
  refine wq rfl rfl rfl (ov_move rfl rfl) ?_
  refine wq rfl rfl rfl (ov_assign rfl rfl) ?_
  refine WL.nil (then_normal (WP.ret ?_))
  obtain rfl := Option.some.inj hm
  refine retQ_ret Tryz.results27 (Res.tmp rfl Res.nil) rfl (fun w' s => ⟨s.below, ?_⟩)
  obtain ⟨h24, hc5⟩ := s.ret_row (i := 0) rfl rl5
  exact ⟨ao6, cap6, rfl, h24, hc5⟩

theorem ref14_Few_con (p_s : Sequence) (ao1 : Option Addr) (cap1 : Nat) (w : World) (H : Heap) (hH : Le H (hp w)) (h1 : SL H encStep ao1 p_s.steps) (hc1 : p_s.steps.length ≤ cap1) (hG : Glob H) (r : Bool) (hm : ref14_Few p_s = some r) :
  Con Tryz.prog 4 [(.agg #[(.int .i64 p_s.actuators), (.slice ao1 p_s.steps.length cap1)])] w H (fun v _ => v = (.bool r)) := by
 unfold ref14_Few at hm
 refine con_of hH Tryz.func4 rfl 23 Tryz.ntmps4 rfl ?_
 refine WP.seq (WP.region ?_)
 refine WL.step (Runs.free rfl) rfl rfl (os_box (cs := [(.int .i64 p_s.actuators), (.slice ao1 p_s.steps.length cap1)]) rfl rfl rfl (fun b1 => ?_))
 refine wq rfl rfl rfl (ov_assign rfl rfl) ?_
 refine WL.nil (then_normal (WP.seq (WP.seq (WP.region ?_))))
 refine wq rfl rfl rfl (ov_fieldAddr Tryz.underlying24 rfl rfl rfl Tryz.sizeOf22 rfl rfl) ?_
 refine wq rfl rfl rfl (ov_load_box (i := 0) Tryz.isAgg22 rfl rfl rfl rfl) ?_
 refine wq rfl rfl rfl (ov_len_slice Tryz.underlying22 rfl rfl) ?_
 refine wq rfl rfl rfl (ov_gtr rfl rfl rfl) ?_
 refine WL.nil (then_normal ?_)
 refine WP.cond rfl (fun hc2 => ?_) (fun hc2 => ?_)
 ·
  replace hm := ite_t hc2 hm
  refine WP.seq (WP.region ?_)
  refine wq rfl rfl rfl (ov_assign rfl rfl) ?_
  refine WL.nil (then_normal (WP.ret (then_ret ?_)))
  obtain rfl := Option.some.inj hm
  refine retQ_ret Tryz.results4 (Res.tmp rfl Res.nil) rfl (fun w' s => ⟨s.below, ?_⟩)
  exact rfl
 ·
  replace hm := ite_f hc2 hm
  refine WP.skip (then_normal ?_)
  obtain ⟨k1, hk1, hm⟩ := joinK_some hm
  refine WP.seq_join (fun g' S' => Sub [(1000000007, (.bool false))] g' ∧ (∀ w', S' w' → St w H [] H w') ∧ k1 = some r) ?_ ?_
  ·
   skip
   refine WP.seq (WP.region ?_)
   refine wq rfl rfl rfl (ov_assign rfl rfl) ?_
   refine WL.nil (then_normal (WP.block ?_))
   refine WP.loop (fun m1 g' S' => ∃ (i1 : Int), Sub [(1, (pB b1 0)), (3, (.int .i64 i1)), (1000000007, (.bool false))] g' ∧ (∀ w', S' w' → St w H [.blk b1 24 [(.int .i64 p_s.actuators), (.slice ao1 p_s.steps.length cap1)]] H w') ∧ ref14_Few_loop1 p_s k1 m1 i1 = some r) ((Int.toNat ((p_s.steps.length : Int) - 0) + 1)) ⟨0, (Sub.cons rfl (Sub.cons rfl (Sub.cons rfl (Sub.nil _)))), fun w' s => s, hm⟩ ?_ ?_
   ·
    rintro g' S' ⟨_, _, _, hm⟩
    exact none_some hm
   ·
    rintro m1 g' S' ⟨i1, hsub1, hS1, hm⟩
    refine WP.sub hsub1 (WP.weaken hS1 ?_)
    rw [ref14_Few_loop1] at hm
    refine WP.seq (WP.seq (WP.region ?_))
    refine wq rfl rfl rfl (ov_move rfl rfl) ?_
    refine wq rfl rfl rfl (ov_fieldAddr Tryz.underlying24 rfl rfl rfl Tryz.sizeOf22 rfl rfl) ?_
    refine wq rfl rfl rfl (ov_load_box (i := 0) Tryz.isAgg22 rfl rfl rfl rfl) ?_
    refine wq rfl rfl rfl (ov_len_slice Tryz.underlying22 rfl rfl) ?_
    refine wq rfl rfl rfl (ov_lss rfl rfl rfl) ?_
    refine WL.nil (then_normal ?_)
    refine WP.cond rfl (fun hc3 => ?_) (fun hc3 => ?_)
    ·
     replace hm := ite_t hc3 hm
     refine WP.skip (then_normal (WP.seq (WP.block (WP.seq (WP.region ?_)))))
     refine wq rfl rfl rfl (ov_fieldAddr Tryz.underlying24 rfl rfl rfl Tryz.sizeOf22 rfl rfl) ?_
     refine wq rfl rfl rfl (ov_load_box (i := 0) Tryz.isAgg22 rfl rfl rfl rfl) ?_
     refine wq rfl rfl rfl (ov_move rfl rfl) ?_
     obtain ⟨x1, e1, hm⟩ := bind_some hm
     obtain ⟨h3, h4, h5, cs1, h6, h7⟩ := h1.get e1 (by decide)
     obtain ⟨ao2, cap2, rfl, h2, hc4⟩ := h6
     refine wq rfl rfl rfl (ov_indexAddr Tryz.underlying22 Tryz.sizeOf51 rfl rfl rfl h3 h4 h5) ?_
     refine wq rfl rfl rfl (ov_fieldAddrE Tryz.underlying51 rfl rfl rfl Tryz.sizeOf49 rfl rfl) ?_
     refine wq rfl rfl rfl (ov_load_elem (v := (.slice ao2 x1.strokes.length cap2)) Tryz.isAgg49 rfl rfl (h7.one (off := 0) rfl)) ?_
     refine wq rfl rfl rfl (ov_len_slice Tryz.underlying49 rfl rfl) ?_
     refine wq rfl rfl rfl (ov_gtr rfl rfl rfl) ?_
     refine WL.nil (then_normal ?_)
     refine WP.cond rfl (fun hc5 => ?_) (fun hc5 => ?_)
     ·
      replace hm := ite_t hc5 hm
      refine WP.seq (WP.region ?_)
      refine wq rfl rfl rfl (ov_assign rfl rfl) ?_
      refine WL.nil (then_normal (WP.ret (block_ret (then_ret (then_ret (block_ret (then_ret ?_)))))))
      obtain rfl := Option.some.inj hm
      refine retQ_ret Tryz.results4 (Res.tmp rfl Res.nil) rfl (fun w' s => ⟨s.below, ?_⟩)
      exact rfl
     ·
      replace hm := ite_f hc5 hm
      refine WP.skip (block_normal (then_normal (WP.region ?_)))
      refine wq rfl rfl rfl (ov_move rfl rfl) ?_
      refine wq rfl rfl rfl (ov_add rfl rfl rfl) ?_
      refine wq rfl rfl rfl (ov_assign rfl rfl) ?_
      refine WL.nil (then_normal ?_)
      exact ⟨(IntKind.wrap .i64 (i1 + 1)), (Sub.cons rfl (Sub.cons rfl (Sub.cons rfl (Sub.nil _)))), fun w' s => s, hm⟩
    ·
     replace hm := ite_f hc3 hm
     refine WP.exit (then_exit (then_exit (block_here (then_normal ?_))))
     exact ⟨(Sub.cons rfl (Sub.nil _)), fun w' s => (s.select [] (by decide) rfl), hm⟩
  ·
   rintro g' S' ⟨hsub2, hS2, hm⟩
   refine WP.sub hsub2 (WP.weaken hS2 ?_)
   replace hm := hk1.symm.trans hm
   refine WP.seq (WP.region ?_)
   refine wq rfl rfl rfl (ov_assign rfl rfl) ?_
   refine WL.nil (then_normal (WP.ret ?_))
   obtain rfl := Option.some.inj hm
   refine retQ_ret Tryz.results4 (Res.tmp rfl Res.nil) rfl (fun w' s => ⟨s.below, ?_⟩)
   exact rfl

theorem sequence_fits_con (p_s : Sequence) (p_step : Step) (p_x : Ends6) (ao1 : Option Addr) (cap1 : Nat) (ao2 : Option Addr) (cap2 : Nat) (w : World) (H : Heap) (hH : Le H (hp w)) (h1 : SL H encStep ao1 p_s.steps) (hc1 : p_s.steps.length ≤ cap1) (h2 : SL H encStroke ao2 p_step.strokes) (hc2 : p_step.strokes.length ≤ cap2) (hG : Glob H) (r : Int) (hm : sequence_fits p_s p_step p_x = some r) :
  Con Tryz.prog 36 [(.agg #[(.int .i64 p_s.actuators), (.slice ao1 p_s.steps.length cap1)]), (.agg #[(.slice ao2 p_step.strokes.length cap2), (.int .i64 p_step.wait)]), (.agg #[(.bool p_x.a0), (.bool p_x.a1), (.bool p_x.a2), (.bool p_x.a3), (.bool p_x.a4), (.bool p_x.a5)])] w H (fun v _ => v = (.int .i64 r)) := by
 unfold sequence_fits at hm
 refine con_of hH Tryz.func36 rfl 45 Tryz.ntmps36 rfl ?_
 refine WP.seq (WP.region ?_)
 refine WL.step (Runs.free rfl) rfl rfl (os_box (cs := [(.int .i64 p_s.actuators), (.slice ao1 p_s.steps.length cap1)]) rfl rfl rfl (fun b1 => ?_))
 refine WL.step (Runs.free rfl) rfl rfl (os_box (cs := [(.slice ao2 p_step.strokes.length cap2), (.int .i64 p_step.wait)]) rfl rfl rfl (fun b2 => ?_))
 refine WL.step (Runs.free rfl) rfl rfl (os_box (cs := [(.bool p_x.a0), (.bool p_x.a1), (.bool p_x.a2), (.bool p_x.a3), (.bool p_x.a4), (.bool p_x.a5)]) rfl rfl rfl (fun b3 => ?_))
 refine wq rfl rfl rfl (ov_assign rfl rfl) ?_
 refine WL.nil (then_normal (WP.seq (WP.seq (WP.region ?_))))
 refine wq rfl rfl rfl (ov_load_whole (i := 1) Tryz.isAgg51 Tryz.sizeOf51 rfl rfl rfl rfl) ?_
 obtain ⟨r1, e1, hm⟩ := bind_some hm
 refine WL.quiet (Runs.free rfl) rfl rfl (oq_con (r := (.int .i64 r1)) Tryz.call52 rfl rfl (fun w' s => ⟨_, (stroke_CheckStep_con p_step ao2 cap2  w' H s.hold h2 hc2 hG r1 e1)⟩)) ?_
 refine wq rfl rfl rfl (ov_assign rfl rfl) ?_
 refine WL.nil (then_normal (WP.seq (WP.region ?_)))
 refine wq rfl rfl rfl (ov_move rfl rfl) ?_
 refine wq rfl rfl rfl (ov_neq rfl rfl rfl) ?_
 refine WL.nil (then_normal ?_)
 refine WP.cond rfl (fun hc3 => ?_) (fun hc3 => ?_)
 ·
  replace hm := ite_t hc3 hm
  refine WP.seq (WP.region ?_)
  refine wq rfl rfl rfl (ov_move rfl rfl) ?_
  refine wq rfl rfl rfl (ov_assign rfl rfl) ?_
  refine WL.nil (then_normal (WP.ret (then_ret ?_)))
  obtain rfl := Option.some.inj hm
  refine retQ_ret Tryz.results36 (Res.tmp rfl Res.nil) rfl (fun w' s => ⟨s.below, ?_⟩)
  exact rfl
 ·
  replace hm := ite_f hc3 hm
  refine WP.skip (then_normal ?_)
  obtain ⟨k1, hk1, hm⟩ := joinK_some hm
  refine WP.seq_join (fun g' S' => Sub [(4, (pB b2 0)), (5, (pB b3 0)), (1000000007, (.bool false))] g' ∧ (∀ w', S' w' → St w H [.blk b3 92 [(.bool p_x.a0), (.bool p_x.a1), (.bool p_x.a2), (.bool p_x.a3), (.bool p_x.a4), (.bool p_x.a5)], .blk b2 51 [(.slice ao2 p_step.strokes.length cap2), (.int .i64 p_step.wait)]] H w') ∧ k1 = some r) ?_ ?_
  ·
   skip
   refine WP.seq (WP.region ?_)
   refine wq rfl rfl rfl (ov_fieldAddr Tryz.underlying51 rfl rfl rfl Tryz.sizeOf49 rfl rfl) ?_
   refine wq rfl rfl rfl (ov_load_box (i := 1) Tryz.isAgg49 rfl rfl rfl rfl) ?_
   refine wq rfl rfl rfl (ov_len_slice Tryz.underlying49 rfl rfl) ?_
   refine wq rfl rfl rfl (ov_move rfl rfl) ?_
   refine WL.nil (then_normal (WP.block ?_))
   refine WP.loop (fun m1 g' S' => ∃ (i1 : Int), Sub [(3, (pB b1 0)), (4, (pB b2 0)), (5, (pB b3 0)), (18, (.slice ao2 p_step.strokes.length cap2)), (19, (.int .i64 (p_step.strokes.length : Int))), (20, (.int .i64 i1)), (1000000007, (.bool false))] g' ∧ (∀ w', S' w' → St w H [.blk b3 92 [(.bool p_x.a0), (.bool p_x.a1), (.bool p_x.a2), (.bool p_x.a3), (.bool p_x.a4), (.bool p_x.a5)], .blk b2 51 [(.slice ao2 p_step.strokes.length cap2), (.int .i64 p_step.wait)], .blk b1 24 [(.int .i64 p_s.actuators), (.slice ao1 p_s.steps.length cap1)]] H w') ∧ sequence_fits_loop1 p_s p_step k1 m1 i1 = some r) ((Int.toNat ((p_step.strokes.length : Int) - 0) + 1)) ⟨0, (Sub.cons rfl (Sub.cons rfl (Sub.cons rfl (Sub.cons rfl (Sub.cons rfl (Sub.cons rfl (Sub.cons rfl (Sub.nil _)))))))), fun w' s => s, hm⟩ ?_ ?_
   ·
    rintro g' S' ⟨_, _, _, hm⟩
    exact none_some hm
   ·
    rintro m1 g' S' ⟨i1, hsub1, hS1, hm⟩
    refine WP.sub hsub1 (WP.weaken hS1 ?_)
    rw [sequence_fits_loop1] at hm
    refine WP.seq (WP.region ?_)
    refine wq rfl rfl rfl (ov_lss rfl rfl rfl) ?_
    refine WL.nil (then_normal (WP.seq ?_))
    refine WP.cond rfl (fun hc4 => ?_) (fun hc4 => ?_)
    ·
     replace hm := ite_t hc4 hm
     refine WP.skip (then_normal (WP.seq (WP.block (WP.seq (WP.region ?_)))))
     obtain ⟨x1, e2, hm⟩ := bind_some hm
     obtain ⟨h3, h4, h5, cs1, h6, h7⟩ := h2.get e2 (by decide)
     obtain rfl : cs1 = [(.int .i64 x1.actuator), (.bool x1.out)] := h6
     refine wq rfl rfl rfl (ov_indexAddr Tryz.underlying49 Tryz.sizeOf60 rfl rfl rfl h3 h4 h5) ?_
     refine wq rfl rfl rfl (ov_load_elems (vs := [(.int .i64 x1.actuator), (.bool x1.out)]) Tryz.isAgg60 Tryz.sizeOf60 rfl rfl rfl h7 h5) ?_
     refine WL.step (Runs.free rfl) rfl rfl (os_alloc (cs := [(.int .i64 0), (.bool false)]) Tryz.zeroValue60 rfl rfl (fun b4 => ?_))
     refine WL.step0 (Runs.free rfl) rfl (os_store (i := 0) (vs := [(.int .i64 x1.actuator), (.bool x1.out)]) (cs' := [(.int .i64 x1.actuator), (.bool x1.out)]) Tryz.sizeOf60 rfl rfl rfl rfl rfl rfl rfl rfl rfl ?_)
     refine WL.nil (then_normal (WP.seq (WP.region ?_)))
     refine wq rfl rfl rfl (ov_fieldAddr Tryz.underlying60 rfl rfl rfl Tryz.sizeOf3 rfl rfl) ?_
     refine wq rfl rfl rfl (ov_load_box (i := 0) Tryz.isAgg3 rfl rfl rfl rfl) ?_
     refine wq rfl rfl rfl (ov_fieldAddr Tryz.underlying24 rfl rfl rfl Tryz.sizeOf3 rfl rfl) ?_
     refine wq rfl rfl rfl (ov_load_box (i := 3) Tryz.isAgg3 rfl rfl rfl rfl) ?_
     refine wq rfl rfl rfl (ov_geq rfl rfl rfl) ?_
     refine WL.nil (then_normal ?_)
     refine WP.cond rfl (fun hc5 => ?_) (fun hc5 => ?_)
     ·
      replace hm := ite_t hc5 hm
      refine WP.seq (WP.region ?_)
      refine wq rfl rfl rfl (ov_assign rfl rfl) ?_
      refine WL.nil (then_normal (WP.ret (block_ret (then_ret (then_ret (block_ret (then_ret ?_)))))))
      obtain rfl := Option.some.inj hm
      refine retQ_ret Tryz.results36 (Res.tmp rfl Res.nil) rfl (fun w' s => ⟨s.below, ?_⟩)
      exact rfl
     ·
      replace hm := ite_f hc5 hm
      refine WP.skip (block_normal (then_normal (WP.region ?_)))
      refine wq rfl rfl rfl (ov_add rfl rfl rfl) ?_
      refine wq rfl rfl rfl (ov_move rfl rfl) ?_
      refine WL.nil (then_normal ?_)
      exact ⟨(IntKind.wrap .i64 (i1 + 1)), (Sub.cons rfl (Sub.cons rfl (Sub.cons rfl (Sub.cons rfl (Sub.cons rfl (Sub.cons rfl (Sub.cons rfl (Sub.nil _)))))))), fun w' s => (s.select [1, 2, 3] (by decide) rfl), hm⟩
    ·
     replace hm := ite_f hc4 hm
     refine WP.exit (then_exit (then_exit (block_here (then_normal ?_))))
     exact ⟨(Sub.cons rfl (Sub.cons rfl (Sub.cons rfl (Sub.nil _)))), fun w' s => (s.select [0, 1] (by decide) rfl), hm⟩
  ·
   rintro g' S' ⟨hsub2, hS2, hm⟩
   refine WP.sub hsub2 (WP.weaken hS2 ?_)
   replace hm := hk1.symm.trans hm
   obtain ⟨k2, hk2, hm⟩ := joinK_some hm
   refine WP.seq_join (fun g' S' => Sub [(1000000007, (.bool false))] g' ∧ (∀ w', S' w' → St w H [] H w') ∧ k2 = some r) ?_ ?_
   ·
    skip
    refine WP.seq (WP.region ?_)
    refine wq rfl rfl rfl (ov_fieldAddr Tryz.underlying51 rfl rfl rfl Tryz.sizeOf49 rfl rfl) ?_
    refine wq rfl rfl rfl (ov_load_box (i := 1) Tryz.isAgg49 rfl rfl rfl rfl) ?_
    refine wq rfl rfl rfl (ov_len_slice Tryz.underlying49 rfl rfl) ?_
    refine wq rfl rfl rfl (ov_move rfl rfl) ?_
    refine WL.nil (then_normal (WP.block ?_))
    refine WP.loop (fun m2 g' S' => ∃ (i2 : Int), Sub [(5, (pB b3 0)), (31, (.slice ao2 p_step.strokes.length cap2)), (32, (.int .i64 (p_step.strokes.length : Int))), (33, (.int .i64 i2)), (1000000007, (.bool false))] g' ∧ (∀ w', S' w' → St w H [.blk b3 92 [(.bool p_x.a0), (.bool p_x.a1), (.bool p_x.a2), (.bool p_x.a3), (.bool p_x.a4), (.bool p_x.a5)]] H w') ∧ sequence_fits_loop2 p_step p_x k2 m2 i2 = some r) ((Int.toNat ((p_step.strokes.length : Int) - 0) + 1)) ⟨0, (Sub.cons rfl (Sub.cons rfl (Sub.cons rfl (Sub.cons rfl (Sub.cons rfl (Sub.nil _)))))), fun w' s => (s.select [0] (by decide) rfl), hm⟩ ?_ ?_
    ·
     rintro g' S' ⟨_, _, _, hm⟩
     exact none_some hm
    ·
     rintro m2 g' S' ⟨i2, hsub3, hS3, hm⟩
     refine WP.sub hsub3 (WP.weaken hS3 ?_)
     rw [sequence_fits_loop2] at hm
     refine WP.seq (WP.region ?_)
     refine wq rfl rfl rfl (ov_lss rfl rfl rfl) ?_
     refine WL.nil (then_normal (WP.seq ?_))
     refine WP.cond rfl (fun hc6 => ?_) (fun hc6 => ?_)
     ·
      replace hm := ite_t hc6 hm
      refine WP.skip (then_normal (WP.seq (WP.block (WP.seq (WP.region ?_)))))
      obtain ⟨x2, e3, hm⟩ := bind_some hm
      obtain ⟨h8, h9, h10, cs2, h11, h12⟩ := h2.get e3 (by decide)
      obtain rfl : cs2 = [(.int .i64 x2.actuator), (.bool x2.out)] := h11
      refine wq rfl rfl rfl (ov_indexAddr Tryz.underlying49 Tryz.sizeOf60 rfl rfl rfl h8 h9 h10) ?_
      refine wq rfl rfl rfl (ov_load_elems (vs := [(.int .i64 x2.actuator), (.bool x2.out)]) Tryz.isAgg60 Tryz.sizeOf60 rfl rfl rfl h12 h10) ?_
      refine WL.step (Runs.free rfl) rfl rfl (os_alloc (cs := [(.int .i64 0), (.bool false)]) Tryz.zeroValue60 rfl rfl (fun b5 => ?_))
      refine WL.step0 (Runs.free rfl) rfl (os_store (i := 0) (vs := [(.int .i64 x2.actuator), (.bool x2.out)]) (cs' := [(.int .i64 x2.actuator), (.bool x2.out)]) Tryz.sizeOf60 rfl rfl rfl rfl rfl rfl rfl rfl rfl ?_)
      refine WL.nil (then_normal ?_)
      obtain ⟨k3, hk3, hm⟩ := joinK_some hm
      refine WP.seq_join (fun g' S' => ∃ (c1 : Bool), Sub [(5, (pB b3 0)), (31, (.slice ao2 p_step.strokes.length cap2)), (32, (.int .i64 (p_step.strokes.length : Int))), (33, (.int .i64 i2)), (43, (.bool c1)), (1000000007, (.bool false))] g' ∧ (∀ w', S' w' → St w H [.blk b3 92 [(.bool p_x.a0), (.bool p_x.a1), (.bool p_x.a2), (.bool p_x.a3), (.bool p_x.a4), (.bool p_x.a5)]] H w') ∧ k3 c1 = some r) ?_ ?_
      ·
       skip
       refine WP.region_draws (by kernel_rfl) (by kernel_rfl) (fun _ s => s.drew) ?_
       refine QL.quiet (Runs.free rfl) rfl rfl (OV.quiet (ov_fieldAddr Tryz.underlying60 rfl rfl rfl Tryz.sizeOf3 rfl rfl)) ?_
       refine QL.quiet (Runs.free rfl) rfl rfl (OV.quiet (ov_load_box (i := 0) Tryz.isAgg3 rfl rfl rfl rfl)) ?_
       rcases Bool.eq_false_or_eq_true (x2.actuator == 0) with hc7 | hc7
       ·
        replace hm := ite_t hc7 hm
        refine QL.quiet (Runs.free rfl) rfl rfl (OV.quiet (ov_indexAddr_at (j := 0) Tryz.underlying92 Tryz.sizeOf4 rfl rfl rfl (eq_of_beq hc7) rfl)) ?_
        refine QL.quiet (Runs.free rfl) rfl rfl (OV.quiet (ov_load_box (i := 1) Tryz.isAgg4 rfl rfl rfl rfl)) ?_
        refine QL.quiet (Runs.free rfl) rfl rfl (OV.quiet (ov_fieldAddr Tryz.underlying60 rfl rfl rfl Tryz.sizeOf4 rfl rfl)) ?_
        refine QL.quiet (Runs.free rfl) rfl rfl (OV.quiet (ov_load_box (i := 0) Tryz.isAgg4 rfl rfl rfl rfl)) ?_
        refine QL.quiet (Runs.free rfl) rfl rfl (OV.quiet (ov_beql Tryz.underlying4 rfl rfl rfl)) ?_
        refine QL.nil ?_
        refine then_normal ?_
        exact ⟨(p_x.a0 == x2.out), (Sub.cons rfl (Sub.cons rfl (Sub.cons rfl (Sub.cons rfl (Sub.cons rfl (Sub.cons rfl (Sub.nil _))))))), fun w' s => (s.select [1] (by decide) rfl), hm⟩
       ·
        replace hm := ite_f hc7 hm
        rcases Bool.eq_false_or_eq_true (x2.actuator == 1) with hc8 | hc8
        ·
         replace hm := ite_t hc8 hm
         refine QL.quiet (Runs.free rfl) rfl rfl (OV.quiet (ov_indexAddr_at (j := 1) Tryz.underlying92 Tryz.sizeOf4 rfl rfl rfl (eq_of_beq hc8) rfl)) ?_
         refine QL.quiet (Runs.free rfl) rfl rfl (OV.quiet (ov_load_box (i := 1) Tryz.isAgg4 rfl rfl rfl rfl)) ?_
         refine QL.quiet (Runs.free rfl) rfl rfl (OV.quiet (ov_fieldAddr Tryz.underlying60 rfl rfl rfl Tryz.sizeOf4 rfl rfl)) ?_
         refine QL.quiet (Runs.free rfl) rfl rfl (OV.quiet (ov_load_box (i := 0) Tryz.isAgg4 rfl rfl rfl rfl)) ?_
         refine QL.quiet (Runs.free rfl) rfl rfl (OV.quiet (ov_beql Tryz.underlying4 rfl rfl rfl)) ?_
         refine QL.nil ?_
         refine then_normal ?_
         exact ⟨(p_x.a1 == x2.out), (Sub.cons rfl (Sub.cons rfl (Sub.cons rfl (Sub.cons rfl (Sub.cons rfl (Sub.cons rfl (Sub.nil _))))))), fun w' s => (s.select [1] (by decide) rfl), hm⟩
        ·
         replace hm := ite_f hc8 hm
         rcases Bool.eq_false_or_eq_true (x2.actuator == 2) with hc9 | hc9
         ·
          replace hm := ite_t hc9 hm
          refine QL.quiet (Runs.free rfl) rfl rfl (OV.quiet (ov_indexAddr_at (j := 2) Tryz.underlying92 Tryz.sizeOf4 rfl rfl rfl (eq_of_beq hc9) rfl)) ?_
          refine QL.quiet (Runs.free rfl) rfl rfl (OV.quiet (ov_load_box (i := 1) Tryz.isAgg4 rfl rfl rfl rfl)) ?_
          refine QL.quiet (Runs.free rfl) rfl rfl (OV.quiet (ov_fieldAddr Tryz.underlying60 rfl rfl rfl Tryz.sizeOf4 rfl rfl)) ?_
          refine QL.quiet (Runs.free rfl) rfl rfl (OV.quiet (ov_load_box (i := 0) Tryz.isAgg4 rfl rfl rfl rfl)) ?_
          refine QL.quiet (Runs.free rfl) rfl rfl (OV.quiet (ov_beql Tryz.underlying4 rfl rfl rfl)) ?_
          refine QL.nil ?_
          refine then_normal ?_
          exact ⟨(p_x.a2 == x2.out), (Sub.cons rfl (Sub.cons rfl (Sub.cons rfl (Sub.cons rfl (Sub.cons rfl (Sub.cons rfl (Sub.nil _))))))), fun w' s => (s.select [1] (by decide) rfl), hm⟩
         ·
          replace hm := ite_f hc9 hm
          rcases Bool.eq_false_or_eq_true (x2.actuator == 3) with hc10 | hc10
          ·
           replace hm := ite_t hc10 hm
           refine QL.quiet (Runs.free rfl) rfl rfl (OV.quiet (ov_indexAddr_at (j := 3) Tryz.underlying92 Tryz.sizeOf4 rfl rfl rfl (eq_of_beq hc10) rfl)) ?_
           refine QL.quiet (Runs.free rfl) rfl rfl (OV.quiet (ov_load_box (i := 1) Tryz.isAgg4 rfl rfl rfl rfl)) ?_
           refine QL.quiet (Runs.free rfl) rfl rfl (OV.quiet (ov_fieldAddr Tryz.underlying60 rfl rfl rfl Tryz.sizeOf4 rfl rfl)) ?_
           refine QL.quiet (Runs.free rfl) rfl rfl (OV.quiet (ov_load_box (i := 0) Tryz.isAgg4 rfl rfl rfl rfl)) ?_
           refine QL.quiet (Runs.free rfl) rfl rfl (OV.quiet (ov_beql Tryz.underlying4 rfl rfl rfl)) ?_
           refine QL.nil ?_
           refine then_normal ?_
           exact ⟨(p_x.a3 == x2.out), (Sub.cons rfl (Sub.cons rfl (Sub.cons rfl (Sub.cons rfl (Sub.cons rfl (Sub.cons rfl (Sub.nil _))))))), fun w' s => (s.select [1] (by decide) rfl), hm⟩
          ·
           replace hm := ite_f hc10 hm
           rcases Bool.eq_false_or_eq_true (x2.actuator == 4) with hc11 | hc11
           ·
            replace hm := ite_t hc11 hm
            refine QL.quiet (Runs.free rfl) rfl rfl (OV.quiet (ov_indexAddr_at (j := 4) Tryz.underlying92 Tryz.sizeOf4 rfl rfl rfl (eq_of_beq hc11) rfl)) ?_
            refine QL.quiet (Runs.free rfl) rfl rfl (OV.quiet (ov_load_box (i := 1) Tryz.isAgg4 rfl rfl rfl rfl)) ?_
            refine QL.quiet (Runs.free rfl) rfl rfl (OV.quiet (ov_fieldAddr Tryz.underlying60 rfl rfl rfl Tryz.sizeOf4 rfl rfl)) ?_
            refine QL.quiet (Runs.free rfl) rfl rfl (OV.quiet (ov_load_box (i := 0) Tryz.isAgg4 rfl rfl rfl rfl)) ?_
            refine QL.quiet (Runs.free rfl) rfl rfl (OV.quiet (ov_beql Tryz.underlying4 rfl rfl rfl)) ?_
            refine QL.nil ?_
            refine then_normal ?_
            exact ⟨(p_x.a4 == x2.out), (Sub.cons rfl (Sub.cons rfl (Sub.cons rfl (Sub.cons rfl (Sub.cons rfl (Sub.cons rfl (Sub.nil _))))))), fun w' s => (s.select [1] (by decide) rfl), hm⟩
           ·
            replace hm := ite_f hc11 hm
            rcases Bool.eq_false_or_eq_true (x2.actuator == 5) with hc12 | hc12
            ·
             replace hm := ite_t hc12 hm
             refine QL.quiet (Runs.free rfl) rfl rfl (OV.quiet (ov_indexAddr_at (j := 5) Tryz.underlying92 Tryz.sizeOf4 rfl rfl rfl (eq_of_beq hc12) rfl)) ?_
             refine QL.quiet (Runs.free rfl) rfl rfl (OV.quiet (ov_load_box (i := 1) Tryz.isAgg4 rfl rfl rfl rfl)) ?_
             refine QL.quiet (Runs.free rfl) rfl rfl (OV.quiet (ov_fieldAddr Tryz.underlying60 rfl rfl rfl Tryz.sizeOf4 rfl rfl)) ?_
             refine QL.quiet (Runs.free rfl) rfl rfl (OV.quiet (ov_load_box (i := 0) Tryz.isAgg4 rfl rfl rfl rfl)) ?_
             refine QL.quiet (Runs.free rfl) rfl rfl (OV.quiet (ov_beql Tryz.underlying4 rfl rfl rfl)) ?_
             refine QL.nil ?_
             refine then_normal ?_
             exact ⟨(p_x.a5 == x2.out), (Sub.cons rfl (Sub.cons rfl (Sub.cons rfl (Sub.cons rfl (Sub.cons rfl (Sub.cons rfl (Sub.nil _))))))), fun w' s => (s.select [1] (by decide) rfl), hm⟩
            ·
             replace hm := ite_f hc12 hm
             exact (none_some hm).elim
      ·
       rintro g' S' ⟨c1, hsub4, hS4, hm⟩
       refine WP.sub hsub4 (WP.weaken hS4 ?_)
       replace hm := (congrFun hk3 c1).symm.trans hm
       refine WP.cond rfl (fun hc13 => ?_) (fun hc13 => ?_)
       ·
        replace hm := ite_t hc13 hm
        refine WP.seq (WP.region ?_)
        refine wq rfl rfl rfl (ov_assign rfl rfl) ?_
        refine WL.nil (then_normal (WP.ret (block_ret (then_ret (then_ret (block_ret (then_ret ?_)))))))
        obtain rfl := Option.some.inj hm
        refine retQ_ret Tryz.results36 (Res.tmp rfl Res.nil) rfl (fun w' s => ⟨s.below, ?_⟩)
        exact rfl
       ·
        replace hm := ite_f hc13 hm
        refine WP.skip (block_normal (then_normal (WP.region ?_)))
        refine wq rfl rfl rfl (ov_add rfl rfl rfl) ?_
        refine wq rfl rfl rfl (ov_move rfl rfl) ?_
        refine WL.nil (then_normal ?_)
        exact ⟨(IntKind.wrap .i64 (i2 + 1)), (Sub.cons rfl (Sub.cons rfl (Sub.cons rfl (Sub.cons rfl (Sub.cons rfl (Sub.nil _)))))), fun w' s => s, hm⟩
     ·
      replace hm := ite_f hc6 hm
      refine WP.exit (then_exit (then_exit (block_here (then_normal ?_))))
      exact ⟨(Sub.cons rfl (Sub.nil _)), fun w' s => (s.select [] (by decide) rfl), hm⟩
   ·
    rintro g' S' ⟨hsub5, hS5, hm⟩
    refine WP.sub hsub5 (WP.weaken hS5 ?_)
    replace hm := hk2.symm.trans hm
    refine WP.seq (WP.region ?_)
    refine wq rfl rfl rfl (ov_assign rfl rfl) ?_
    refine WL.nil (then_normal (WP.ret ?_))
    obtain rfl := Option.some.inj hm
    refine retQ_ret Tryz.results36 (Res.tmp rfl Res.nil) rfl (fun w' s => ⟨s.below, ?_⟩)
    exact rfl

theorem slices_Index_boolbool_con (p_s : (List Bool)) (p_v : Bool) (ao1 : Option Addr) (cap1 : Nat) (w : World) (H : Heap) (hH : Le H (hp w)) (h1 : SL H encBool ao1 p_s) (hc1 : p_s.length ≤ cap1) (hG : Glob H) (r : Int) (hm : slices_Index_boolbool p_s p_v = some r) :
  Con Tryz.prog 53 [(.slice ao1 p_s.length cap1), (.bool p_v)] w H (fun v _ => v = (.int .i64 r)) := by
 unfold slices_Index_boolbool at hm
 refine con_of hH Tryz.func53 rfl 19 Tryz.ntmps53 rfl ?_
 refine WP.seq (WP.region ?_)
 refine wq rfl rfl rfl (ov_assign rfl rfl) ?_
 refine WL.nil (then_normal ?_)
 obtain ⟨k1, hk1, hm⟩ := joinK_some hm
 refine WP.seq_join (fun g' S' => Sub [(1000000007, (.bool false))] g' ∧ (∀ w', S' w' → St w H [] H w') ∧ k1 = some r) ?_ ?_
 ·
  skip
  refine WP.seq (WP.region ?_)
  refine wq rfl rfl rfl (ov_move rfl rfl) ?_
  refine wq rfl rfl rfl (ov_len_slice Tryz.underlying69 rfl rfl) ?_
  refine wq rfl rfl rfl (ov_move rfl rfl) ?_
  refine WL.nil (then_normal (WP.block ?_))
  refine WP.loop (fun m1 g' S' => ∃ (i1 : Int), Sub [(0, (.slice ao1 p_s.length cap1)), (1, (.bool p_v)), (7, (.int .i64 (p_s.length : Int))), (8, (.int .i64 i1)), (1000000007, (.bool false))] g' ∧ (∀ w', S' w' → St w H [] H w') ∧ slices_Index_boolbool_loop1 p_s p_v k1 m1 i1 = some r) ((Int.toNat ((p_s.length : Int) - 0) + 1)) ⟨0, (Sub.cons rfl (Sub.cons rfl (Sub.cons rfl (Sub.cons rfl (Sub.cons rfl (Sub.nil _)))))), fun w' s => s, hm⟩ ?_ ?_
  ·
   rintro g' S' ⟨_, _, _, hm⟩
   exact none_some hm
  ·
   rintro m1 g' S' ⟨i1, hsub1, hS1, hm⟩
   refine WP.sub hsub1 (WP.weaken hS1 ?_)
   rw [slices_Index_boolbool_loop1] at hm
   refine WP.seq (WP.region ?_)
   refine wq rfl rfl rfl (ov_lss rfl rfl rfl) ?_
   refine WL.nil (then_normal (WP.seq ?_))
   refine WP.cond rfl (fun hc2 => ?_) (fun hc2 => ?_)
   ·
    replace hm := ite_t hc2 hm
    refine WP.skip (then_normal (WP.seq (WP.block (WP.seq (WP.region ?_)))))
    refine wq rfl rfl rfl (ov_move rfl rfl) ?_
    refine wq rfl rfl rfl (ov_assign rfl rfl) ?_
    refine WL.nil (then_normal (WP.seq (WP.region ?_)))
    refine wq rfl rfl rfl (ov_move rfl rfl) ?_
    refine wq rfl rfl rfl (ov_move rfl rfl) ?_
    refine wq rfl rfl rfl (ov_move rfl rfl) ?_
    obtain ⟨x1, e1, hm⟩ := bind_some hm
    obtain ⟨h2, h3, h4, cs1, h5, h6⟩ := h1.get e1 (by decide)
    obtain rfl : cs1 = [(.bool x1)] := h5
    refine wq rfl rfl rfl (ov_indexAddr Tryz.underlying69 Tryz.sizeOf4 rfl rfl rfl h2 h3 h4) ?_
    refine wq rfl rfl rfl (ov_load_elem (v := (.bool x1)) Tryz.isAgg4 rfl rfl h6) ?_
    refine wq rfl rfl rfl (ov_beql Tryz.underlying4 rfl rfl rfl) ?_
    refine WL.nil (then_normal ?_)
    refine WP.cond rfl (fun hc3 => ?_) (fun hc3 => ?_)
    ·
     replace hm := ite_t hc3 hm
     refine WP.seq (WP.region ?_)
     refine wq rfl rfl rfl (ov_move rfl rfl) ?_
     refine wq rfl rfl rfl (ov_assign rfl rfl) ?_
     refine WL.nil (then_normal (WP.ret (block_ret (then_ret (then_ret (block_ret (then_ret ?_)))))))
     obtain rfl := Option.some.inj hm
     refine retQ_ret Tryz.results53 (Res.tmp rfl Res.nil) rfl (fun w' s => ⟨s.below, ?_⟩)
     exact rfl
    ·
     replace hm := ite_f hc3 hm
     refine WP.skip (block_normal (then_normal (WP.region ?_)))
     refine wq rfl rfl rfl (ov_add rfl rfl rfl) ?_
     refine wq rfl rfl rfl (ov_move rfl rfl) ?_
     refine WL.nil (then_normal ?_)
     exact ⟨(IntKind.wrap .i64 (i1 + 1)), (Sub.cons rfl (Sub.cons rfl (Sub.cons rfl (Sub.cons rfl (Sub.cons rfl (Sub.nil _)))))), fun w' s => s, hm⟩
   ·
    replace hm := ite_f hc2 hm
    refine WP.exit (then_exit (then_exit (block_here (then_normal ?_))))
    exact ⟨(Sub.cons rfl (Sub.nil _)), fun w' s => s, hm⟩
 ·
  rintro g' S' ⟨hsub2, hS2, hm⟩
  refine WP.sub hsub2 (WP.weaken hS2 ?_)
  replace hm := hk1.symm.trans hm
  refine WP.seq (WP.region ?_)
  refine wq rfl rfl rfl (ov_assign rfl rfl) ?_
  refine WL.nil (then_normal (WP.ret ?_))
  obtain rfl := Option.some.inj hm
  refine retQ_ret Tryz.results53 (Res.tmp rfl Res.nil) rfl (fun w' s => ⟨s.below, ?_⟩)
  exact rfl

theorem slices_Contains_boolbool_con (p_s : (List Bool)) (p_v : Bool) (ao1 : Option Addr) (cap1 : Nat) (w : World) (H : Heap) (hH : Le H (hp w)) (h1 : SL H encBool ao1 p_s) (hc1 : p_s.length ≤ cap1) (hG : Glob H) (r : Bool) (hm : slices_Contains_boolbool p_s p_v = some r) :
  Con Tryz.prog 38 [(.slice ao1 p_s.length cap1), (.bool p_v)] w H (fun v _ => v = (.bool r)) := by
 unfold slices_Contains_boolbool at hm
 refine con_of hH Tryz.func38 rfl 9 Tryz.ntmps38 rfl ?_
 refine WP.seq (WP.region ?_)
 refine wq rfl rfl rfl (ov_assign rfl rfl) ?_
 refine WL.nil (then_normal (WP.seq (WP.region ?_)))
 refine wq rfl rfl rfl (ov_move rfl rfl) ?_
 refine wq rfl rfl rfl (ov_move rfl rfl) ?_
 obtain ⟨r1, e1, hm⟩ := bind_some hm
 refine WL.quiet (Runs.free rfl) rfl rfl (oq_con (r := (.int .i64 r1)) Tryz.call53 rfl rfl (fun w' s => ⟨_, (slices_Index_boolbool_con p_s p_v ao1 cap1  w' H s.hold h1 hc1 hG r1 e1)⟩)) ?_
 refine wq rfl rfl rfl (ov_geq rfl rfl rfl) ?_
 refine wq rfl rfl rfl (ov_assign rfl rfl) ?_
 refine WL.nil (then_normal (WP.ret ?_))
 obtain rfl := Option.some.inj hm
 refine retQ_ret Tryz.results38 (Res.tmp rfl Res.nil) rfl (fun w' s => ⟨s.below, ?_⟩)
 exact rfl

theorem sequence_Check_con (p_s : Sequence) (ao1 : Option Addr) (cap1 : Nat) (w : World) (H : Heap) (hH : Le H (hp w)) (h1 : SL H encStep ao1 p_s.steps) (hc1 : p_s.steps.length ≤ cap1) (hG : Glob H) (r : Int) (hm : sequence_Check p_s = some r) :
  Con Tryz.prog 17 [(.agg #[(.int .i64 p_s.actuators), (.slice ao1 p_s.steps.length cap1)])] w H (fun v _ => v = (.int .i64 r)) := by
 unfold sequence_Check at hm
 refine con_of hH Tryz.func17 rfl 65 Tryz.ntmps17 rfl ?_
 refine WP.seq (WP.region ?_)
 refine WL.step (Runs.free rfl) rfl rfl (os_box (cs := [(.int .i64 p_s.actuators), (.slice ao1 p_s.steps.length cap1)]) rfl rfl rfl (fun b1 => ?_))
 refine wq rfl rfl rfl (ov_assign rfl rfl) ?_
 refine WL.nil (then_normal (WP.seq (WP.block (WP.seq (WP.region ?_)))))
 refine wq rfl rfl rfl (ov_fieldAddr Tryz.underlying24 rfl rfl rfl Tryz.sizeOf3 rfl rfl) ?_
 refine wq rfl rfl rfl (ov_load_box (i := 0) Tryz.isAgg3 rfl rfl rfl rfl) ?_
 refine wq rfl rfl rfl (ov_lss rfl rfl rfl) ?_
 refine wq rfl rfl rfl (ov_move rfl rfl) ?_
 refine WL.cut_bool 4 18 (x := ((decide (p_s.actuators < 1)) || (decide (p_s.actuators > 6)))) ?_ ?_
 ·
  rcases Bool.eq_false_or_eq_true (decide (p_s.actuators < 1)) with hc2 | hc2
  ·
   skip
   refine WL.idle (Idle.no rfl rfl rfl hc2) rfl rfl ?_
   refine WL.idle (Idle.no rfl rfl rfl hc2) rfl rfl ?_
   refine WL.idle (Idle.no rfl rfl rfl hc2) rfl rfl ?_
   refine wq rfl rfl rfl (ov_pick_true rfl (guard_eq rfl hc2) rfl) ?_
   exact WL.nil ⟨Sub.cons' rfl (congrArg Value.bool (orT hc2)) (Sub.skip rfl (Sub.skip rfl (Sub.skip rfl (Sub.skip rfl (Sub.refl _))))), fun _ s => s⟩
  ·
   skip
   refine WL.quiet (Runs.yes rfl rfl rfl hc2) rfl rfl (OV.quiet (ov_fieldAddr Tryz.underlying24 rfl rfl rfl Tryz.sizeOf3 rfl rfl)) ?_
   refine WL.quiet (Runs.yes rfl rfl rfl hc2) rfl rfl (OV.quiet (ov_load_box (i := 0) Tryz.isAgg3 rfl rfl rfl rfl)) ?_
   refine WL.quiet (Runs.yes rfl rfl rfl hc2) rfl rfl (OV.quiet (ov_gtr rfl rfl rfl)) ?_
   refine wq rfl rfl rfl (ov_pick_false rfl (guard_eq rfl hc2) rfl) ?_
   exact WL.nil ⟨Sub.cons' rfl (congrArg Value.bool (orF hc2)) (Sub.skip rfl (Sub.skip rfl (Sub.skip rfl (Sub.skip rfl (Sub.refl _))))), fun _ s => s⟩
 refine wq rfl rfl rfl (ov_assign rfl rfl) ?_
 refine WL.nil (then_normal ?_)
 refine WP.cond rfl (fun hc3 => ?_) (fun hc3 => ?_)
 ·
  replace hm := ite_t hc3 hm
  refine WP.seq (WP.region ?_)
  refine wq rfl rfl rfl (ov_assign rfl rfl) ?_
  refine WL.nil (then_normal (WP.ret (block_ret (then_ret ?_))))
  obtain rfl := Option.some.inj hm
  refine retQ_ret Tryz.results17 (Res.tmp rfl Res.nil) rfl (fun w' s => ⟨s.below, ?_⟩)
  exact rfl
 ·
  replace hm := ite_f hc3 hm
  refine WP.seq (WP.region ?_)
  refine wq rfl rfl rfl (ov_fieldAddr Tryz.underlying24 rfl rfl rfl Tryz.sizeOf22 rfl rfl) ?_
  refine wq rfl rfl rfl (ov_load_box (i := 0) Tryz.isAgg22 rfl rfl rfl rfl) ?_
  refine wq rfl rfl rfl (ov_len_slice Tryz.underlying22 rfl rfl) ?_
  refine wq rfl rfl rfl (ov_eql rfl rfl rfl) ?_
  refine wq rfl rfl rfl (ov_assign rfl rfl) ?_
  refine WL.nil (then_normal ?_)
  refine WP.cond rfl (fun hc4 => ?_) (fun hc4 => ?_)
  ·
   replace hm := ite_t hc4 hm
   refine WP.seq (WP.region ?_)
   refine wq rfl rfl rfl (ov_assign rfl rfl) ?_
   refine WL.nil (then_normal (WP.ret (block_ret (then_ret ?_))))
   obtain rfl := Option.some.inj hm
   refine retQ_ret Tryz.results17 (Res.tmp rfl Res.nil) rfl (fun w' s => ⟨s.below, ?_⟩)
   exact rfl
  ·
   replace hm := ite_f hc4 hm
   refine WP.seq (WP.region ?_)
   refine wq rfl rfl rfl (ov_fieldAddr Tryz.underlying24 rfl rfl rfl Tryz.sizeOf22 rfl rfl) ?_
   refine wq rfl rfl rfl (ov_load_box (i := 0) Tryz.isAgg22 rfl rfl rfl rfl) ?_
   refine wq rfl rfl rfl (ov_len_slice Tryz.underlying22 rfl rfl) ?_
   refine wq rfl rfl rfl (ov_gtr rfl rfl rfl) ?_
   refine wq rfl rfl rfl (ov_assign rfl rfl) ?_
   refine WL.nil (then_normal ?_)
   refine WP.cond rfl (fun hc5 => ?_) (fun hc5 => ?_)
   ·
    replace hm := ite_t hc5 hm
    refine WP.seq (WP.region ?_)
    refine wq rfl rfl rfl (ov_assign rfl rfl) ?_
    refine WL.nil (then_normal (WP.ret (block_ret (then_ret ?_))))
    obtain rfl := Option.some.inj hm
    refine retQ_ret Tryz.results17 (Res.tmp rfl Res.nil) rfl (fun w' s => ⟨s.below, ?_⟩)
    exact rfl
   ·
    replace hm := ite_f hc5 hm
    refine WP.skip (block_normal (then_normal (WP.seq (WP.region ?_))))
    refine WL.step (Runs.free rfl) rfl rfl (os_alloc (cs := [(.bool false), (.bool false), (.bool false), (.bool false), (.bool false), (.bool false)]) Tryz.zeroValue92 rfl rfl (fun b2 => ?_))
    refine WL.step (Runs.free rfl) rfl rfl (os_alloc (cs := [(.bool false), (.bool false), (.bool false), (.bool false), (.bool false), (.bool false)]) Tryz.zeroValue92 rfl rfl (fun b3 => ?_))
    refine WL.nil (then_normal ?_)
    obtain ⟨k1, hk1, hm⟩ := joinK_some hm
    refine WP.seq_join (fun g' S' => ∃ (c31 : Bool) (c32 : Bool) (c33 : Bool) (c34 : Bool) (c35 : Bool) (c36 : Bool) (c37 : Bool) (c38 : Bool) (c39 : Bool) (c40 : Bool) (c41 : Bool) (c42 : Bool), Sub [(1, (pB b1 0)), (3, (pB b2 0)), (4, (pB b3 0)), (1000000007, (.bool false))] g' ∧ (∀ w', S' w' → St w H [.blk b3 92 [(.bool c37), (.bool c38), (.bool c39), (.bool c40), (.bool c41), (.bool c42)], .blk b2 92 [(.bool c31), (.bool c32), (.bool c33), (.bool c34), (.bool c35), (.bool c36)], .blk b1 24 [(.int .i64 p_s.actuators), (.slice ao1 p_s.steps.length cap1)]] H w') ∧ k1 c31 c32 c33 c34 c35 c36 c37 c38 c39 c40 c41 c42 = some r) ?_ ?_
    ·
     skip
     refine WP.seq (WP.region ?_)
     refine wq rfl rfl rfl (ov_fieldAddr Tryz.underlying24 rfl rfl rfl Tryz.sizeOf22 rfl rfl) ?_
     refine wq rfl rfl rfl (ov_load_box (i := 2) Tryz.isAgg22 rfl rfl rfl rfl) ?_
     refine wq rfl rfl rfl (ov_len_slice Tryz.underlying22 rfl rfl) ?_
     refine wq rfl rfl rfl (ov_move rfl rfl) ?_
     refine WL.nil (then_normal (WP.block ?_))
     refine WP.loop (fun m1 g' S' => ∃ (i1 : Int) (c1 : Bool) (c2 : Bool) (c3 : Bool) (c4 : Bool) (c5 : Bool) (c6 : Bool) (c7 : Bool) (c8 : Bool) (c9 : Bool) (c10 : Bool) (c11 : Bool) (c12 : Bool), Sub [(1, (pB b1 0)), (3, (pB b2 0)), (4, (pB b3 0)), (30, (.slice ao1 p_s.steps.length cap1)), (31, (.int .i64 (p_s.steps.length : Int))), (32, (.int .i64 i1)), (1000000007, (.bool false))] g' ∧ (∀ w', S' w' → St w H [.blk b3 92 [(.bool c7), (.bool c8), (.bool c9), (.bool c10), (.bool c11), (.bool c12)], .blk b2 92 [(.bool c1), (.bool c2), (.bool c3), (.bool c4), (.bool c5), (.bool c6)], .blk b1 24 [(.int .i64 p_s.actuators), (.slice ao1 p_s.steps.length cap1)]] H w') ∧ sequence_Check_loop1 p_s k1 m1 i1 c1 c2 c3 c4 c5 c6 c7 c8 c9 c10 c11 c12 = some r) ((Int.toNat ((p_s.steps.length : Int) - 0) + 1)) ⟨0, false, false, false, false, false, false, false, false, false, false, false, false, (Sub.cons rfl (Sub.cons rfl (Sub.cons rfl (Sub.cons rfl (Sub.cons rfl (Sub.cons rfl (Sub.cons rfl (Sub.nil _)))))))), fun w' s => s, hm⟩ ?_ ?_
     ·
      rintro g' S' ⟨_, _, _, _, _, _, _, _, _, _, _, _, _, _, _, hm⟩
      exact none_some hm
     ·
      rintro m1 g' S' ⟨i1, c1, c2, c3, c4, c5, c6, c7, c8, c9, c10, c11, c12, hsub1, hS1, hm⟩
      refine WP.sub hsub1 (WP.weaken hS1 ?_)
      rw [sequence_Check_loop1] at hm
      refine WP.seq (WP.region ?_)
      refine wq rfl rfl rfl (ov_lss rfl rfl rfl) ?_
      refine WL.nil (then_normal (WP.seq ?_))
      refine WP.cond rfl (fun hc6 => ?_) (fun hc6 => ?_)
      ·
       replace hm := ite_t hc6 hm
       refine WP.skip (then_normal ?_)
       obtain ⟨k2, hk2, hm⟩ := joinK_some hm
       refine WP.seq_join (fun g' S' => ∃ (c19 : Bool) (c20 : Bool) (c21 : Bool) (c22 : Bool) (c23 : Bool) (c24 : Bool) (c25 : Bool) (c26 : Bool) (c27 : Bool) (c28 : Bool) (c29 : Bool) (c30 : Bool), Sub [(1, (pB b1 0)), (3, (pB b2 0)), (4, (pB b3 0)), (30, (.slice ao1 p_s.steps.length cap1)), (31, (.int .i64 (p_s.steps.length : Int))), (32, (.int .i64 i1)), (1000000007, (.bool false))] g' ∧ (∀ w', S' w' → St w H [.blk b3 92 [(.bool c25), (.bool c26), (.bool c27), (.bool c28), (.bool c29), (.bool c30)], .blk b2 92 [(.bool c19), (.bool c20), (.bool c21), (.bool c22), (.bool c23), (.bool c24)], .blk b1 24 [(.int .i64 p_s.actuators), (.slice ao1 p_s.steps.length cap1)]] H w') ∧ k2 c19 c20 c21 c22 c23 c24 c25 c26 c27 c28 c29 c30 = some r) ?_ ?_
       ·
        skip
        refine WP.block (WP.seq (WP.region ?_))
        obtain ⟨x1, e1, hm⟩ := bind_some hm
        obtain ⟨h3, h4, h5, cs1, h6, h7⟩ := h1.get e1 (by decide)
        obtain ⟨ao2, cap2, rfl, h2, hc7⟩ := h6
        refine wq rfl rfl rfl (ov_indexAddr Tryz.underlying22 Tryz.sizeOf51 rfl rfl rfl h3 h4 h5) ?_
        refine wq rfl rfl rfl (ov_load_elems (vs := [(.slice ao2 x1.strokes.length cap2), (.int .i64 x1.wait)]) Tryz.isAgg51 Tryz.sizeOf51 rfl rfl rfl h7 h5) ?_
        refine WL.step (Runs.free rfl) rfl rfl (os_alloc (cs := [(.slice none 0 0), (.int .i64 0)]) Tryz.zeroValue51 rfl rfl (fun b4 => ?_))
        refine WL.step0 (Runs.free rfl) rfl (os_store (i := 0) (vs := [(.slice ao2 x1.strokes.length cap2), (.int .i64 x1.wait)]) (cs' := [(.slice ao2 x1.strokes.length cap2), (.int .i64 x1.wait)]) Tryz.sizeOf51 rfl rfl rfl rfl rfl rfl rfl rfl rfl ?_)
        refine WL.nil (then_normal (WP.seq (WP.seq (WP.region ?_))))
        refine wq rfl rfl rfl (ov_load_whole (i := 3) Tryz.isAgg24 Tryz.sizeOf24 rfl rfl rfl rfl) ?_
        refine wq rfl rfl rfl (ov_load_whole (i := 0) Tryz.isAgg51 Tryz.sizeOf51 rfl rfl rfl rfl) ?_
        refine wq rfl rfl rfl (ov_load_whole (i := 2) Tryz.isAgg92 Tryz.sizeOf92 rfl rfl rfl rfl) ?_
        obtain ⟨r1, e2, hm⟩ := bind_some hm
        refine WL.quiet (Runs.free rfl) rfl rfl (oq_con (r := (.int .i64 r1)) Tryz.call36 rfl rfl (fun w' s => ⟨_, (sequence_fits_con p_s x1 (Ends6.mk c1 c2 c3 c4 c5 c6) ao1 cap1 ao2 cap2  w' H s.hold h1 hc1 h2 hc7 hG r1 e2)⟩)) ?_
        refine wq rfl rfl rfl (ov_assign rfl rfl) ?_
        refine WL.nil (then_normal (WP.seq (WP.region ?_)))
        refine wq rfl rfl rfl (ov_move rfl rfl) ?_
        refine wq rfl rfl rfl (ov_neq rfl rfl rfl) ?_
        refine WL.nil (then_normal ?_)
        refine WP.cond rfl (fun hc8 => ?_) (fun hc8 => ?_)
        ·
         replace hm := ite_t hc8 hm
         refine WP.seq (WP.region ?_)
         refine wq rfl rfl rfl (ov_move rfl rfl) ?_
         refine wq rfl rfl rfl (ov_assign rfl rfl) ?_
         refine WL.nil (then_normal (WP.ret (then_ret (block_ret (then_ret (then_ret (block_ret (then_ret ?_))))))))
         obtain rfl := Option.some.inj hm
         refine retQ_ret Tryz.results17 (Res.tmp rfl Res.nil) rfl (fun w' s => ⟨s.below, ?_⟩)
         exact rfl
        ·
         replace hm := ite_f hc8 hm
         refine WP.skip (then_normal (WP.seq (WP.region ?_)))
         refine wq rfl rfl rfl (ov_load_whole (i := 2) Tryz.isAgg92 Tryz.sizeOf92 rfl rfl rfl rfl) ?_
         refine wq rfl rfl rfl (ov_load_whole (i := 0) Tryz.isAgg51 Tryz.sizeOf51 rfl rfl rfl rfl) ?_
         obtain ⟨r2, e3, hm⟩ := bind_some hm
         refine WL.quiet (Runs.free rfl) rfl rfl (oq_con (r := (.agg #[(.bool r2.a0), (.bool r2.a1), (.bool r2.a2), (.bool r2.a3), (.bool r2.a4), (.bool r2.a5)])) Tryz.call37 rfl rfl (fun w' s => ⟨_, (sequence_ends_behind_con (Ends6.mk c1 c2 c3 c4 c5 c6) x1 ao2 cap2  w' H s.hold h2 hc7 hG r2 e3)⟩)) ?_
         refine WL.step0 (Runs.free rfl) rfl (os_store (i := 2) (vs := [(.bool r2.a0), (.bool r2.a1), (.bool r2.a2), (.bool r2.a3), (.bool r2.a4), (.bool r2.a5)]) (cs' := [(.bool r2.a0), (.bool r2.a1), (.bool r2.a2), (.bool r2.a3), (.bool r2.a4), (.bool r2.a5)]) Tryz.sizeOf92 rfl rfl rfl rfl rfl rfl rfl rfl rfl ?_)
         refine WL.nil (then_normal (WP.seq (WP.region ?_)))
         refine wq rfl rfl rfl (ov_fieldAddr Tryz.underlying51 rfl rfl rfl Tryz.sizeOf49 rfl rfl) ?_
         refine wq rfl rfl rfl (ov_load_box (i := 0) Tryz.isAgg49 rfl rfl rfl rfl) ?_
         refine wq rfl rfl rfl (ov_len_slice Tryz.underlying49 rfl rfl) ?_
         refine wq rfl rfl rfl (ov_move rfl rfl) ?_
         refine WL.nil (then_normal (WP.block ?_))
         refine WP.loop (fun m2 g' S' => ∃ (i2 : Int) (c13 : Bool) (c14 : Bool) (c15 : Bool) (c16 : Bool) (c17 : Bool) (c18 : Bool), Sub [(1, (pB b1 0)), (3, (pB b2 0)), (4, (pB b3 0)), (30, (.slice ao1 p_s.steps.length cap1)), (31, (.int .i64 (p_s.steps.length : Int))), (32, (.int .i64 i1)), (47, (.slice ao2 x1.strokes.length cap2)), (48, (.int .i64 (x1.strokes.length : Int))), (49, (.int .i64 i2)), (1000000007, (.bool false))] g' ∧ (∀ w', S' w' → St w H [.blk b3 92 [(.bool c13), (.bool c14), (.bool c15), (.bool c16), (.bool c17), (.bool c18)], .blk b2 92 [(.bool r2.a0), (.bool r2.a1), (.bool r2.a2), (.bool r2.a3), (.bool r2.a4), (.bool r2.a5)], .blk b1 24 [(.int .i64 p_s.actuators), (.slice ao1 p_s.steps.length cap1)]] H w') ∧ sequence_Check_loop2 k2 x1 r2 m2 i2 c13 c14 c15 c16 c17 c18 = some r) ((Int.toNat ((x1.strokes.length : Int) - 0) + 1)) ⟨0, c7, c8, c9, c10, c11, c12, (Sub.cons rfl (Sub.cons rfl (Sub.cons rfl (Sub.cons rfl (Sub.cons rfl (Sub.cons rfl (Sub.cons rfl (Sub.cons rfl (Sub.cons rfl (Sub.cons rfl (Sub.nil _))))))))))), fun w' s => (s.select [1, 2, 3] (by decide) rfl), hm⟩ ?_ ?_
         ·
          rintro g' S' ⟨_, _, _, _, _, _, _, _, _, hm⟩
          exact none_some hm
         ·
          rintro m2 g' S' ⟨i2, c13, c14, c15, c16, c17, c18, hsub2, hS2, hm⟩
          refine WP.sub hsub2 (WP.weaken hS2 ?_)
          rw [sequence_Check_loop2] at hm
          refine WP.seq (WP.region ?_)
          refine wq rfl rfl rfl (ov_lss rfl rfl rfl) ?_
          refine WL.nil (then_normal (WP.seq ?_))
          refine WP.cond rfl (fun hc9 => ?_) (fun hc9 => ?_)
          ·
           replace hm := ite_t hc9 hm
           refine WP.skip (then_normal (WP.seq (WP.block (WP.seq (WP.region ?_)))))
           obtain ⟨x2, e4, hm⟩ := bind_some hm
           obtain ⟨h8, h9, h10, cs2, h11, h12⟩ := h2.get e4 (by decide)
           obtain rfl : cs2 = [(.int .i64 x2.actuator), (.bool x2.out)] := h11
           refine wq rfl rfl rfl (ov_indexAddr Tryz.underlying49 Tryz.sizeOf60 rfl rfl rfl h8 h9 h10) ?_
           refine wq rfl rfl rfl (ov_load_elems (vs := [(.int .i64 x2.actuator), (.bool x2.out)]) Tryz.isAgg60 Tryz.sizeOf60 rfl rfl rfl h12 h10) ?_
           refine WL.step (Runs.free rfl) rfl rfl (os_alloc (cs := [(.int .i64 0), (.bool false)]) Tryz.zeroValue60 rfl rfl (fun b5 => ?_))
           refine WL.step0 (Runs.free rfl) rfl (os_store (i := 0) (vs := [(.int .i64 x2.actuator), (.bool x2.out)]) (cs' := [(.int .i64 x2.actuator), (.bool x2.out)]) Tryz.sizeOf60 rfl rfl rfl rfl rfl rfl rfl rfl rfl ?_)
           refine WL.nil (then_normal (WP.region ?_))
           refine wq rfl rfl rfl (ov_fieldAddr Tryz.underlying60 rfl rfl rfl Tryz.sizeOf3 rfl rfl) ?_
           refine wq rfl rfl rfl (ov_load_box (i := 0) Tryz.isAgg3 rfl rfl rfl rfl) ?_
           rcases Bool.eq_false_or_eq_true (x2.actuator == 0) with hc10 | hc10
           ·
            replace hm := ite_t hc10 hm
            refine wq rfl rfl rfl (ov_indexAddr_at (j := 0) Tryz.underlying92 Tryz.sizeOf4 rfl rfl rfl (eq_of_beq hc10) rfl) ?_
            refine WL.step0 (Runs.free rfl) rfl (os_store (i := 1) (vs := [(.bool true)]) (cs' := [(.bool true), (.bool c14), (.bool c15), (.bool c16), (.bool c17), (.bool c18)]) Tryz.sizeOf4 rfl rfl rfl rfl rfl rfl rfl rfl rfl ?_)
            refine WL.nil (block_normal (then_normal (WP.region ?_)))
            refine wq rfl rfl rfl (ov_add rfl rfl rfl) ?_
            refine wq rfl rfl rfl (ov_move rfl rfl) ?_
            refine WL.nil (then_normal ?_)
            exact ⟨(IntKind.wrap .i64 (i2 + 1)), true, c14, c15, c16, c17, c18, (Sub.cons rfl (Sub.cons rfl (Sub.cons rfl (Sub.cons rfl (Sub.cons rfl (Sub.cons rfl (Sub.cons rfl (Sub.cons rfl (Sub.cons rfl (Sub.cons rfl (Sub.nil _))))))))))), fun w' s => (s.select [1, 2, 3] (by decide) rfl), hm⟩
           ·
            replace hm := ite_f hc10 hm
            rcases Bool.eq_false_or_eq_true (x2.actuator == 1) with hc11 | hc11
            ·
             replace hm := ite_t hc11 hm
             refine wq rfl rfl rfl (ov_indexAddr_at (j := 1) Tryz.underlying92 Tryz.sizeOf4 rfl rfl rfl (eq_of_beq hc11) rfl) ?_
             refine WL.step0 (Runs.free rfl) rfl (os_store (i := 1) (vs := [(.bool true)]) (cs' := [(.bool c13), (.bool true), (.bool c15), (.bool c16), (.bool c17), (.bool c18)]) Tryz.sizeOf4 rfl rfl rfl rfl rfl rfl rfl rfl rfl ?_)
             refine WL.nil (block_normal (then_normal (WP.region ?_)))
             refine wq rfl rfl rfl (ov_add rfl rfl rfl) ?_
             refine wq rfl rfl rfl (ov_move rfl rfl) ?_
             refine WL.nil (then_normal ?_)
             exact ⟨(IntKind.wrap .i64 (i2 + 1)), c13, true, c15, c16, c17, c18, (Sub.cons rfl (Sub.cons rfl (Sub.cons rfl (Sub.cons rfl (Sub.cons rfl (Sub.cons rfl (Sub.cons rfl (Sub.cons rfl (Sub.cons rfl (Sub.cons rfl (Sub.nil _))))))))))), fun w' s => (s.select [1, 2, 3] (by decide) rfl), hm⟩
            ·
             replace hm := ite_f hc11 hm
             rcases Bool.eq_false_or_eq_true (x2.actuator == 2) with hc12 | hc12
             ·
              replace hm := ite_t hc12 hm
              refine wq rfl rfl rfl (ov_indexAddr_at (j := 2) Tryz.underlying92 Tryz.sizeOf4 rfl rfl rfl (eq_of_beq hc12) rfl) ?_
              refine WL.step0 (Runs.free rfl) rfl (os_store (i := 1) (vs := [(.bool true)]) (cs' := [(.bool c13), (.bool c14), (.bool true), (.bool c16), (.bool c17), (.bool c18)]) Tryz.sizeOf4 rfl rfl rfl rfl rfl rfl rfl rfl rfl ?_)
              refine WL.nil (block_normal (then_normal (WP.region ?_)))
              refine wq rfl rfl rfl (ov_add rfl rfl rfl) ?_
              refine wq rfl rfl rfl (ov_move rfl rfl) ?_
              refine WL.nil (then_normal ?_)
              exact ⟨(IntKind.wrap .i64 (i2 + 1)), c13, c14, true, c16, c17, c18, (Sub.cons rfl (Sub.cons rfl (Sub.cons rfl (Sub.cons rfl (Sub.cons rfl (Sub.cons rfl (Sub.cons rfl (Sub.cons rfl (Sub.cons rfl (Sub.cons rfl (Sub.nil _))))))))))), fun w' s => (s.select [1, 2, 3] (by decide) rfl), hm⟩
             ·
              replace hm := ite_f hc12 hm
              rcases Bool.eq_false_or_eq_true (x2.actuator == 3) with hc13 | hc13
              ·
               replace hm := ite_t hc13 hm
               refine wq rfl rfl rfl (ov_indexAddr_at (j := 3) Tryz.underlying92 Tryz.sizeOf4 rfl rfl rfl (eq_of_beq hc13) rfl) ?_
               refine WL.step0 (Runs.free rfl) rfl (os_store (i := 1) (vs := [(.bool true)]) (cs' := [(.bool c13), (.bool c14), (.bool c15), (.bool true), (.bool c17), (.bool c18)]) Tryz.sizeOf4 rfl rfl rfl rfl rfl rfl rfl rfl rfl ?_)
               refine WL.nil (block_normal (then_normal (WP.region ?_)))
               refine wq rfl rfl rfl (ov_add rfl rfl rfl) ?_
               refine wq rfl rfl rfl (ov_move rfl rfl) ?_
               refine WL.nil (then_normal ?_)
               exact ⟨(IntKind.wrap .i64 (i2 + 1)), c13, c14, c15, true, c17, c18, (Sub.cons rfl (Sub.cons rfl (Sub.cons rfl (Sub.cons rfl (Sub.cons rfl (Sub.cons rfl (Sub.cons rfl (Sub.cons rfl (Sub.cons rfl (Sub.cons rfl (Sub.nil _))))))))))), fun w' s => (s.select [1, 2, 3] (by decide) rfl), hm⟩
              ·
               replace hm := ite_f hc13 hm
               rcases Bool.eq_false_or_eq_true (x2.actuator == 4) with hc14 | hc14
               ·
                replace hm := ite_t hc14 hm
                refine wq rfl rfl rfl (ov_indexAddr_at (j := 4) Tryz.underlying92 Tryz.sizeOf4 rfl rfl rfl (eq_of_beq hc14) rfl) ?_
                refine WL.step0 (Runs.free rfl) rfl (os_store (i := 1) (vs := [(.bool true)]) (cs' := [(.bool c13), (.bool c14), (.bool c15), (.bool c16), (.bool true), (.bool c18)]) Tryz.sizeOf4 rfl rfl rfl rfl rfl rfl rfl rfl rfl ?_)
                refine WL.nil (block_normal (then_normal (WP.region ?_)))
                refine wq rfl rfl rfl (ov_add rfl rfl rfl) ?_
                refine wq rfl rfl rfl (ov_move rfl rfl) ?_
                refine WL.nil (then_normal ?_)
                exact ⟨(IntKind.wrap .i64 (i2 + 1)), c13, c14, c15, c16, true, c18, (Sub.cons rfl (Sub.cons rfl (Sub.cons rfl (Sub.cons rfl (Sub.cons rfl (Sub.cons rfl (Sub.cons rfl (Sub.cons rfl (Sub.cons rfl (Sub.cons rfl (Sub.nil _))))))))))), fun w' s => (s.select [1, 2, 3] (by decide) rfl), hm⟩
               ·
                replace hm := ite_f hc14 hm
                rcases Bool.eq_false_or_eq_true (x2.actuator == 5) with hc15 | hc15
                ·
                 replace hm := ite_t hc15 hm
                 refine wq rfl rfl rfl (ov_indexAddr_at (j := 5) Tryz.underlying92 Tryz.sizeOf4 rfl rfl rfl (eq_of_beq hc15) rfl) ?_
                 refine WL.step0 (Runs.free rfl) rfl (os_store (i := 1) (vs := [(.bool true)]) (cs' := [(.bool c13), (.bool c14), (.bool c15), (.bool c16), (.bool c17), (.bool true)]) Tryz.sizeOf4 rfl rfl rfl rfl rfl rfl rfl rfl rfl ?_)
                 refine WL.nil (block_normal (then_normal (WP.region ?_)))
                 refine wq rfl rfl rfl (ov_add rfl rfl rfl) ?_
                 refine wq rfl rfl rfl (ov_move rfl rfl) ?_
                 refine WL.nil (then_normal ?_)
                 exact ⟨(IntKind.wrap .i64 (i2 + 1)), c13, c14, c15, c16, c17, true, (Sub.cons rfl (Sub.cons rfl (Sub.cons rfl (Sub.cons rfl (Sub.cons rfl (Sub.cons rfl (Sub.cons rfl (Sub.cons rfl (Sub.cons rfl (Sub.cons rfl (Sub.nil _))))))))))), fun w' s => (s.select [1, 2, 3] (by decide) rfl), hm⟩
                ·
                 replace hm := ite_f hc15 hm
                 exact (none_some hm).elim
          ·
           replace hm := ite_f hc9 hm
           refine WP.exit (then_exit (then_exit (block_here (block_normal (then_normal ?_)))))
           exact ⟨r2.a0, r2.a1, r2.a2, r2.a3, r2.a4, r2.a5, c13, c14, c15, c16, c17, c18, (Sub.cons rfl (Sub.cons rfl (Sub.cons rfl (Sub.cons rfl (Sub.cons rfl (Sub.cons rfl (Sub.cons rfl (Sub.nil _)))))))), fun w' s => s, hm⟩
       ·
        rintro g' S' ⟨c19, c20, c21, c22, c23, c24, c25, c26, c27, c28, c29, c30, hsub3, hS3, hm⟩
        refine WP.sub hsub3 (WP.weaken hS3 ?_)
        replace hm := (congrFun (congrFun (congrFun (congrFun (congrFun (congrFun (congrFun (congrFun (congrFun (congrFun (congrFun (congrFun hk2 c19) c20) c21) c22) c23) c24) c25) c26) c27) c28) c29) c30).symm.trans hm
        refine WP.region ?_
        refine wq rfl rfl rfl (ov_add rfl rfl rfl) ?_
        refine wq rfl rfl rfl (ov_move rfl rfl) ?_
        refine WL.nil (then_normal ?_)
        exact ⟨(IntKind.wrap .i64 (i1 + 1)), c19, c20, c21, c22, c23, c24, c25, c26, c27, c28, c29, c30, (Sub.cons rfl (Sub.cons rfl (Sub.cons rfl (Sub.cons rfl (Sub.cons rfl (Sub.cons rfl (Sub.cons rfl (Sub.nil _)))))))), fun w' s => s, hm⟩
      ·
       replace hm := ite_f hc6 hm
       refine WP.exit (then_exit (then_exit (block_here (then_normal ?_))))
       exact ⟨c1, c2, c3, c4, c5, c6, c7, c8, c9, c10, c11, c12, (Sub.cons rfl (Sub.cons rfl (Sub.cons rfl (Sub.cons rfl (Sub.nil _))))), fun w' s => s, hm⟩
    ·
     rintro g' S' ⟨c31, c32, c33, c34, c35, c36, c37, c38, c39, c40, c41, c42, hsub4, hS4, hm⟩
     refine WP.sub hsub4 (WP.weaken hS4 ?_)
     replace hm := (congrFun (congrFun (congrFun (congrFun (congrFun (congrFun (congrFun (congrFun (congrFun (congrFun (congrFun (congrFun hk1 c31) c32) c33) c34) c35) c36) c37) c38) c39) c40) c41) c42).symm.trans hm
     refine WP.seq (WP.seq (WP.region ?_))
     refine wq rfl rfl rfl (ov_load_whole (i := 1) Tryz.isAgg92 Tryz.sizeOf92 rfl rfl rfl rfl) ?_
     refine wq rfl rfl rfl (ov_build (r := (.agg #[(.bool false), (.bool false), (.bool false), (.bool false), (.bool false), (.bool false)])) rfl rfl (fun _ => by kernel_rfl)) ?_
     refine wq rfl rfl rfl (neq_struct92 (a := (Ends6.mk c31 c32 c33 c34 c35 c36)) (b := (Ends6.mk false false false false false false)) rfl rfl rfl) ?_
     refine WL.nil (then_normal ?_)
     refine WP.cond rfl (fun hc16 => ?_) (fun hc16 => ?_)
     ·
      replace hm := ite_t hc16 hm
      refine WP.seq (WP.region ?_)
      refine wq rfl rfl rfl (ov_assign rfl rfl) ?_
      refine WL.nil (then_normal (WP.ret (then_ret ?_)))
      obtain rfl := Option.some.inj hm
      refine retQ_ret Tryz.results17 (Res.tmp rfl Res.nil) rfl (fun w' s => ⟨s.below, ?_⟩)
      exact rfl
     ·
      replace hm := ite_f hc16 hm
      refine WP.skip (then_normal (WP.seq (WP.seq (WP.region ?_))))
      refine wq rfl rfl rfl (ov_fieldAddr Tryz.underlying24 rfl rfl rfl Tryz.sizeOf3 rfl rfl) ?_
      refine wq rfl rfl rfl (ov_load_box (i := 2) Tryz.isAgg3 rfl rfl rfl rfl) ?_
      refine WL.box_held (fun H1 hle1 hc17 => ?_)
      have h13 : SL H1 encBool (some ⟨b3, 0, none⟩) ([c37, c38, c39, c40, c41, c42] : List Bool) := sl_boxB hc17
      replace h1 := h1.mono hle1
      replace hG := hG.mono hle1
      obtain ⟨l1, e5, hm⟩ := bind_some hm
      obtain ⟨ao3, cap3, h14, h15, hc18⟩ := sl_arr_h h13 e5
      refine wq rfl rfl rfl (h14 Tryz.underlying92 Tryz.sizeOf4 rfl rfl rfl) ?_
      obtain ⟨r3, e6, hm⟩ := bind_some hm
      refine WL.quiet (Runs.free rfl) rfl rfl (oq_con (r := (.bool r3)) Tryz.call38 rfl rfl (fun w' s => ⟨_, (slices_Contains_boolbool_con l1 false ao3 cap3  w' H1 s.hold h15 hc18 hG r3 e6)⟩)) ?_
      refine WL.nil (then_normal ?_)
      refine WP.cond rfl (fun hc19 => ?_) (fun hc19 => ?_)
      ·
       replace hm := ite_t hc19 hm
       refine WP.seq (WP.region ?_)
       refine wq rfl rfl rfl (ov_assign rfl rfl) ?_
       refine WL.nil (then_normal (WP.ret (then_ret ?_)))
       obtain rfl := Option.some.inj hm
       refine retQ_ret Tryz.results17 (Res.tmp rfl Res.nil) rfl (fun w' s => ⟨s.below, ?_⟩)
       exact rfl
      ·
       replace hm := ite_f hc19 hm
       refine WP.skip (then_normal (WP.seq (WP.region ?_)))
       refine wq rfl rfl rfl (ov_assign rfl rfl) ?_
       refine WL.nil (then_normal (WP.ret ?_))
       obtain rfl := Option.some.inj hm
       refine retQ_ret Tryz.results17 (Res.tmp rfl Res.nil) rfl (fun w' s => ⟨s.below, ?_⟩)
       exact rfl

theorem ref14_steps_con (p_s : Sequence) (ao1 : Option Addr) (cap1 : Nat) (w : World) (H : Heap) (hH : Le H (hp w)) (h1 : SL H encStep ao1 p_s.steps) (hc1 : p_s.steps.length ≤ cap1) (hG : Glob H) (r : Int) (hm : ref14_steps p_s = some r) :
  Con Tryz.prog 12 [(.agg #[(.int .i64 p_s.actuators), (.slice ao1 p_s.steps.length cap1)])] w H (fun v _ => v = (.int .i64 r)) := by
 unfold ref14_steps at hm
 refine con_of hH Tryz.func12 rfl 62 Tryz.ntmps12 rfl ?_
 refine WP.seq (WP.region ?_)
 refine WL.step (Runs.free rfl) rfl rfl (os_box (cs := [(.int .i64 p_s.actuators), (.slice ao1 p_s.steps.length cap1)]) rfl rfl rfl (fun b1 => ?_))
 refine wq rfl rfl rfl (ov_assign rfl rfl) ?_
 refine WL.nil (then_normal (WP.seq (WP.region ?_)))
 refine wq rfl rfl rfl (ov_fieldAddr Tryz.underlying24 rfl rfl rfl Tryz.sizeOf3 rfl rfl) ?_
 refine wq rfl rfl rfl (ov_load_box (i := 0) Tryz.isAgg3 rfl rfl rfl rfl) ?_
 obtain ⟨u1, e1, hm⟩ := bind_some hm
 replace e1 := guardO_some e1
 refine WL.step (Runs.free rfl) rfl rfl (os_makeSlice (En := encBool) (z := (.bool false)) (y0 := false) (bytes := 1) Tryz.underlying69 (by kernel_rfl) rfl (by decide) rfl rfl rfl e1 (fun b2 xs1 rl1 => ?_))
 refine wq rfl rfl rfl (ov_assign rfl rfl) ?_
 refine WL.nil (then_normal ?_)
 obtain ⟨k1, hk1, hm⟩ := joinK_some hm
 refine WP.seq_join (fun g' S' => ∃ (H5 : Heap) (l3 : (List Bool)) (ao6 : Option Addr) (cap6 : Nat), Le H H5 ∧ SL H5 encBool ao6 l3 ∧ l3.length ≤ cap6 ∧ Sub [(1, (pB b1 0)), (3, (.slice ao6 l3.length cap6)), (1000000007, (.bool false))] g' ∧ (∀ w', S' w' → St w H [.blk b1 24 [(.int .i64 p_s.actuators), (.slice ao1 p_s.steps.length cap1)]] H5 w') ∧ k1 l3 = some r) ?_ ?_
 ·
  skip
  refine WP.seq (WP.region ?_)
  refine wq rfl rfl rfl (ov_assign rfl rfl) ?_
  refine WL.nil (then_normal (WP.block ?_))
  refine WP.held rl1 (fun H1 hc2 hle1 h2 => ?_)
  replace h1 := h1.mono hle1
  replace hG := hG.mono hle1
  refine WP.loop (fun m1 g' S' => ∃ (H2 : Heap) (l1 : (List Bool)) (ao2 : Option Addr) (cap2 : Nat) (i1 : Int), Le H1 H2 ∧ SL H2 encBool ao2 l1 ∧ l1.length ≤ cap2 ∧ Sub [(1, (pB b1 0)), (3, (.slice ao2 l1.length cap2)), (4, (.int .i64 i1)), (1000000007, (.bool false))] g' ∧ (∀ w', S' w' → St w H [.blk b1 24 [(.int .i64 p_s.actuators), (.slice ao1 p_s.steps.length cap1)]] H2 w') ∧ ref14_steps_loop1 p_s k1 m1 l1 i1 = some r) ((Int.toNat ((p_s.steps.length : Int) - 0) + 1)) ⟨H1, (List.replicate (Int.toNat p_s.actuators) false), (some ⟨b2, 0, none⟩), (Int.toNat p_s.actuators), 0, (Le.refl _), h2, hc2, (Sub.cons rfl (Sub.cons rfl (Sub.cons rfl (Sub.cons rfl (Sub.nil _))))), fun w' s => s, hm⟩ ?_ ?_
  ·
   rintro g' S' ⟨_, _, _, _, _, _, _, _, _, _, hm⟩
   exact none_some hm
  ·
   rintro m1 g' S' ⟨H2, l1, ao2, cap2, i1, hle2, h3, hc3, hsub1, hS1, hm⟩
   refine WP.sub hsub1 (WP.weaken hS1 ?_)
   rw [ref14_steps_loop1] at hm
   replace h1 := h1.mono hle2
   replace hG := hG.mono hle2
   refine WP.seq (WP.seq (WP.region ?_))
   refine wq rfl rfl rfl (ov_move rfl rfl) ?_
   refine wq rfl rfl rfl (ov_fieldAddr Tryz.underlying24 rfl rfl rfl Tryz.sizeOf22 rfl rfl) ?_
   refine wq rfl rfl rfl (ov_load_box (i := 0) Tryz.isAgg22 rfl rfl rfl rfl) ?_
   refine wq rfl rfl rfl (ov_len_slice Tryz.underlying22 rfl rfl) ?_
   refine wq rfl rfl rfl (ov_lss rfl rfl rfl) ?_
   refine WL.nil (then_normal ?_)
   refine WP.cond rfl (fun hc4 => ?_) (fun hc4 => ?_)
   ·
    replace hm := ite_t hc4 hm
    refine WP.skip (then_normal ?_)
    obtain ⟨k2, hk2, hm⟩ := joinK_some hm
    refine WP.seq_join (fun g' S' => ∃ (H4 : Heap) (l2 : (List Bool)) (ao5 : Option Addr) (cap5 : Nat), Le H2 H4 ∧ SL H4 encBool ao5 l2 ∧ l2.length ≤ cap5 ∧ Sub [(1, (pB b1 0)), (3, (.slice ao5 l2.length cap5)), (4, (.int .i64 i1)), (1000000007, (.bool false))] g' ∧ (∀ w', S' w' → St w H [.blk b1 24 [(.int .i64 p_s.actuators), (.slice ao1 p_s.steps.length cap1)]] H4 w') ∧ k2 l2 = some r) ?_ ?_
    ·
     skip
     refine WP.block (WP.seq (WP.region ?_))
     refine wq rfl rfl rfl (ov_fieldAddr Tryz.underlying24 rfl rfl rfl Tryz.sizeOf22 rfl rfl) ?_
     refine wq rfl rfl rfl (ov_load_box (i := 0) Tryz.isAgg22 rfl rfl rfl rfl) ?_
     refine wq rfl rfl rfl (ov_move rfl rfl) ?_
     obtain ⟨x1, e2, hm⟩ := bind_some hm
     obtain ⟨h5, h6, h7, cs1, h8, h9⟩ := h1.get e2 (by decide)
     obtain ⟨ao3, cap3, rfl, h4, hc5⟩ := h8
     refine wq rfl rfl rfl (ov_indexAddr Tryz.underlying22 Tryz.sizeOf51 rfl rfl rfl h5 h6 h7) ?_
     refine wq rfl rfl rfl (ov_load_elems (vs := [(.slice ao3 x1.strokes.length cap3), (.int .i64 x1.wait)]) Tryz.isAgg51 Tryz.sizeOf51 rfl rfl rfl h9 h7) ?_
     refine WL.step (Runs.free rfl) rfl rfl (os_alloc (cs := [(.slice none 0 0), (.int .i64 0)]) Tryz.zeroValue51 rfl rfl (fun b3 => ?_))
     refine WL.step0 (Runs.free rfl) rfl (os_store (i := 0) (vs := [(.slice ao3 x1.strokes.length cap3), (.int .i64 x1.wait)]) (cs' := [(.slice ao3 x1.strokes.length cap3), (.int .i64 x1.wait)]) Tryz.sizeOf51 rfl rfl rfl rfl rfl rfl rfl rfl rfl ?_)
     refine WL.nil (then_normal (WP.seq (WP.seq (WP.region ?_))))
     refine wq rfl rfl rfl (ov_load_whole (i := 0) Tryz.isAgg51 Tryz.sizeOf51 rfl rfl rfl rfl) ?_
     obtain ⟨r1, e3, hm⟩ := bind_some hm
     refine WL.quiet (Runs.free rfl) rfl rfl (oq_con (r := (.int .i64 r1)) Tryz.call25 rfl rfl (fun w' s => ⟨_, (ref13_CheckStep_con x1 ao3 cap3  w' H2 s.hold h4 hc5 hG r1 e3)⟩)) ?_
     refine wq rfl rfl rfl (ov_assign rfl rfl) ?_
     refine WL.nil (then_normal (WP.seq (WP.region ?_)))
     refine wq rfl rfl rfl (ov_move rfl rfl) ?_
     refine wq rfl rfl rfl (ov_neq rfl rfl rfl) ?_
     refine WL.nil (then_normal ?_)
     refine WP.cond rfl (fun hc6 => ?_) (fun hc6 => ?_)
     ·
      replace hm := ite_t hc6 hm
      refine WP.seq (WP.region ?_)
      refine wq rfl rfl rfl (ov_move rfl rfl) ?_
      refine wq rfl rfl rfl (ov_assign rfl rfl) ?_
      refine WL.nil (then_normal (WP.ret (then_ret (block_ret (then_ret (then_ret (block_ret (then_ret ?_))))))))
      obtain rfl := Option.some.inj hm
      refine retQ_ret Tryz.results12 (Res.tmp rfl Res.nil) rfl (fun w' s => ⟨s.below, ?_⟩)
      exact rfl
     ·
      replace hm := ite_f hc6 hm
      refine WP.skip (then_normal ?_)
      obtain ⟨k3, hk3, hm⟩ := joinK_some hm
      refine WP.seq_join (fun g' S' => Sub [(1, (pB b1 0)), (3, (.slice ao2 l1.length cap2)), (4, (.int .i64 i1)), (5, (pB b3 0)), (1000000007, (.bool false))] g' ∧ (∀ w', S' w' → St w H [.blk b3 51 [(.slice ao3 x1.strokes.length cap3), (.int .i64 x1.wait)], .blk b1 24 [(.int .i64 p_s.actuators), (.slice ao1 p_s.steps.length cap1)]] H2 w') ∧ k3 = some r) ?_ ?_
      ·
       skip
       refine WP.seq (WP.region ?_)
       refine wq rfl rfl rfl (ov_assign rfl rfl) ?_
       refine WL.nil (then_normal (WP.block ?_))
       refine WP.loop (fun m2 g' S' => ∃ (i2 : Int), Sub [(1, (pB b1 0)), (3, (.slice ao2 l1.length cap2)), (4, (.int .i64 i1)), (5, (pB b3 0)), (7, (.int .i64 i2)), (1000000007, (.bool false))] g' ∧ (∀ w', S' w' → St w H [.blk b3 51 [(.slice ao3 x1.strokes.length cap3), (.int .i64 x1.wait)], .blk b1 24 [(.int .i64 p_s.actuators), (.slice ao1 p_s.steps.length cap1)]] H2 w') ∧ ref14_steps_loop2 p_s x1 k3 m2 i2 = some r) ((Int.toNat ((x1.strokes.length : Int) - 0) + 1)) ⟨0, (Sub.cons rfl (Sub.cons rfl (Sub.cons rfl (Sub.cons rfl (Sub.cons rfl (Sub.cons rfl (Sub.nil _))))))), fun w' s => s, hm⟩ ?_ ?_
       ·
        rintro g' S' ⟨_, _, _, hm⟩
        exact none_some hm
       ·
        rintro m2 g' S' ⟨i2, hsub2, hS2, hm⟩
        refine WP.sub hsub2 (WP.weaken hS2 ?_)
        rw [ref14_steps_loop2] at hm
        refine WP.seq (WP.seq (WP.region ?_))
        refine wq rfl rfl rfl (ov_move rfl rfl) ?_
        refine wq rfl rfl rfl (ov_fieldAddr Tryz.underlying51 rfl rfl rfl Tryz.sizeOf49 rfl rfl) ?_
        refine wq rfl rfl rfl (ov_load_box (i := 0) Tryz.isAgg49 rfl rfl rfl rfl) ?_
        refine wq rfl rfl rfl (ov_len_slice Tryz.underlying49 rfl rfl) ?_
        refine wq rfl rfl rfl (ov_lss rfl rfl rfl) ?_
        refine WL.nil (then_normal ?_)
        refine WP.cond rfl (fun hc7 => ?_) (fun hc7 => ?_)
        ·
         replace hm := ite_t hc7 hm
         refine WP.skip (then_normal (WP.seq (WP.block (WP.seq ?_))))
         refine WP.region_draws (by kernel_rfl) (by kernel_rfl) (fun _ s => s.drew) ?_
         refine QL.quiet (Runs.free rfl) rfl rfl (OV.quiet (ov_fieldAddr Tryz.underlying51 rfl rfl rfl Tryz.sizeOf49 rfl rfl)) ?_
         refine QL.quiet (Runs.free rfl) rfl rfl (OV.quiet (ov_load_box (i := 0) Tryz.isAgg49 rfl rfl rfl rfl)) ?_
         refine QL.quiet (Runs.free rfl) rfl rfl (OV.quiet (ov_move rfl rfl)) ?_
         obtain ⟨x2, e4, hm⟩ := bind_some hm
         obtain ⟨h10, h11, h12, cs2, h13, h14⟩ := h4.get e4 (by decide)
         obtain rfl : cs2 = [(.int .i64 x2.actuator), (.bool x2.out)] := h13
         refine QL.quiet (Runs.free rfl) rfl rfl (OV.quiet (ov_indexAddr Tryz.underlying49 Tryz.sizeOf60 rfl rfl rfl h10 h11 h12)) ?_
         refine QL.quiet (Runs.free rfl) rfl rfl (OV.quiet (ov_fieldAddrE Tryz.underlying60 rfl rfl rfl Tryz.sizeOf3 rfl rfl)) ?_
         refine QL.quiet (Runs.free rfl) rfl rfl (OV.quiet (ov_load_elem (v := (.int .i64 x2.actuator)) Tryz.isAgg3 rfl rfl (h14.one (off := 0) rfl))) ?_
         refine QL.quiet (Runs.free rfl) rfl rfl (OV.quiet (ov_fieldAddr Tryz.underlying24 rfl rfl rfl Tryz.sizeOf3 rfl rfl)) ?_
         refine QL.quiet (Runs.free rfl) rfl rfl (OV.quiet (ov_load_box (i := 1) Tryz.isAgg3 rfl rfl rfl rfl)) ?_
         refine QL.quiet (Runs.free rfl) rfl rfl (OV.quiet (ov_geq rfl rfl rfl)) ?_
         refine QL.nil ?_
         refine then_normal ?_
         refine WP.cond rfl (fun hc8 => ?_) (fun hc8 => ?_)
         ·
          replace hm := ite_t hc8 hm
          refine WP.seq (WP.region ?_)
          refine wq rfl rfl rfl (ov_assign rfl rfl) ?_
          refine WL.nil (then_normal (WP.ret (block_ret (then_ret (then_ret (block_ret (then_ret (block_ret (then_ret (then_ret (block_ret (then_ret ?_))))))))))))
          obtain rfl := Option.some.inj hm
          refine retQ_ret Tryz.results12 (Res.tmp rfl Res.nil) rfl (fun w' s => ⟨s.below, ?_⟩)
          exact rfl
         ·
          replace hm := ite_f hc8 hm
          refine WP.skip (block_normal (then_normal (WP.region ?_)))
          refine wq rfl rfl rfl (ov_move rfl rfl) ?_
          refine wq rfl rfl rfl (ov_add rfl rfl rfl) ?_
          refine wq rfl rfl rfl (ov_assign rfl rfl) ?_
          refine WL.nil (then_normal ?_)
          exact ⟨(IntKind.wrap .i64 (i2 + 1)), (Sub.cons rfl (Sub.cons rfl (Sub.cons rfl (Sub.cons rfl (Sub.cons rfl (Sub.cons rfl (Sub.nil _))))))), fun w' s => s, hm⟩
        ·
         replace hm := ite_f hc7 hm
         refine WP.exit (then_exit (then_exit (block_here (then_normal ?_))))
         exact ⟨(Sub.cons rfl (Sub.cons rfl (Sub.cons rfl (Sub.cons rfl (Sub.cons rfl (Sub.nil _)))))), fun w' s => s, hm⟩
      ·
       rintro g' S' ⟨hsub3, hS3, hm⟩
       refine WP.sub hsub3 (WP.weaken hS3 ?_)
       replace hm := hk3.symm.trans hm
       refine WP.seq (WP.seq (WP.region ?_))
       refine wq rfl rfl rfl (ov_load_whole (i := 0) Tryz.isAgg51 Tryz.sizeOf51 rfl rfl rfl rfl) ?_
       refine wq rfl rfl rfl (ov_move rfl rfl) ?_
       obtain ⟨r2, e5, hm⟩ := bind_some hm
       refine WL.quiet (Runs.free rfl) rfl rfl (oq_con (r := (.bool r2)) Tryz.call26 rfl rfl (fun w' s => ⟨_, (ref13_Suits_con x1 l1 ao3 cap3 ao2 cap2  w' H2 s.hold h4 hc5 h3 hc3 hG r2 e5)⟩)) ?_
       refine wq rfl rfl rfl (ov_not rfl rfl) ?_
       refine WL.nil (then_normal ?_)
       refine WP.cond rfl (fun hc9 => ?_) (fun hc9 => ?_)
       ·
        replace hm := ite_t hc9 hm
        refine WP.seq (WP.region ?_)
        refine wq rfl rfl rfl (ov_assign rfl rfl) ?_
        refine WL.nil (then_normal (WP.ret (then_ret (block_ret (then_ret (then_ret (block_ret (then_ret ?_))))))))
        obtain rfl := Option.some.inj hm
        refine retQ_ret Tryz.results12 (Res.tmp rfl Res.nil) rfl (fun w' s => ⟨s.below, ?_⟩)
        exact rfl
       ·
        replace hm := ite_f hc9 hm
        refine WP.skip (then_normal (WP.region ?_))
        refine wq rfl rfl rfl (ov_load_whole (i := 0) Tryz.isAgg51 Tryz.sizeOf51 rfl rfl rfl rfl) ?_
        refine wq rfl rfl rfl (ov_move rfl rfl) ?_
        obtain ⟨r3, e6, hm⟩ := bind_some hm
        refine WL.step (Runs.free rfl) rfl rfl (os_con Tryz.call27 rfl rfl (fun w' s => (ref13_After_con x1 l1 ao3 cap3 ao2 cap2  w' H2 s.hold h4 hc5 h3 hc3 hG r3 e6)) (fun rr1 H3 hle3 hR1 => ?_))
        replace h3 := h3.mono hle3
        replace h4 := h4.mono hle3
        replace h1 := h1.mono hle3
        replace hG := hG.mono hle3
        obtain ⟨ao4, cap4, rfl, h15, hc10⟩ := hR1
        refine wq rfl rfl rfl (ov_assign rfl rfl) ?_
        refine WL.nil (block_normal (then_normal ?_))
        exact ⟨H3, r3, ao4, cap4, hle3, h15, hc10, (Sub.cons rfl (Sub.cons rfl (Sub.cons rfl (Sub.cons rfl (Sub.nil _))))), fun w' s => (s.select [1] (by decide) rfl), hm⟩
    ·
     rintro g' S' ⟨H4, l2, ao5, cap5, hle4, h16, hc11, hsub4, hS4, hm⟩
     refine WP.sub hsub4 (WP.weaken hS4 ?_)
     replace hm := (congrFun hk2 l2).symm.trans hm
     replace h1 := h1.mono hle4
     replace hG := hG.mono hle4
     refine WP.region ?_
     refine wq rfl rfl rfl (ov_move rfl rfl) ?_
     refine wq rfl rfl rfl (ov_add rfl rfl rfl) ?_
     refine wq rfl rfl rfl (ov_assign rfl rfl) ?_
     refine WL.nil (then_normal ?_)
     exact ⟨H4, l2, ao5, cap5, (IntKind.wrap .i64 (i1 + 1)), (hle2.trans hle4), h16, hc11, (Sub.cons rfl (Sub.cons rfl (Sub.cons rfl (Sub.cons rfl (Sub.nil _))))), fun w' s => s, hm⟩
   ·
    replace hm := ite_f hc4 hm
    refine WP.exit (then_exit (then_exit (block_here (then_normal ?_))))
    exact ⟨H2, l1, ao2, cap2, (hle1.trans hle2), h3, hc3, (Sub.cons rfl (Sub.cons rfl (Sub.cons rfl (Sub.nil _)))), fun w' s => s, hm⟩
 ·
  rintro g' S' ⟨H5, l3, ao6, cap6, hle5, h17, hc12, hsub5, hS5, hm⟩
  refine WP.sub hsub5 (WP.weaken hS5 ?_)
  replace hm := (congrFun hk1 l3).symm.trans hm
  replace h1 := h1.mono hle5
  replace hG := hG.mono hle5
  obtain ⟨k4, hk4, hm⟩ := joinK_some hm
  refine WP.seq_join (fun g' S' => Sub [(1000000007, (.bool false))] g' ∧ (∀ w', S' w' → St w H [] H5 w') ∧ k4 = some r) ?_ ?_
  ·
   skip
   refine WP.seq (WP.region ?_)
   refine wq rfl rfl rfl (ov_assign rfl rfl) ?_
   refine WL.nil (then_normal (WP.block ?_))
   refine WP.loop (fun m3 g' S' => ∃ (i3 : Int), Sub [(1, (pB b1 0)), (3, (.slice ao6 l3.length cap6)), (8, (.int .i64 i3)), (1000000007, (.bool false))] g' ∧ (∀ w', S' w' → St w H [.blk b1 24 [(.int .i64 p_s.actuators), (.slice ao1 p_s.steps.length cap1)]] H5 w') ∧ ref14_steps_loop3 p_s l3 k4 m3 i3 = some r) ((Int.toNat (p_s.actuators - 0) + 1)) ⟨0, (Sub.cons rfl (Sub.cons rfl (Sub.cons rfl (Sub.cons rfl (Sub.nil _))))), fun w' s => s, hm⟩ ?_ ?_
   ·
    rintro g' S' ⟨_, _, _, hm⟩
    exact none_some hm
   ·
    rintro m3 g' S' ⟨i3, hsub6, hS6, hm⟩
    refine WP.sub hsub6 (WP.weaken hS6 ?_)
    rw [ref14_steps_loop3] at hm
    refine WP.seq (WP.seq (WP.region ?_))
    refine wq rfl rfl rfl (ov_move rfl rfl) ?_
    refine wq rfl rfl rfl (ov_fieldAddr Tryz.underlying24 rfl rfl rfl Tryz.sizeOf3 rfl rfl) ?_
    refine wq rfl rfl rfl (ov_load_box (i := 0) Tryz.isAgg3 rfl rfl rfl rfl) ?_
    refine wq rfl rfl rfl (ov_lss rfl rfl rfl) ?_
    refine WL.nil (then_normal ?_)
    refine WP.cond rfl (fun hc13 => ?_) (fun hc13 => ?_)
    ·
     replace hm := ite_t hc13 hm
     refine WP.skip (then_normal (WP.seq (WP.block (WP.seq (WP.region ?_)))))
     refine wq rfl rfl rfl (ov_move rfl rfl) ?_
     refine wq rfl rfl rfl (ov_move rfl rfl) ?_
     obtain ⟨x3, e7, hm⟩ := bind_some hm
     obtain ⟨h18, h19, h20, cs3, h21, h22⟩ := h17.get e7 (by decide)
     obtain rfl : cs3 = [(.bool x3)] := h21
     refine wq rfl rfl rfl (ov_indexAddr Tryz.underlying69 Tryz.sizeOf4 rfl rfl rfl h18 h19 h20) ?_
     refine wq rfl rfl rfl (ov_load_elem (v := (.bool x3)) Tryz.isAgg4 rfl rfl h22) ?_
     refine WL.nil (then_normal ?_)
     refine WP.cond rfl (fun hc14 => ?_) (fun hc14 => ?_)
     ·
      replace hm := ite_t hc14 hm
      refine WP.seq (WP.region ?_)
      refine wq rfl rfl rfl (ov_assign rfl rfl) ?_
      refine WL.nil (then_normal (WP.ret (block_ret (then_ret (then_ret (block_ret (then_ret ?_)))))))
      obtain rfl := Option.some.inj hm
      refine retQ_ret Tryz.results12 (Res.tmp rfl Res.nil) rfl (fun w' s => ⟨s.below, ?_⟩)
      exact rfl
     ·
      replace hm := ite_f hc14 hm
      refine WP.skip (block_normal (then_normal (WP.region ?_)))
      refine wq rfl rfl rfl (ov_move rfl rfl) ?_
      refine wq rfl rfl rfl (ov_add rfl rfl rfl) ?_
      refine wq rfl rfl rfl (ov_assign rfl rfl) ?_
      refine WL.nil (then_normal ?_)
      exact ⟨(IntKind.wrap .i64 (i3 + 1)), (Sub.cons rfl (Sub.cons rfl (Sub.cons rfl (Sub.cons rfl (Sub.nil _))))), fun w' s => s, hm⟩
    ·
     replace hm := ite_f hc13 hm
     refine WP.exit (then_exit (then_exit (block_here (then_normal ?_))))
     exact ⟨(Sub.cons rfl (Sub.nil _)), fun w' s => (s.select [] (by decide) rfl), hm⟩
  ·
   rintro g' S' ⟨hsub7, hS7, hm⟩
   refine WP.sub hsub7 (WP.weaken hS7 ?_)
   replace hm := hk4.symm.trans hm
   refine WP.seq (WP.region ?_)
   refine wq rfl rfl rfl (ov_assign rfl rfl) ?_
   refine WL.nil (then_normal (WP.ret ?_))
   obtain rfl := Option.some.inj hm
   refine retQ_ret Tryz.results12 (Res.tmp rfl Res.nil) rfl (fun w' s => ⟨s.below, ?_⟩)
   exact rfl

end Go.Proofs.YtcgmhlakihjbkaaGreatDoor.W
