/- The walks. Written by our own program gen.py; Lean checks it. -/
import Derived.Test.YtcgmhlakihjbkaaGreatDoorPlain
import Derived.Test.YtcgmhlakihjbkaaGreatDoorEqs
import Derived.Test.YtcgmhlakihjbkaaGreatDoorProg
import Derived.Test.YtcgmhlakihjbkaaGreatDoorExt
import Derived.Test.YtcgmhlakihjbkaaGreatDoorClone
import Derived.Test.YtcgmhlakihjbkaaGreatDoorInsert
import Derived.Test.YtcgmhlakihjbkaaGreatDoorBuild
import Derived.Test.YtcgmhlakihjbkaaGreatDoorWalk0
import Derived.Test.YtcgmhlakihjbkaaGreatDoorWalk1
import Derived.Test.YtcgmhlakihjbkaaGreatDoorWalk3
import Derived.Test.YtcgmhlakihjbkaaGreatDoorWalk4
import Derived.Test.YtcgmhlakihjbkaaGreatDoorWalk5
import Derived.Test.YtcgmhlakihjbkaaGreatDoorWalk6
set_option linter.unusedVariables false
set_option maxRecDepth 100000
set_option maxHeartbeats 4000000
namespace Go.Proofs.YtcgmhlakihjbkaaGreatDoor.W
open Go Go.RowKit
theorem top_TopLogsWear_con (p_s : Sequence) (p_actuator : Int) (p_life : Int) (ao1 : Option Addr) (cap1 : Nat) (w : World) (H : Heap) (hH : Le H (hp w)) (h1 : SL H encStep ao1 p_s.steps) (hc1 : p_s.steps.length ≤ cap1) (hG : Glob H) (r : Bool) (hm : top_TopLogsWear p_s p_actuator p_life = some r) :
  Con Tryz.prog 3 [(.agg #[(.int .i64 p_s.actuators), (.slice ao1 p_s.steps.length cap1)]), (.int .u8 p_actuator), (.int .u16 p_life)] w H (fun v _ => v = (.bool r)) := by
 unfold top_TopLogsWear at hm
 refine con_of hH Tryz.func3 rfl 128 Tryz.ntmps3 rfl ?_
 refine WP.seq (WP.region ?_)
 refine WL.step (Runs.free rfl) rfl rfl (os_box (cs := [(.int .i64 p_s.actuators), (.slice ao1 p_s.steps.length cap1)]) rfl rfl rfl (fun b1 => ?_))
 refine wq rfl rfl rfl (ov_assign rfl rfl) ?_
 refine WL.nil (then_normal (WP.seq (WP.seq (WP.region ?_))))
 refine wq rfl rfl rfl (ov_load_whole (i := 0) Tryz.isAgg24 Tryz.sizeOf24 rfl rfl rfl rfl) ?_
 obtain ⟨r1, e1, hm⟩ := bind_some hm
 refine WL.quiet (Runs.free rfl) rfl rfl (oq_con (r := (.bool r1)) Tryz.call4 rfl rfl (fun w' s => ⟨_, (ref14_Few_con p_s ao1 cap1  w' H s.hold h1 hc1 hG r1 e1)⟩)) ?_
 refine wq rfl rfl rfl (ov_not rfl rfl) ?_
 refine wq rfl rfl rfl (ov_move rfl rfl) ?_
 obtain ⟨c1, e2, hm⟩ := bind_some hm
 refine WL.cut_bool 4 28 (x := c1) ?_ ?_
 ·
  rcases Bool.eq_false_or_eq_true (!r1) with hc2 | hc2
  ·
   skip
   replace hm := ite_t hc2 e2
   refine WL.idle (Idle.no rfl rfl rfl hc2) rfl rfl ?_
   refine WL.idle (Idle.no rfl rfl rfl hc2) rfl rfl ?_
   refine WL.idle (Idle.no rfl rfl rfl hc2) rfl rfl ?_
   refine wq rfl rfl rfl (ov_pick_true rfl (guard_eq rfl hc2) rfl) ?_
   exact WL.nil ⟨Sub.cons' rfl (congrArg Value.bool (Option.some.inj hm)) (Sub.skip rfl (Sub.skip rfl (Sub.skip rfl (Sub.skip rfl (Sub.refl _))))), fun _ s => s⟩
  ·
   skip
   replace hm := ite_f hc2 e2
   refine WL.quiet (Runs.yes rfl rfl rfl hc2) rfl rfl (OV.quiet (ov_load_whole (i := 0) Tryz.isAgg24 Tryz.sizeOf24 rfl rfl rfl rfl)) ?_
   obtain ⟨r2, e3, hm⟩ := bind_some hm
   refine WL.quiet (Runs.yes rfl rfl rfl hc2) rfl rfl (oq_con (r := (.int .i64 r2)) Tryz.call5 rfl rfl (fun w' s => ⟨_, (ref14_Check_con p_s ao1 cap1  w' H s.hold h1 hc1 hG r2 e3)⟩)) ?_
   refine WL.quiet (Runs.yes rfl rfl rfl hc2) rfl rfl (OV.quiet (ov_neq rfl rfl rfl)) ?_
   refine wq rfl rfl rfl (ov_pick_false rfl (guard_eq rfl hc2) rfl) ?_
   exact WL.nil ⟨Sub.cons' rfl (congrArg Value.bool (Option.some.inj hm)) (Sub.skip rfl (Sub.skip rfl (Sub.skip rfl (Sub.skip rfl (Sub.refl _))))), fun _ s => s⟩
 refine WL.nil (then_normal ?_)
 refine WP.cond rfl (fun hc3 => ?_) (fun hc3 => ?_)
 ·
  replace hm := ite_t hc3 hm
  refine WP.seq (WP.region ?_)
  obtain ⟨r3, e4, hm⟩ := bind_some hm
  refine WL.quiet (Runs.free rfl) rfl rfl (oq_con (r := (.bool r3)) Tryz.call6 rfl rfl (fun w' s => ⟨_, (top_runLog_con   w' H s.hold hG r3 e4)⟩)) ?_
  refine wq rfl rfl rfl (ov_assign rfl rfl) ?_
  refine WL.nil (then_normal (WP.ret (then_ret ?_)))
  obtain rfl := Option.some.inj hm
  refine retQ_ret Tryz.results3 (Res.tmp rfl Res.nil) rfl (fun w' s => ⟨s.below, ?_⟩)
  exact rfl
 ·
  replace hm := ite_f hc3 hm
  refine WP.skip (then_normal (WP.seq ?_))
  refine WP.region_any (S₀ := St w H [.blk b1 24 [(.int .i64 p_s.actuators), (.slice ao1 p_s.steps.length cap1)]] H) 12 rfl (by kernel_rfl) (fun w' s => s) (fun _ s => s.drew) ?_
  refine tq (i := 0) rfl (by kernel_rfl) rfl rfl rfl (ov_load_whole (i := 0) Tryz.isAgg24 Tryz.sizeOf24 rfl rfl rfl rfl) ?_
  refine tq (i := 1) rfl (by kernel_rfl) rfl rfl rfl (ov_move rfl rfl) ?_
  refine tq (i := 2) rfl (by kernel_rfl) rfl rfl rfl (ov_convert_int Tryz.underlying5 Tryz.underlying3 rfl rfl) ?_
  refine tq (i := 3) rfl (by kernel_rfl) rfl rfl rfl (ov_fieldAddr Tryz.underlying24 rfl rfl rfl Tryz.sizeOf3 rfl rfl) ?_
  refine tq (i := 4) rfl (by kernel_rfl) rfl rfl rfl (ov_load_box (i := 0) Tryz.isAgg3 rfl rfl rfl rfl) ?_
  obtain ⟨u1, e5, hm⟩ := bind_some hm
  replace e5 := guardO_some e5
  refine tq (i := 5) rfl (by kernel_rfl) rfl rfl rfl (ov_rem rfl rfl rfl (by simpa using e5)) ?_
  refine AL.any (rs := [6]) (by kernel_rfl) (by decide) ?_
  refine ALs.cons (i := 6) rfl (Runs.free rfl) rfl rfl ?_ ?_
  ·
   skip
   obtain ⟨r4, e6, hm⟩ := bind_some hm
   refine os_con Tryz.call7 rfl rfl (fun w' s => (sequence_Moves_con p_s (Int.tmod (IntKind.wrap .i64 p_actuator) p_s.actuators) ao1 cap1  w' H s.hold h1 hc1 hG r4 e6)) (fun rr1 H1 hle1 hR1 => ?_)
   replace h1 := h1.mono hle1
   replace hG := hG.mono hle1
   obtain ⟨ao2, cap2, rfl, h2, hc4⟩ := hR1
   refine ⟨fun w' s => (s.heap hle1), ?_⟩
   refine tq (i := 7) rfl (by kernel_rfl) rfl rfl rfl (ov_move rfl rfl) ?_
   refine tq (i := 8) rfl (by kernel_rfl) rfl rfl rfl (ov_extract rfl rfl rfl) ?_
   refine tq (i := 9) rfl (by kernel_rfl) rfl rfl rfl (ov_extract rfl rfl rfl) ?_
   refine tq (i := 10) rfl (by kernel_rfl) rfl rfl rfl (ov_assign rfl rfl) ?_
   refine tq (i := 11) rfl (by kernel_rfl) rfl rfl rfl (ov_assign rfl rfl) ?_
   refine AL.done (by kernel_rfl) ?_
   refine then_normal (WP.seq (WP.seq (WP.region ?_)))
   refine wq rfl rfl rfl (ov_move rfl rfl) ?_
   refine wq rfl rfl rfl (ov_neq rfl rfl rfl) ?_
   refine wq rfl rfl rfl (ov_move rfl rfl) ?_
   refine WL.cut_bool 4 46 (x := ((r4.2 != 0) || ((r4.1.length : Int) == 0))) ?_ ?_
   ·
    rcases Bool.eq_false_or_eq_true (r4.2 != 0) with hc5 | hc5
    ·
     skip
     refine WL.idle (Idle.no rfl rfl rfl hc5) rfl rfl ?_
     refine WL.idle (Idle.no rfl rfl rfl hc5) rfl rfl ?_
     refine WL.idle (Idle.no rfl rfl rfl hc5) rfl rfl ?_
     refine wq rfl rfl rfl (ov_pick_true rfl (guard_eq rfl hc5) rfl) ?_
     exact WL.nil ⟨Sub.cons' rfl (congrArg Value.bool (orT hc5)) (Sub.skip rfl (Sub.skip rfl (Sub.skip rfl (Sub.skip rfl (Sub.refl _))))), fun _ s => s⟩
    ·
     skip
     refine WL.quiet (Runs.yes rfl rfl rfl hc5) rfl rfl (OV.quiet (ov_move rfl rfl)) ?_
     refine WL.quiet (Runs.yes rfl rfl rfl hc5) rfl rfl (OV.quiet (ov_len_slice Tryz.underlying29 rfl rfl)) ?_
     refine WL.quiet (Runs.yes rfl rfl rfl hc5) rfl rfl (OV.quiet (ov_eql rfl rfl rfl)) ?_
     refine wq rfl rfl rfl (ov_pick_false rfl (guard_eq rfl hc5) rfl) ?_
     exact WL.nil ⟨Sub.cons' rfl (congrArg Value.bool (orF hc5)) (Sub.skip rfl (Sub.skip rfl (Sub.skip rfl (Sub.skip rfl (Sub.refl _))))), fun _ s => s⟩
   refine WL.nil (then_normal ?_)
   refine WP.cond rfl (fun hc6 => ?_) (fun hc6 => ?_)
   ·
    replace hm := ite_t hc6 hm
    refine WP.seq (WP.region ?_)
    refine wq rfl rfl rfl (ov_assign rfl rfl) ?_
    refine WL.nil (then_normal (WP.ret (then_ret ?_)))
    obtain rfl := Option.some.inj hm
    refine retQ_ret Tryz.results3 (Res.tmp rfl Res.nil) rfl (fun w' s => ⟨s.below, ?_⟩)
    exact rfl
   ·
    replace hm := ite_f hc6 hm
    refine WP.skip (then_normal (WP.seq (WP.region ?_)))
    refine wq rfl rfl rfl (ov_move rfl rfl) ?_
    refine wq rfl rfl rfl (ov_convert_int Tryz.underlying25 Tryz.underlying3 rfl rfl) ?_
    refine wq rfl rfl rfl (ov_add rfl rfl rfl) ?_
    refine wq rfl rfl rfl (ov_build (r := (.agg #[(.int .i64 0), (mkS [65]), (.int .i64 (IntKind.wrap .i64 ((IntKind.wrap .i64 p_life) + 1))), (.int .i64 0)])) rfl rfl (fun _ => by kernel_rfl)) ?_
    have rl1 : RL H1 encEntry ([(Entry.mk 0 [65] (IntKind.wrap .i64 ((IntKind.wrap .i64 p_life) + 1)) 0)] : List Entry) [(.int .i64 0), (mkS [65]), (.int .i64 (IntKind.wrap .i64 ((IntKind.wrap .i64 p_life) + 1))), (.int .i64 0)] := RL.cons (cs := [(.int .i64 0), (mkS [65]), (.int .i64 (IntKind.wrap .i64 ((IntKind.wrap .i64 p_life) + 1))), (.int .i64 0)]) (xs := []) rfl (RL.nil _ _)
    refine WL.step (Runs.free rfl) rfl rfl (os_buildSlice (cs := [(.int .i64 0), (mkS [65]), (.int .i64 (IntKind.wrap .i64 ((IntKind.wrap .i64 p_life) + 1))), (.int .i64 0)]) (E := 39) (sz := 4) rfl rfl (fun _ => by kernel_rfl) rfl (by decide) (fun b2 => ?_))
    refine WL.held rl1 (fun H2 hc7 hle2 h3 => ?_)
    replace h1 := h1.mono hle2
    replace h2 := h2.mono hle2
    replace hG := hG.mono hle2
    obtain ⟨r5, e7, hm⟩ := bind_some hm
    refine WL.step (Runs.free rfl) rfl rfl (os_con Tryz.call8 rfl rfl (fun w' s => (journal_Run_con ([(Entry.mk 0 [65] (IntKind.wrap .i64 ((IntKind.wrap .i64 p_life) + 1)) 0)] : List Entry) (some ⟨b2, 0, none⟩) 1  w' H2 s.hold h3 hc7 hG r5 e7)) (fun rr2 H3 hle3 hR2 => ?_))
    replace h1 := h1.mono hle3
    replace h2 := h2.mono hle3
    replace h3 := h3.mono hle3
    replace hG := hG.mono hle3
    obtain ⟨ao3, cap3, rfl, h4, hc8⟩ := hR2
    refine wq rfl rfl rfl (ov_move rfl rfl) ?_
    refine wq rfl rfl rfl (ov_extract rfl rfl rfl) ?_
    refine wq rfl rfl rfl (ov_extract rfl rfl rfl) ?_
    refine wq rfl rfl rfl (ov_extract rfl rfl rfl) ?_
    refine WL.step (Runs.free rfl) rfl rfl (os_alloc (cs := [(.slice none 0 0), (.int .i64 0)]) Tryz.zeroValue35 rfl rfl (fun b3 => ?_))
    refine WL.step0 (Runs.free rfl) rfl (os_store (i := 0) (vs := [(.slice ao3 r5.1.items.length cap3), (.int .i64 r5.1.cycles)]) (cs' := [(.slice ao3 r5.1.items.length cap3), (.int .i64 r5.1.cycles)]) Tryz.sizeOf35 rfl rfl rfl rfl rfl rfl rfl rfl rfl ?_)
    refine wq rfl rfl rfl (ov_assign rfl rfl) ?_
    refine wq rfl rfl rfl (ov_assign rfl rfl) ?_
    refine WL.nil (then_normal (WP.seq (WP.region ?_)))
    refine wq rfl rfl rfl (ov_load_whole (i := 0) Tryz.isAgg35 Tryz.sizeOf35 rfl rfl rfl rfl) ?_
    refine wq rfl rfl rfl (ov_move rfl rfl) ?_
    refine wq rfl rfl rfl (ov_len_slice Tryz.underlying29 rfl rfl) ?_
    obtain ⟨r6, e8, hm⟩ := bind_some hm
    refine WL.quiet (Runs.free rfl) rfl rfl (oq_con (r := (.tuple #[(.int .i64 r6.1), (.int .i64 r6.2)])) Tryz.call9 rfl rfl (fun w' s => ⟨_, (journal_Left_con r5.1 [65] (r4.1.length : Int) ao3 cap3  w' H3 s.hold h4 hc8 hG r6 e8)⟩)) ?_
    refine wq rfl rfl rfl (ov_move rfl rfl) ?_
    refine wq rfl rfl rfl (ov_extract rfl rfl rfl) ?_
    refine wq rfl rfl rfl (ov_extract rfl rfl rfl) ?_
    refine wq rfl rfl rfl (ov_assign rfl rfl) ?_
    refine wq rfl rfl rfl (ov_assign rfl rfl) ?_
    refine WL.nil (then_normal (WP.seq (WP.seq (WP.region ?_))))
    refine wq rfl rfl rfl (ov_move rfl rfl) ?_
    refine wq rfl rfl rfl (ov_move rfl rfl) ?_
    refine wq rfl rfl rfl (ov_add rfl rfl rfl) ?_
    refine wq rfl rfl rfl (ov_neq rfl rfl rfl) ?_
    refine wq rfl rfl rfl (ov_move rfl rfl) ?_
    refine WL.cut_bool 3 71 (x := (((IntKind.wrap .i64 (r5.2.2 + r6.2)) != 0) || (decide (r6.1 < 1)))) ?_ ?_
    ·
     rcases Bool.eq_false_or_eq_true ((IntKind.wrap .i64 (r5.2.2 + r6.2)) != 0) with hc9 | hc9
     ·
      skip
      refine WL.idle (Idle.no rfl rfl rfl hc9) rfl rfl ?_
      refine WL.idle (Idle.no rfl rfl rfl hc9) rfl rfl ?_
      refine wq rfl rfl rfl (ov_pick_true rfl (guard_eq rfl hc9) rfl) ?_
      exact WL.nil ⟨Sub.cons' rfl (congrArg Value.bool (orT hc9)) (Sub.skip rfl (Sub.skip rfl (Sub.skip rfl (Sub.refl _)))), fun _ s => s⟩
     ·
      skip
      refine WL.quiet (Runs.yes rfl rfl rfl hc9) rfl rfl (OV.quiet (ov_move rfl rfl)) ?_
      refine WL.quiet (Runs.yes rfl rfl rfl hc9) rfl rfl (OV.quiet (ov_lss rfl rfl rfl)) ?_
      refine wq rfl rfl rfl (ov_pick_false rfl (guard_eq rfl hc9) rfl) ?_
      exact WL.nil ⟨Sub.cons' rfl (congrArg Value.bool (orF hc9)) (Sub.skip rfl (Sub.skip rfl (Sub.skip rfl (Sub.refl _)))), fun _ s => s⟩
    refine WL.nil (then_normal ?_)
    refine WP.cond rfl (fun hc10 => ?_) (fun hc10 => ?_)
    ·
     replace hm := ite_t hc10 hm
     refine WP.seq (WP.region ?_)
     refine wq rfl rfl rfl (ov_assign rfl rfl) ?_
     refine WL.nil (then_normal (WP.ret (then_ret ?_)))
     obtain rfl := Option.some.inj hm
     refine retQ_ret Tryz.results3 (Res.tmp rfl Res.nil) rfl (fun w' s => ⟨s.below, ?_⟩)
     exact rfl
    ·
     replace hm := ite_f hc10 hm
     refine WP.skip (then_normal ?_)
     obtain ⟨k1, hk1, hm⟩ := joinK_some hm
     refine WP.seq_join (fun g' S' => ∃ (H9 : Heap), Le H3 H9 ∧ Sub [(1000000007, (.bool false))] g' ∧ (∀ w', S' w' → St w H [] H9 w') ∧ k1 = some r) ?_ ?_
     ·
      skip
      refine WP.seq (WP.region ?_)
      refine wq rfl rfl rfl (ov_move rfl rfl) ?_
      refine wq rfl rfl rfl (ov_sub rfl rfl rfl) ?_
      refine wq rfl rfl rfl (ov_move rfl rfl) ?_
      have rl2 : RL H3 (encInt .i64) ([(IntKind.wrap .i64 (r6.1 - 1)), r6.1] : List Int) [(.int .i64 (IntKind.wrap .i64 (r6.1 - 1))), (.int .i64 r6.1)] := RL.cons (cs := [(.int .i64 (IntKind.wrap .i64 (r6.1 - 1)))]) (xs := [(.int .i64 r6.1)]) rfl (RL.cons (cs := [(.int .i64 r6.1)]) (xs := []) rfl (RL.nil _ _))
      refine WL.step (Runs.free rfl) rfl rfl (os_buildSlice (cs := [(.int .i64 (IntKind.wrap .i64 (r6.1 - 1))), (.int .i64 r6.1)]) (E := 3) (sz := 1) rfl rfl (fun _ => by kernel_rfl) rfl (by decide) (fun b4 => ?_))
      refine WL.held rl2 (fun H4 hc11 hle4 h5 => ?_)
      replace h1 := h1.mono hle4
      replace h2 := h2.mono hle4
      replace h3 := h3.mono hle4
      replace h4 := h4.mono hle4
      replace hG := hG.mono hle4
      refine wq rfl rfl rfl (ov_len_slice Tryz.underlying29 rfl rfl) ?_
      refine wq rfl rfl rfl (ov_move rfl rfl) ?_
      refine WL.nil (then_normal (WP.block ?_))
      refine WP.loop (fun m1 g' S' => ∃ (H5 : Heap) (i1 : Int), Le H4 H5 ∧ Sub [(7, (.slice ao2 r4.1.length cap2)), (9, (pB b3 0)), (11, (.int .i64 r6.1)), (75, (.slice (some ⟨b4, 0, none⟩) ([(IntKind.wrap .i64 (r6.1 - 1)), r6.1] : List Int).length 2)), (76, (.int .i64 (([(IntKind.wrap .i64 (r6.1 - 1)), r6.1] : List Int).length : Int))), (77, (.int .i64 i1)), (1000000007, (.bool false))] g' ∧ (∀ w', S' w' → St w H [.blk b3 35 [(.slice ao3 r5.1.items.length cap3), (.int .i64 r5.1.cycles)]] H5 w') ∧ top_TopLogsWear_loop1 r4 r5 r6 k1 m1 i1 = some r) ((Int.toNat ((([(IntKind.wrap .i64 (r6.1 - 1)), r6.1] : List Int).length : Int) - 0) + 1)) ⟨H4, 0, (Le.refl _), (Sub.cons rfl (Sub.cons rfl (Sub.cons rfl (Sub.cons rfl (Sub.cons rfl (Sub.cons rfl (Sub.cons rfl (Sub.nil _)))))))), fun w' s => (s.select [0] (by decide) rfl), hm⟩ ?_ ?_
      ·
       rintro g' S' ⟨_, _, _, _, _, hm⟩
       exact none_some hm
      ·
       rintro m1 g' S' ⟨H5, i1, hle5, hsub1, hS1, hm⟩
       refine WP.sub hsub1 (WP.weaken hS1 ?_)
       rw [top_TopLogsWear_loop1] at hm
       replace h2 := h2.mono hle5
       replace h5 := h5.mono hle5
       replace h4 := h4.mono hle5
       replace hG := hG.mono hle5
       refine WP.seq (WP.region ?_)
       refine wq rfl rfl rfl (ov_lss rfl rfl rfl) ?_
       refine WL.nil (then_normal (WP.seq ?_))
       refine WP.cond rfl (fun hc12 => ?_) (fun hc12 => ?_)
       ·
        replace hm := ite_t hc12 hm
        refine WP.skip (then_normal ?_)
        obtain ⟨k2, hk2, hm⟩ := joinK_some hm
        refine WP.seq_join (fun g' S' => ∃ (H8 : Heap), Le H5 H8 ∧ Sub [(7, (.slice ao2 r4.1.length cap2)), (9, (pB b3 0)), (11, (.int .i64 r6.1)), (75, (.slice (some ⟨b4, 0, none⟩) ([(IntKind.wrap .i64 (r6.1 - 1)), r6.1] : List Int).length 2)), (76, (.int .i64 (([(IntKind.wrap .i64 (r6.1 - 1)), r6.1] : List Int).length : Int))), (77, (.int .i64 i1)), (1000000007, (.bool false))] g' ∧ (∀ w', S' w' → St w H [.blk b3 35 [(.slice ao3 r5.1.items.length cap3), (.int .i64 r5.1.cycles)]] H8 w') ∧ k2 = some r) ?_ ?_
        ·
         skip
         refine WP.block (WP.seq (WP.region ?_))
         obtain ⟨x1, e9, hm⟩ := bind_some hm
         obtain ⟨h6, h7, h8, cs1, h9, h10⟩ := h5.get e9 (by decide)
         obtain rfl : cs1 = [(.int .i64 x1)] := h9
         refine wq rfl rfl rfl (ov_indexAddr Tryz.underlying29 Tryz.sizeOf3 rfl rfl rfl h6 h7 h8) ?_
         refine wq rfl rfl rfl (ov_load_elem (v := (.int .i64 x1)) Tryz.isAgg3 rfl rfl h10) ?_
         refine wq rfl rfl rfl (ov_assign rfl rfl) ?_
         refine WL.nil (then_normal (WP.seq (WP.seq (WP.region ?_))))
         refine wq rfl rfl rfl (ov_move rfl rfl) ?_
         refine wq rfl rfl rfl (ov_eql rfl rfl rfl) ?_
         refine WL.nil (then_normal ?_)
         refine WP.cond rfl (fun hc13 => ?_) (fun hc13 => ?_)
         ·
          replace hm := ite_t hc13 hm
          refine WP.exit (then_exit (block_here (then_normal ?_)))
          exact ⟨H5, (Le.refl _), (Sub.cons rfl (Sub.cons rfl (Sub.cons rfl (Sub.cons rfl (Sub.cons rfl (Sub.cons rfl (Sub.cons rfl (Sub.nil _)))))))), fun w' s => s, hm⟩
         ·
          replace hm := ite_f hc13 hm
          refine WP.skip (then_normal (WP.seq (WP.region ?_)))
          refine wq rfl rfl rfl (ov_load_whole (i := 0) Tryz.isAgg35 Tryz.sizeOf35 rfl rfl rfl rfl) ?_
          refine wq rfl rfl rfl (ov_move rfl rfl) ?_
          refine wq rfl rfl rfl (ov_move rfl rfl) ?_
          refine wq rfl rfl rfl (ov_len_slice Tryz.underlying29 rfl rfl) ?_
          refine wq rfl rfl rfl (ov_build (r := (.agg #[(.int .i64 1), (mkS [65]), (.int .i64 x1), (.int .i64 (r4.1.length : Int))])) rfl rfl (fun _ => by kernel_rfl)) ?_
          obtain ⟨r7, e10, hm⟩ := bind_some hm
          refine WL.step (Runs.free rfl) rfl rfl (os_con Tryz.call10 rfl rfl (fun w' s => (journal_Do_con r5.1 (Entry.mk 1 [65] x1 (r4.1.length : Int)) ao3 cap3  w' H5 s.hold h4 hc8 hG r7 e10)) (fun rr3 H6 hle6 hR3 => ?_))
          replace h2 := h2.mono hle6
          replace h5 := h5.mono hle6
          replace h10 := h10.mono hle6
          replace h4 := h4.mono hle6
          replace hG := hG.mono hle6
          obtain ⟨ao4, cap4, rfl, h11, hc14⟩ := hR3
          refine wq rfl rfl rfl (ov_move rfl rfl) ?_
          refine wq rfl rfl rfl (ov_extract rfl rfl rfl) ?_
          refine wq rfl rfl rfl (ov_extract rfl rfl rfl) ?_
          refine WL.step (Runs.free rfl) rfl rfl (os_alloc (cs := [(.slice none 0 0), (.int .i64 0)]) Tryz.zeroValue35 rfl rfl (fun b5 => ?_))
          refine WL.step0 (Runs.free rfl) rfl (os_store (i := 0) (vs := [(.slice ao4 r7.1.items.length cap4), (.int .i64 r7.1.cycles)]) (cs' := [(.slice ao4 r7.1.items.length cap4), (.int .i64 r7.1.cycles)]) Tryz.sizeOf35 rfl rfl rfl rfl rfl rfl rfl rfl rfl ?_)
          refine wq rfl rfl rfl (ov_assign rfl rfl) ?_
          refine WL.nil (then_normal (WP.seq (WP.region ?_)))
          refine wq rfl rfl rfl (ov_load_whole (i := 0) Tryz.isAgg35 Tryz.sizeOf35 rfl rfl rfl rfl) ?_
          obtain ⟨r8, e11, hm⟩ := bind_some hm
          refine WL.step (Runs.free rfl) rfl rfl (os_con Tryz.call11 rfl rfl (fun w' s => (journal_Due_con r7.1 ao4 cap4  w' H6 s.hold h11 hc14 hG r8 e11)) (fun rr4 H7 hle7 hR4 => ?_))
          replace h2 := h2.mono hle7
          replace h5 := h5.mono hle7
          replace h10 := h10.mono hle7
          replace h4 := h4.mono hle7
          replace h11 := h11.mono hle7
          replace hG := hG.mono hle7
          obtain ⟨ao5, cap5, rfl, h12, hc15⟩ := hR4
          refine wq rfl rfl rfl (ov_move rfl rfl) ?_
          refine wq rfl rfl rfl (ov_extract rfl rfl rfl) ?_
          refine wq rfl rfl rfl (ov_extract rfl rfl rfl) ?_
          refine wq rfl rfl rfl (ov_assign rfl rfl) ?_
          refine wq rfl rfl rfl (ov_assign rfl rfl) ?_
          refine WL.nil (then_normal (WP.seq (WP.region ?_)))
          refine wq rfl rfl rfl (ov_load_whole (i := 0) Tryz.isAgg35 Tryz.sizeOf35 rfl rfl rfl rfl) ?_
          refine wq rfl rfl rfl (ov_move rfl rfl) ?_
          refine wq rfl rfl rfl (ov_len_slice Tryz.underlying29 rfl rfl) ?_
          obtain ⟨r9, e12, hm⟩ := bind_some hm
          refine WL.quiet (Runs.free rfl) rfl rfl (oq_con (r := (.tuple #[(.int .i64 r9.1), (.int .i64 r9.2)])) Tryz.call9 rfl rfl (fun w' s => ⟨_, (journal_Left_con r7.1 [65] (r4.1.length : Int) ao4 cap4  w' H7 s.hold h11 hc14 hG r9 e12)⟩)) ?_
          refine wq rfl rfl rfl (ov_move rfl rfl) ?_
          refine wq rfl rfl rfl (ov_extract rfl rfl rfl) ?_
          refine wq rfl rfl rfl (ov_extract rfl rfl rfl) ?_
          refine wq rfl rfl rfl (ov_assign rfl rfl) ?_
          refine wq rfl rfl rfl (ov_assign rfl rfl) ?_
          refine WL.nil (then_normal (WP.seq (WP.region ?_)))
          refine wq rfl rfl rfl (ov_move rfl rfl) ?_
          refine wq rfl rfl rfl (ov_move rfl rfl) ?_
          refine wq rfl rfl rfl (ov_add rfl rfl rfl) ?_
          refine wq rfl rfl rfl (ov_move rfl rfl) ?_
          refine wq rfl rfl rfl (ov_add rfl rfl rfl) ?_
          refine wq rfl rfl rfl (ov_neq rfl rfl rfl) ?_
          refine wq rfl rfl rfl (ov_move rfl rfl) ?_
          refine WL.cut_bool 8 118 (x := (((IntKind.wrap .i64 ((IntKind.wrap .i64 (r7.2 + r8.2)) + r9.2)) != 0) || (!(((r8.1.length : Int) == 1) == (x1 == r6.1))))) ?_ ?_
          ·
           rcases Bool.eq_false_or_eq_true ((IntKind.wrap .i64 ((IntKind.wrap .i64 (r7.2 + r8.2)) + r9.2)) != 0) with hc16 | hc16
           ·
            skip
            refine WL.idle (Idle.no rfl rfl rfl hc16) rfl rfl ?_
            refine WL.idle (Idle.no rfl rfl rfl hc16) rfl rfl ?_
            refine WL.idle (Idle.no rfl rfl rfl hc16) rfl rfl ?_
            refine WL.idle (Idle.no rfl rfl rfl hc16) rfl rfl ?_
            refine WL.idle (Idle.no rfl rfl rfl hc16) rfl rfl ?_
            refine WL.idle (Idle.no rfl rfl rfl hc16) rfl rfl ?_
            refine WL.idle (Idle.no rfl rfl rfl hc16) rfl rfl ?_
            refine wq rfl rfl rfl (ov_pick_true rfl (guard_eq rfl hc16) rfl) ?_
            exact WL.nil ⟨Sub.cons' rfl (congrArg Value.bool (orT hc16)) (Sub.skip rfl (Sub.skip rfl (Sub.skip rfl (Sub.skip rfl (Sub.skip rfl (Sub.skip rfl (Sub.skip rfl (Sub.skip rfl (Sub.refl _))))))))), fun _ s => s⟩
           ·
            skip
            refine WL.quiet (Runs.yes rfl rfl rfl hc16) rfl rfl (OV.quiet (ov_move rfl rfl)) ?_
            refine WL.quiet (Runs.yes rfl rfl rfl hc16) rfl rfl (OV.quiet (ov_len_slice Tryz.underlying45 rfl rfl)) ?_
            refine WL.quiet (Runs.yes rfl rfl rfl hc16) rfl rfl (OV.quiet (ov_eql rfl rfl rfl)) ?_
            refine WL.quiet (Runs.yes rfl rfl rfl hc16) rfl rfl (OV.quiet (ov_move rfl rfl)) ?_
            refine WL.quiet (Runs.yes rfl rfl rfl hc16) rfl rfl (OV.quiet (ov_move rfl rfl)) ?_
            refine WL.quiet (Runs.yes rfl rfl rfl hc16) rfl rfl (OV.quiet (ov_eql rfl rfl rfl)) ?_
            refine WL.quiet (Runs.yes rfl rfl rfl hc16) rfl rfl (OV.quiet (ov_bneq Tryz.underlying4 rfl rfl rfl)) ?_
            refine wq rfl rfl rfl (ov_pick_false rfl (guard_eq rfl hc16) rfl) ?_
            exact WL.nil ⟨Sub.cons' rfl (congrArg Value.bool (orF hc16)) (Sub.skip rfl (Sub.skip rfl (Sub.skip rfl (Sub.skip rfl (Sub.skip rfl (Sub.skip rfl (Sub.skip rfl (Sub.skip rfl (Sub.refl _))))))))), fun _ s => s⟩
          refine wq rfl rfl rfl (ov_move rfl rfl) ?_
          refine WL.cut_bool 6 125 (x := ((((IntKind.wrap .i64 ((IntKind.wrap .i64 (r7.2 + r8.2)) + r9.2)) != 0) || (!(((r8.1.length : Int) == 1) == (x1 == r6.1)))) || (r9.1 != (IntKind.wrap .i64 (r6.1 - x1))))) ?_ ?_
          ·
           rcases Bool.eq_false_or_eq_true (((IntKind.wrap .i64 ((IntKind.wrap .i64 (r7.2 + r8.2)) + r9.2)) != 0) || (!(((r8.1.length : Int) == 1) == (x1 == r6.1)))) with hc17 | hc17
           ·
            skip
            refine WL.idle (Idle.no rfl rfl rfl hc17) rfl rfl ?_
            refine WL.idle (Idle.no rfl rfl rfl hc17) rfl rfl ?_
            refine WL.idle (Idle.no rfl rfl rfl hc17) rfl rfl ?_
            refine WL.idle (Idle.no rfl rfl rfl hc17) rfl rfl ?_
            refine WL.idle (Idle.no rfl rfl rfl hc17) rfl rfl ?_
            refine wq rfl rfl rfl (ov_pick_true rfl (guard_eq rfl hc17) rfl) ?_
            exact WL.nil ⟨Sub.cons' rfl (congrArg Value.bool (orT hc17)) (Sub.skip rfl (Sub.skip rfl (Sub.skip rfl (Sub.skip rfl (Sub.skip rfl (Sub.skip rfl (Sub.refl _))))))), fun _ s => s⟩
           ·
            skip
            refine WL.quiet (Runs.yes rfl rfl rfl hc17) rfl rfl (OV.quiet (ov_move rfl rfl)) ?_
            refine WL.quiet (Runs.yes rfl rfl rfl hc17) rfl rfl (OV.quiet (ov_move rfl rfl)) ?_
            refine WL.quiet (Runs.yes rfl rfl rfl hc17) rfl rfl (OV.quiet (ov_move rfl rfl)) ?_
            refine WL.quiet (Runs.yes rfl rfl rfl hc17) rfl rfl (OV.quiet (ov_sub rfl rfl rfl)) ?_
            refine WL.quiet (Runs.yes rfl rfl rfl hc17) rfl rfl (OV.quiet (ov_neq rfl rfl rfl)) ?_
            refine wq rfl rfl rfl (ov_pick_false rfl (guard_eq rfl hc17) rfl) ?_
            exact WL.nil ⟨Sub.cons' rfl (congrArg Value.bool (orF hc17)) (Sub.skip rfl (Sub.skip rfl (Sub.skip rfl (Sub.skip rfl (Sub.skip rfl (Sub.skip rfl (Sub.refl _))))))), fun _ s => s⟩
          refine WL.nil (then_normal ?_)
          refine WP.cond rfl (fun hc18 => ?_) (fun hc18 => ?_)
          ·
           replace hm := ite_t hc18 hm
           refine WP.seq (WP.region ?_)
           refine wq rfl rfl rfl (ov_assign rfl rfl) ?_
           refine WL.nil (then_normal (WP.ret (block_ret (then_ret (then_ret (block_ret (then_ret ?_)))))))
           obtain rfl := Option.some.inj hm
           refine retQ_ret Tryz.results3 (Res.tmp rfl Res.nil) rfl (fun w' s => ⟨s.below, ?_⟩)
           exact rfl
          ·
           replace hm := ite_f hc18 hm
           refine WP.skip (block_normal (then_normal ?_))
           exact ⟨H7, (hle6.trans hle7), (Sub.cons rfl (Sub.cons rfl (Sub.cons rfl (Sub.cons rfl (Sub.cons rfl (Sub.cons rfl (Sub.cons rfl (Sub.nil _)))))))), fun w' s => (s.select [1] (by decide) rfl), hm⟩
        ·
         rintro g' S' ⟨H8, hle8, hsub2, hS2, hm⟩
         refine WP.sub hsub2 (WP.weaken hS2 ?_)
         replace hm := hk2.symm.trans hm
         replace h2 := h2.mono hle8
         replace h5 := h5.mono hle8
         replace h4 := h4.mono hle8
         replace hG := hG.mono hle8
         refine WP.region ?_
         refine wq rfl rfl rfl (ov_add rfl rfl rfl) ?_
         refine wq rfl rfl rfl (ov_move rfl rfl) ?_
         refine WL.nil (then_normal ?_)
         exact ⟨H8, (IntKind.wrap .i64 (i1 + 1)), (hle5.trans hle8), (Sub.cons rfl (Sub.cons rfl (Sub.cons rfl (Sub.cons rfl (Sub.cons rfl (Sub.cons rfl (Sub.cons rfl (Sub.nil _)))))))), fun w' s => s, hm⟩
       ·
        replace hm := ite_f hc12 hm
        refine WP.exit (then_exit (then_exit (block_here (then_normal ?_))))
        exact ⟨H5, (hle4.trans hle5), (Sub.cons rfl (Sub.nil _)), fun w' s => (s.select [] (by decide) rfl), hm⟩
     ·
      rintro g' S' ⟨H9, hle9, hsub3, hS3, hm⟩
      refine WP.sub hsub3 (WP.weaken hS3 ?_)
      replace hm := hk1.symm.trans hm
      replace hG := hG.mono hle9
      refine WP.seq (WP.region ?_)
      obtain ⟨r10, e13, hm⟩ := bind_some hm
      refine WL.quiet (Runs.free rfl) rfl rfl (oq_con (r := (.bool r10)) Tryz.call6 rfl rfl (fun w' s => ⟨_, (top_runLog_con   w' H9 s.hold hG r10 e13)⟩)) ?_
      refine wq rfl rfl rfl (ov_assign rfl rfl) ?_
      refine WL.nil (then_normal (WP.ret ?_))
      obtain rfl := Option.some.inj hm
      refine retQ_ret Tryz.results3 (Res.tmp rfl Res.nil) rfl (fun w' s => ⟨s.below, ?_⟩)
      exact rfl
  exact ALs.nil

end Go.Proofs.YtcgmhlakihjbkaaGreatDoor.W
