/- The walks. Written by our own program gen.py; Lean checks it. -/
import Derived.Test.YtbhcojijafbdiaaGreatDoorPlain
import Derived.Test.YtbhcojijafbdiaaGreatDoorEqs
import Derived.Test.YtbhcojijafbdiaaGreatDoorProg
import Derived.Test.YtbhcojijafbdiaaGreatDoorExt
import Derived.Test.YtbhcojijafbdiaaGreatDoorClone
import Derived.Test.YtbhcojijafbdiaaGreatDoorCloneS
import Derived.Test.YtbhcojijafbdiaaGreatDoorWalk3
import Derived.Test.YtbhcojijafbdiaaGreatDoorWalk7
set_option linter.unusedVariables false
set_option maxRecDepth 100000
set_option maxHeartbeats 4000000
namespace Go.Proofs.YtbhcojijafbdiaaGreatDoor.W
open Go Go.RowKit
theorem ref14_Of_con (p_l : (List Step)) (ao1 : Option Addr) (cap1 : Nat) (w : World) (H : Heap) (hH : Le H (hp w)) (h1 : SL H encStep ao1 p_l) (hc1 : p_l.length ≤ cap1) (hG : Glob H) (r : Sequence) (hm : ref14_Of p_l = some r) :
  Con Tryz.prog 79 [(.slice ao1 p_l.length cap1)] w H (fun v H' => ∃ (ao2 : Option Addr) (cap2 : Nat), v = (.agg #[(.int .i64 r.actuators), (.slice ao2 r.steps.length cap2)]) ∧ SL H' encStep ao2 r.steps ∧ r.steps.length ≤ cap2) := by
 unfold ref14_Of at hm
 refine con_of hH Tryz.func79 rfl 39 Tryz.ntmps79 rfl ?_
 refine WP.seq (WP.region ?_)
 refine WL.step (Runs.free rfl) rfl rfl (os_alloc (cs := [(.int .i64 0), (.slice none 0 0)]) Tryz.zeroValue24 rfl rfl (fun b1 => ?_))
 refine WL.nil (then_normal (WP.seq (WP.region ?_)))
 refine wq rfl rfl rfl (ov_move rfl rfl) ?_
 refine wq rfl rfl rfl (ov_build (r := (.agg #[(.int .i64 0), (.slice ao1 p_l.length cap1)])) rfl rfl (fun _ => by kernel_rfl)) ?_
 refine WL.step (Runs.free rfl) rfl rfl (os_alloc (cs := [(.int .i64 0), (.slice none 0 0)]) Tryz.zeroValue24 rfl rfl (fun b2 => ?_))
 refine WL.step0 (Runs.free rfl) rfl (os_store (i := 0) (vs := [(.int .i64 0), (.slice ao1 p_l.length cap1)]) (cs' := [(.int .i64 0), (.slice ao1 p_l.length cap1)]) Tryz.sizeOf24 rfl rfl rfl rfl rfl rfl rfl rfl rfl ?_)
 refine WL.nil (then_normal ?_)
 obtain ⟨k1, hk1, hm⟩ := joinK_some hm
 refine WP.seq_join (fun g' S' => ∃ (i6 : Int), Sub [(2, (pB b1 0)), (3, (pB b2 0)), (1000000007, (.bool false))] g' ∧ (∀ w', S' w' → St w H [.blk b2 24 [(.int .i64 i6), (.slice ao1 p_l.length cap1)], .blk b1 24 [(.int .i64 0), (.slice none 0 0)]] H w') ∧ k1 i6 = some r) ?_ ?_
 ·
  skip
  refine WP.seq (WP.region ?_)
  refine wq rfl rfl rfl (ov_assign rfl rfl) ?_
  refine WL.nil (then_normal (WP.block ?_))
  refine WP.loop (fun m1 g' S' => ∃ (i1 : Int) (i2 : Int), Sub [(0, (.slice ao1 p_l.length cap1)), (2, (pB b1 0)), (3, (pB b2 0)), (4, (.int .i64 i1)), (1000000007, (.bool false))] g' ∧ (∀ w', S' w' → St w H [.blk b2 24 [(.int .i64 i2), (.slice ao1 p_l.length cap1)], .blk b1 24 [(.int .i64 0), (.slice none 0 0)]] H w') ∧ ref14_Of_loop1 p_l k1 m1 i1 i2 = some r) ((Int.toNat ((p_l.length : Int) - 0) + 1)) ⟨0, 0, (Sub.cons rfl (Sub.cons rfl (Sub.cons rfl (Sub.cons rfl (Sub.cons rfl (Sub.nil _)))))), fun w' s => s, hm⟩ ?_ ?_
  ·
   rintro g' S' ⟨_, _, _, _, hm⟩
   exact none_some hm
  ·
   rintro m1 g' S' ⟨i1, i2, hsub1, hS1, hm⟩
   refine WP.sub hsub1 (WP.weaken hS1 ?_)
   rw [ref14_Of_loop1] at hm
   refine WP.seq (WP.seq (WP.region ?_))
   refine wq rfl rfl rfl (ov_move rfl rfl) ?_
   refine wq rfl rfl rfl (ov_move rfl rfl) ?_
   refine wq rfl rfl rfl (ov_len_slice Tryz.underlying22 rfl rfl) ?_
   refine wq rfl rfl rfl (ov_lss rfl rfl rfl) ?_
   refine WL.nil (then_normal ?_)
   refine WP.cond rfl (fun hc3 => ?_) (fun hc3 => ?_)
   ·
    replace hm := ite_t hc3 hm
    refine WP.skip (then_normal ?_)
    obtain ⟨k2, hk2, hm⟩ := joinK_some hm
    refine WP.seq_join (fun g' S' => ∃ (i5 : Int), Sub [(0, (.slice ao1 p_l.length cap1)), (2, (pB b1 0)), (3, (pB b2 0)), (4, (.int .i64 i1)), (1000000007, (.bool false))] g' ∧ (∀ w', S' w' → St w H [.blk b2 24 [(.int .i64 i5), (.slice ao1 p_l.length cap1)], .blk b1 24 [(.int .i64 0), (.slice none 0 0)]] H w') ∧ k2 i5 = some r) ?_ ?_
    ·
     skip
     refine WP.block (WP.seq (WP.region ?_))
     refine wq rfl rfl rfl (ov_assign rfl rfl) ?_
     refine WL.nil (then_normal (WP.block ?_))
     refine WP.loop (fun m2 g' S' => ∃ (i3 : Int) (i4 : Int), Sub [(0, (.slice ao1 p_l.length cap1)), (2, (pB b1 0)), (3, (pB b2 0)), (4, (.int .i64 i1)), (5, (.int .i64 i3)), (1000000007, (.bool false))] g' ∧ (∀ w', S' w' → St w H [.blk b2 24 [(.int .i64 i4), (.slice ao1 p_l.length cap1)], .blk b1 24 [(.int .i64 0), (.slice none 0 0)]] H w') ∧ ref14_Of_loop2 p_l i1 k2 m2 i3 i4 = some r) (42) ⟨0, i2, (Sub.cons rfl (Sub.cons rfl (Sub.cons rfl (Sub.cons rfl (Sub.cons rfl (Sub.cons rfl (Sub.nil _))))))), fun w' s => s, hm⟩ ?_ ?_
     ·
      rintro g' S' ⟨_, _, _, _, hm⟩
      exact none_some hm
     ·
      rintro m2 g' S' ⟨i3, i4, hsub2, hS2, hm⟩
      refine WP.sub hsub2 (WP.weaken hS2 ?_)
      rw [ref14_Of_loop2] at hm
      refine WP.seq (WP.seq (WP.region ?_))
      refine wq rfl rfl rfl (ov_move rfl rfl) ?_
      refine wq rfl rfl rfl (ov_move rfl rfl) ?_
      refine wq rfl rfl rfl (ov_move rfl rfl) ?_
      obtain ⟨x1, e1, hm⟩ := bind_some hm
      obtain ⟨h4, h5, h6, cs1, h7, h8⟩ := h1.get e1 (by decide)
      obtain ⟨ao3, cap3, rfl, h3, hc4⟩ := h7
      refine wq rfl rfl rfl (ov_indexAddr Tryz.underlying22 Tryz.sizeOf37 rfl rfl rfl h4 h5 h6) ?_
      refine wq rfl rfl rfl (ov_fieldAddrE Tryz.underlying37 rfl rfl rfl Tryz.sizeOf25 rfl rfl) ?_
      refine wq rfl rfl rfl (ov_load_elem (v := (.slice ao3 x1.strokes.length cap3)) Tryz.isAgg25 rfl rfl (h8.one (off := 0) rfl)) ?_
      refine wq rfl rfl rfl (ov_len_slice Tryz.underlying25 rfl rfl) ?_
      refine wq rfl rfl rfl (ov_lss rfl rfl rfl) ?_
      refine WL.nil (then_normal ?_)
      refine WP.cond rfl (fun hc5 => ?_) (fun hc5 => ?_)
      ·
       replace hm := ite_t hc5 hm
       refine WP.skip (then_normal (WP.seq (WP.block ?_)))
       refine WP.region_any (S₀ := St w H [.blk b1 24 [(.int .i64 0), (.slice none 0 0)]] H) 15 rfl (by kernel_rfl) (fun w' s => (s.select [1] (by decide) rfl)) (fun _ s => s.drew) ?_
       refine tq (i := 0) rfl (by kernel_rfl) rfl rfl rfl (ov_fieldAddr Tryz.underlying24 rfl rfl rfl Tryz.sizeOf3 rfl rfl) ?_
       refine tq (i := 2) rfl (by kernel_rfl) rfl rfl rfl (ov_move rfl rfl) ?_
       refine tq (i := 3) rfl (by kernel_rfl) rfl rfl rfl (ov_move rfl rfl) ?_
       obtain ⟨x2, e2, hm⟩ := bind_some hm
       obtain ⟨h10, h11, h12, cs2, h13, h14⟩ := h1.get e2 (by decide)
       obtain ⟨ao4, cap4, rfl, h9, hc6⟩ := h13
       refine tq (i := 4) rfl (by kernel_rfl) rfl rfl rfl (ov_indexAddr Tryz.underlying22 Tryz.sizeOf37 rfl rfl rfl h10 h11 h12) ?_
       refine tq (i := 5) rfl (by kernel_rfl) rfl rfl rfl (ov_fieldAddrE Tryz.underlying37 rfl rfl rfl Tryz.sizeOf25 rfl rfl) ?_
       refine tq (i := 6) rfl (by kernel_rfl) rfl rfl rfl (ov_load_elem (v := (.slice ao4 x2.strokes.length cap4)) Tryz.isAgg25 rfl rfl (h14.one (off := 0) rfl)) ?_
       refine tq (i := 7) rfl (by kernel_rfl) rfl rfl rfl (ov_move rfl rfl) ?_
       obtain ⟨x3, e3, hm⟩ := bind_some hm
       obtain ⟨h15, h16, h17, cs3, h18, h19⟩ := h9.get e3 (by decide)
       obtain rfl : cs3 = [(.int .i64 x3.actuator), (.bool x3.out)] := h18
       refine tq (i := 8) rfl (by kernel_rfl) rfl rfl rfl (ov_indexAddr Tryz.underlying25 Tryz.sizeOf40 rfl rfl rfl h15 h16 h17) ?_
       refine tq (i := 9) rfl (by kernel_rfl) rfl rfl rfl (ov_fieldAddrE Tryz.underlying40 rfl rfl rfl Tryz.sizeOf3 rfl rfl) ?_
       refine tq (i := 10) rfl (by kernel_rfl) rfl rfl rfl (ov_load_elem (v := (.int .i64 x3.actuator)) Tryz.isAgg3 rfl rfl (h19.one (off := 0) rfl)) ?_
       refine tq (i := 11) rfl (by kernel_rfl) rfl rfl rfl (ov_add rfl rfl rfl) ?_
       refine AL.any (rs := [1]) (by kernel_rfl) (by decide) ?_
       refine ALs.cons (i := 1) rfl (Runs.free rfl) rfl rfl ?_ ?_
       ·
        skip
        refine OQ.step (OV.quiet (ov_load_box (i := 0) Tryz.isAgg3 rfl rfl rfl rfl)) ?_
        refine ⟨fun w' s => (s.select [1] (by decide) rfl), ?_⟩
        refine tq (i := 12) rfl (by kernel_rfl) rfl rfl rfl (ov_max rfl rfl rfl) ?_
        refine tq (i := 13) rfl (by kernel_rfl) rfl rfl rfl (ov_fieldAddr Tryz.underlying24 rfl rfl rfl Tryz.sizeOf3 rfl rfl) ?_
        refine AL.any (rs := [14]) (by kernel_rfl) (by decide) ?_
        refine ALs.cons0 (i := 14) rfl (Runs.free rfl) rfl ?_ ?_
        ·
         skip
         refine os_store (i := 0) (vs := [(.int .i64 (if (IntKind.wrap .i64 (x3.actuator + 1)) > i4 then (IntKind.wrap .i64 (x3.actuator + 1)) else i4))]) (cs' := [(.int .i64 (if (IntKind.wrap .i64 (x3.actuator + 1)) > i4 then (IntKind.wrap .i64 (x3.actuator + 1)) else i4)), (.slice ao1 p_l.length cap1)]) Tryz.sizeOf3 rfl rfl rfl rfl rfl rfl rfl rfl rfl ?_
         refine ⟨fun w' s => (s.select [1] (by decide) rfl), ?_⟩
         refine AL.done (by kernel_rfl) ?_
         refine block_normal (then_normal (WP.region ?_))
         refine wq rfl rfl rfl (ov_move rfl rfl) ?_
         refine wq rfl rfl rfl (ov_add rfl rfl rfl) ?_
         refine wq rfl rfl rfl (ov_assign rfl rfl) ?_
         refine WL.nil (then_normal ?_)
         exact ⟨(IntKind.wrap .i64 (i3 + 1)), (if (IntKind.wrap .i64 (x3.actuator + 1)) > i4 then (IntKind.wrap .i64 (x3.actuator + 1)) else i4), (Sub.cons rfl (Sub.cons rfl (Sub.cons rfl (Sub.cons rfl (Sub.cons rfl (Sub.cons rfl (Sub.nil _))))))), fun w' s => s, hm⟩
        exact ALs.nil
       exact ALs.nil
      ·
       replace hm := ite_f hc5 hm
       refine WP.exit (then_exit (then_exit (block_here (block_normal (then_normal ?_)))))
       exact ⟨i4, (Sub.cons rfl (Sub.cons rfl (Sub.cons rfl (Sub.cons rfl (Sub.cons rfl (Sub.nil _)))))), fun w' s => s, hm⟩
    ·
     rintro g' S' ⟨i5, hsub3, hS3, hm⟩
     refine WP.sub hsub3 (WP.weaken hS3 ?_)
     replace hm := (congrFun hk2 i5).symm.trans hm
     refine WP.region ?_
     refine wq rfl rfl rfl (ov_move rfl rfl) ?_
     refine wq rfl rfl rfl (ov_add rfl rfl rfl) ?_
     refine wq rfl rfl rfl (ov_assign rfl rfl) ?_
     refine WL.nil (then_normal ?_)
     exact ⟨(IntKind.wrap .i64 (i1 + 1)), i5, (Sub.cons rfl (Sub.cons rfl (Sub.cons rfl (Sub.cons rfl (Sub.cons rfl (Sub.nil _)))))), fun w' s => s, hm⟩
   ·
    replace hm := ite_f hc3 hm
    refine WP.exit (then_exit (then_exit (block_here (then_normal ?_))))
    exact ⟨i2, (Sub.cons rfl (Sub.cons rfl (Sub.cons rfl (Sub.nil _)))), fun w' s => s, hm⟩
 ·
  rintro g' S' ⟨i6, hsub4, hS4, hm⟩
  refine WP.sub hsub4 (WP.weaken hS4 ?_)
  replace hm := (congrFun hk1 i6).symm.trans hm
  refine WP.seq (WP.region ?_)
  refine wq rfl rfl rfl (ov_load_whole (i := 0) Tryz.isAgg24 Tryz.sizeOf24 rfl rfl rfl rfl) ?_
  refine WL.step0 (Runs.free rfl) rfl (os_store (i := 1) (vs := [(.int .i64 i6), (.slice ao1 p_l.length cap1)]) (cs' := [(.int .i64 i6), (.slice ao1 p_l.length cap1)]) Tryz.sizeOf24 rfl rfl rfl rfl rfl rfl rfl rfl rfl ?_)
  refine WL.nil (then_normal (WP.ret ?_))
  obtain rfl := Option.some.inj hm
  refine retQ_ret Tryz.results79 (Res.cell rfl (box_loads (i := 1) Tryz.isAgg24 Tryz.sizeOf24 rfl rfl) Res.nil) rfl (fun w' s => ⟨s.below, ?_⟩)
  exact ⟨ao1, cap1, rfl, h1.mono s.le_newer, hc1⟩

theorem ref14_Parse_con (p_text : (List UInt8)) (w : World) (H : Heap) (hH : Le H (hp w)) (hG : Glob H) (r : (Sequence × Int × Int)) (hm : ref14_Parse p_text = some r) :
  Con Tryz.prog 48 [(mkS p_text)] w H (fun v H' => ∃ (ao1 : Option Addr) (cap1 : Nat), v = (.tuple #[(.agg #[(.int .i64 r.1.actuators), (.slice ao1 r.1.steps.length cap1)]), (.int .i64 r.2.1), (.int .i64 r.2.2)]) ∧ SL H' encStep ao1 r.1.steps ∧ r.1.steps.length ≤ cap1) := by
 unfold ref14_Parse at hm
 refine con_of hH Tryz.func48 rfl 33 Tryz.ntmps48 rfl ?_
 refine WP.seq (WP.region ?_)
 refine WL.step (Runs.free rfl) rfl rfl (os_alloc (cs := [(.int .i64 0), (.slice none 0 0)]) Tryz.zeroValue24 rfl rfl (fun b1 => ?_))
 refine wq rfl rfl rfl (ov_assign rfl rfl) ?_
 refine wq rfl rfl rfl (ov_assign rfl rfl) ?_
 refine WL.nil (then_normal (WP.seq (WP.region ?_)))
 refine wq rfl rfl rfl (ov_move rfl rfl) ?_
 obtain ⟨r1, e1, hm⟩ := bind_some hm
 refine WL.step (Runs.free rfl) rfl rfl (os_con Tryz.call78 rfl rfl (fun w' s => (ref13_Parse_con p_text  w' H s.hold hG r1 e1)) (fun rr1 H1 hle1 hR1 => ?_))
 replace hG := hG.mono hle1
 obtain ⟨ao2, cap2, rfl, h2, hc2⟩ := hR1
 refine wq rfl rfl rfl (ov_move rfl rfl) ?_
 refine wq rfl rfl rfl (ov_extract rfl rfl rfl) ?_
 refine wq rfl rfl rfl (ov_extract rfl rfl rfl) ?_
 refine wq rfl rfl rfl (ov_extract rfl rfl rfl) ?_
 refine wq rfl rfl rfl (ov_assign rfl rfl) ?_
 refine wq rfl rfl rfl (ov_assign rfl rfl) ?_
 refine wq rfl rfl rfl (ov_assign rfl rfl) ?_
 refine WL.nil (then_normal (WP.seq (WP.seq (WP.region ?_))))
 refine wq rfl rfl rfl (ov_move rfl rfl) ?_
 refine wq rfl rfl rfl (ov_neq rfl rfl rfl) ?_
 refine WL.nil (then_normal ?_)
 refine WP.cond rfl (fun hc3 => ?_) (fun hc3 => ?_)
 ·
  replace hm := ite_t hc3 hm
  refine WP.seq (WP.region ?_)
  refine wq rfl rfl rfl (ov_build (r := (.agg #[(.int .i64 0), (.slice none 0 0)])) rfl rfl (fun _ => by kernel_rfl)) ?_
  refine wq rfl rfl rfl (ov_move rfl rfl) ?_
  refine wq rfl rfl rfl (ov_move rfl rfl) ?_
  refine WL.step0 (Runs.free rfl) rfl (os_store (i := 0) (vs := [(.int .i64 0), (.slice none 0 0)]) (cs' := [(.int .i64 0), (.slice none 0 0)]) Tryz.sizeOf24 rfl rfl rfl rfl rfl rfl rfl rfl rfl ?_)
  refine wq rfl rfl rfl (ov_assign rfl rfl) ?_
  refine wq rfl rfl rfl (ov_assign rfl rfl) ?_
  refine WL.nil (then_normal (WP.ret (then_ret ?_)))
  obtain rfl := Option.some.inj hm
  refine retQ_ret Tryz.results48 (Res.cell rfl (box_loads (i := 0) Tryz.isAgg24 Tryz.sizeOf24 rfl rfl) (Res.tmp rfl (Res.tmp rfl Res.nil))) rfl (fun w' s => ⟨s.below, ?_⟩)
  exact ⟨none, 0, rfl, SL.nil _ _ _, Nat.le_refl _⟩
 ·
  replace hm := ite_f hc3 hm
  refine WP.skip (then_normal (WP.seq (WP.seq (WP.region ?_))))
  refine wq rfl rfl rfl (ov_move rfl rfl) ?_
  refine wq rfl rfl rfl (ov_len_slice Tryz.underlying22 rfl rfl) ?_
  refine wq rfl rfl rfl (ov_eql rfl rfl rfl) ?_
  refine WL.nil (then_normal ?_)
  refine WP.cond rfl (fun hc4 => ?_) (fun hc4 => ?_)
  ·
   replace hm := ite_t hc4 hm
   refine WP.seq (WP.region ?_)
   refine wq rfl rfl rfl (ov_build (r := (.agg #[(.int .i64 0), (.slice none 0 0)])) rfl rfl (fun _ => by kernel_rfl)) ?_
   refine WL.step0 (Runs.free rfl) rfl (os_store (i := 0) (vs := [(.int .i64 0), (.slice none 0 0)]) (cs' := [(.int .i64 0), (.slice none 0 0)]) Tryz.sizeOf24 rfl rfl rfl rfl rfl rfl rfl rfl rfl ?_)
   refine wq rfl rfl rfl (ov_assign rfl rfl) ?_
   refine wq rfl rfl rfl (ov_assign rfl rfl) ?_
   refine WL.nil (then_normal (WP.ret (then_ret ?_)))
   obtain rfl := Option.some.inj hm
   refine retQ_ret Tryz.results48 (Res.cell rfl (box_loads (i := 0) Tryz.isAgg24 Tryz.sizeOf24 rfl rfl) (Res.tmp rfl (Res.tmp rfl Res.nil))) rfl (fun w' s => ⟨s.below, ?_⟩)
   exact ⟨none, 0, rfl, SL.nil _ _ _, Nat.le_refl _⟩
  ·
   replace hm := ite_f hc4 hm
   refine WP.skip (then_normal (WP.seq (WP.seq (WP.region ?_))))
   refine wq rfl rfl rfl (ov_move rfl rfl) ?_
   obtain ⟨r2, e2, hm⟩ := bind_some hm
   refine WL.step (Runs.free rfl) rfl rfl (os_con Tryz.call79 rfl rfl (fun w' s => (ref14_Of_con r1.1 ao2 cap2  w' H1 s.hold h2 hc2 hG r2 e2)) (fun rr2 H2 hle2 hR2 => ?_))
   replace h2 := h2.mono hle2
   replace hG := hG.mono hle2
   obtain ⟨ao3, cap3, rfl, h3, hc5⟩ := hR2
   obtain ⟨r3, e3, hm⟩ := bind_some hm
   refine WL.quiet (Runs.free rfl) rfl rfl (oq_con (r := (.int .i64 r3)) Tryz.call31 rfl rfl (fun w' s => ⟨_, (ref14_Check_con r2 ao3 cap3  w' H2 s.hold h3 hc5 hG r3 e3)⟩)) ?_
   refine wq rfl rfl rfl (ov_assign rfl rfl) ?_
   refine WL.nil (then_normal (WP.seq (WP.region ?_)))
   refine wq rfl rfl rfl (ov_move rfl rfl) ?_
   refine wq rfl rfl rfl (ov_neq rfl rfl rfl) ?_
   refine WL.nil (then_normal ?_)
   refine WP.cond rfl (fun hc6 => ?_) (fun hc6 => ?_)
   ·
    replace hm := ite_t hc6 hm
    refine WP.seq (WP.region ?_)
    refine wq rfl rfl rfl (ov_build (r := (.agg #[(.int .i64 0), (.slice none 0 0)])) rfl rfl (fun _ => by kernel_rfl)) ?_
    refine wq rfl rfl rfl (ov_move rfl rfl) ?_
    refine WL.step0 (Runs.free rfl) rfl (os_store (i := 0) (vs := [(.int .i64 0), (.slice none 0 0)]) (cs' := [(.int .i64 0), (.slice none 0 0)]) Tryz.sizeOf24 rfl rfl rfl rfl rfl rfl rfl rfl rfl ?_)
    refine wq rfl rfl rfl (ov_assign rfl rfl) ?_
    refine wq rfl rfl rfl (ov_assign rfl rfl) ?_
    refine WL.nil (then_normal (WP.ret (then_ret ?_)))
    obtain rfl := Option.some.inj hm
    refine retQ_ret Tryz.results48 (Res.cell rfl (box_loads (i := 0) Tryz.isAgg24 Tryz.sizeOf24 rfl rfl) (Res.tmp rfl (Res.tmp rfl Res.nil))) rfl (fun w' s => ⟨s.below, ?_⟩)
    exact ⟨none, 0, rfl, SL.nil _ _ _, Nat.le_refl _⟩
   ·
    replace hm := ite_f hc6 hm
    refine WP.skip (then_normal (WP.seq (WP.region ?_)))
    refine wq rfl rfl rfl (ov_move rfl rfl) ?_
    obtain ⟨r4, e4, hm⟩ := bind_some hm
    refine WL.step (Runs.free rfl) rfl rfl (os_con Tryz.call79 rfl rfl (fun w' s => (ref14_Of_con r1.1 ao2 cap2  w' H2 s.hold h2 hc2 hG r4 e4)) (fun rr3 H3 hle3 hR3 => ?_))
    replace h2 := h2.mono hle3
    replace h3 := h3.mono hle3
    replace hG := hG.mono hle3
    obtain ⟨ao4, cap4, rfl, h4, hc7⟩ := hR3
    refine WL.step0 (Runs.free rfl) rfl (os_store (i := 0) (vs := [(.int .i64 r4.actuators), (.slice ao4 r4.steps.length cap4)]) (cs' := [(.int .i64 r4.actuators), (.slice ao4 r4.steps.length cap4)]) Tryz.sizeOf24 rfl rfl rfl rfl rfl rfl rfl rfl rfl ?_)
    refine wq rfl rfl rfl (ov_assign rfl rfl) ?_
    refine wq rfl rfl rfl (ov_assign rfl rfl) ?_
    refine WL.nil (then_normal (WP.ret ?_))
    obtain rfl := Option.some.inj hm
    refine retQ_ret Tryz.results48 (Res.cell rfl (box_loads (i := 0) Tryz.isAgg24 Tryz.sizeOf24 rfl rfl) (Res.tmp rfl (Res.tmp rfl Res.nil))) rfl (fun w' s => ⟨s.below, ?_⟩)
    exact ⟨ao4, cap4, rfl, h4.mono s.le_newer, hc7⟩

end Go.Proofs.YtbhcojijafbdiaaGreatDoor.W
