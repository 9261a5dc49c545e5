/- The walks. Written by our own program gen.py; Lean checks it. -/
import Derived.Test.YtpocodofhkaddaaGreatDoorPlain
import Derived.Test.YtpocodofhkaddaaGreatDoorEqs
import Derived.Test.YtpocodofhkaddaaGreatDoorProg
import Derived.Test.YtpocodofhkaddaaGreatDoorExt
import Derived.Test.YtpocodofhkaddaaGreatDoorClone
import Derived.Test.YtpocodofhkaddaaGreatDoorCloneE
import Derived.Test.YtpocodofhkaddaaGreatDoorInsert
import Derived.Test.YtpocodofhkaddaaGreatDoorBuild
import Derived.Test.YtpocodofhkaddaaGreatDoorWalk0
import Derived.Test.YtpocodofhkaddaaGreatDoorWalk2
import Derived.Test.YtpocodofhkaddaaGreatDoorWalk3
import Derived.Test.YtpocodofhkaddaaGreatDoorWalk4
import Derived.Test.YtpocodofhkaddaaGreatDoorWalk5
import Derived.Test.YtpocodofhkaddaaGreatDoorWalk6
set_option linter.unusedVariables false
set_option maxRecDepth 100000
set_option maxHeartbeats 4000000
namespace Go.Proofs.YtpocodofhkaddaaGreatDoor.W
open Go Go.RowKit
theorem top_TopLogsGrow_con (p_l : (List Entry)) (p_x : Entry) (ao1 : Option Addr) (cap1 : Nat) (w : World) (H : Heap) (hH : Le H (hp w)) (h1 : SL H encEntry ao1 p_l) (hc1 : p_l.length ≤ cap1) (hG : Glob H) (r : Bool) (hm : top_TopLogsGrow p_l p_x = some r) :
  Con Tryz.prog 3 [(.slice ao1 p_l.length cap1), (.agg #[(.int .i64 p_x.kind), (mkS p_x.name), (.int .i64 p_x.count), (.int .i64 p_x.strokes)])] w H (fun v _ => v = (.bool r)) := by
 unfold top_TopLogsGrow at hm
 refine con_of hH Tryz.func3 rfl 93 Tryz.ntmps3 rfl ?_
 refine WP.seq (WP.region ?_)
 refine WL.step (Runs.free rfl) rfl rfl (os_box (cs := [(.int .i64 p_x.kind), (mkS p_x.name), (.int .i64 p_x.count), (.int .i64 p_x.strokes)]) rfl rfl rfl (fun b1 => ?_))
 refine wq rfl rfl rfl (ov_assign rfl rfl) ?_
 refine WL.nil (then_normal (WP.seq (WP.region ?_)))
 refine wq rfl rfl rfl (ov_move rfl rfl) ?_
 obtain ⟨r1, e1, hm⟩ := bind_some hm
 refine WL.step (Runs.free rfl) rfl rfl (os_con Tryz.call5 rfl rfl (fun w' s => (top_runEntries_con p_l ao1 cap1  w' H s.hold h1 hc1 hG r1 e1)) (fun rr1 H1 hle1 hR1 => ?_))
 replace h1 := h1.mono hle1
 replace hG := hG.mono hle1
 obtain ⟨ao2, cap2, rfl, h2, hc2⟩ := hR1
 refine wq rfl rfl rfl (ov_move rfl rfl) ?_
 refine wq rfl rfl rfl (ov_extract rfl rfl rfl) ?_
 refine wq rfl rfl rfl (ov_extract rfl rfl rfl) ?_
 refine wq rfl rfl rfl (ov_assign rfl rfl) ?_
 refine wq rfl rfl rfl (ov_assign rfl rfl) ?_
 refine WL.nil (then_normal (WP.seq (WP.seq (WP.region ?_))))
 refine wq rfl rfl rfl (ov_move rfl rfl) ?_
 refine wq rfl rfl rfl (ov_not rfl rfl) ?_
 refine wq rfl rfl rfl (ov_move rfl rfl) ?_
 refine WL.cut_bool 5 29 (x := ((!r1.2) || (decide ((p_x.name.length : Int) > 60)))) ?_ ?_
 ·
  rcases Bool.eq_false_or_eq_true (!r1.2) with hc3 | hc3
  ·
   skip
   refine WL.idle (Idle.no rfl rfl rfl hc3) rfl rfl ?_
   refine WL.idle (Idle.no rfl rfl rfl hc3) rfl rfl ?_
   refine WL.idle (Idle.no rfl rfl rfl hc3) rfl rfl ?_
   refine WL.idle (Idle.no rfl rfl rfl hc3) rfl rfl ?_
   refine wq rfl rfl rfl (ov_pick_true rfl (guard_eq rfl hc3) rfl) ?_
   exact WL.nil ⟨Sub.cons' rfl (congrArg Value.bool (orT hc3)) (Sub.skip rfl (Sub.skip rfl (Sub.skip rfl (Sub.skip rfl (Sub.skip rfl (Sub.refl _)))))), fun _ s => s⟩
  ·
   skip
   refine WL.quiet (Runs.yes rfl rfl rfl hc3) rfl rfl (OV.quiet (ov_fieldAddr Tryz.underlying24 rfl rfl rfl Tryz.sizeOf9 rfl rfl)) ?_
   refine WL.quiet (Runs.yes rfl rfl rfl hc3) rfl rfl (OV.quiet (ov_load_box (i := 0) Tryz.isAgg9 rfl rfl rfl rfl)) ?_
   refine WL.quiet (Runs.yes rfl rfl rfl hc3) rfl rfl (OV.quiet (ov_len_string Tryz.underlying9 rfl rfl)) ?_
   refine WL.quiet (Runs.yes rfl rfl rfl hc3) rfl rfl (OV.quiet (ov_gtr rfl rfl rfl)) ?_
   refine wq rfl rfl rfl (ov_pick_false rfl (guard_eq rfl hc3) rfl) ?_
   exact WL.nil ⟨Sub.cons' rfl (congrArg Value.bool (orF hc3)) (Sub.skip rfl (Sub.skip rfl (Sub.skip rfl (Sub.skip rfl (Sub.skip rfl (Sub.refl _)))))), fun _ s => s⟩
 refine WL.nil (then_normal ?_)
 refine WP.cond rfl (fun hc4 => ?_) (fun hc4 => ?_)
 ·
  replace hm := ite_t hc4 hm
  refine WP.seq (WP.region ?_)
  obtain ⟨r2, e2, hm⟩ := bind_some hm
  refine WL.quiet (Runs.free rfl) rfl rfl (oq_con (r := (.bool r2)) Tryz.call6 rfl rfl (fun w' s => ⟨_, (top_runLog_con   w' H1 s.hold hG r2 e2)⟩)) ?_
  refine wq rfl rfl rfl (ov_assign rfl rfl) ?_
  refine WL.nil (then_normal (WP.ret (then_ret ?_)))
  obtain rfl := Option.some.inj hm
  refine retQ_ret Tryz.results3 (Res.tmp rfl Res.nil) rfl (fun w' s => ⟨s.below, ?_⟩)
  exact rfl
 ·
  replace hm := ite_f hc4 hm
  refine WP.skip (then_normal (WP.seq (WP.seq (WP.region ?_))))
  refine wq rfl rfl rfl (ov_move rfl rfl) ?_
  obtain ⟨r3, e3, hm⟩ := bind_some hm
  refine WL.step (Runs.free rfl) rfl rfl (os_con Tryz.call7 rfl rfl (fun w' s => (ref58_Run_con r1.1 ao2 cap2  w' H1 s.hold h2 hc2 hG r3 e3)) (fun rr2 H2 hle2 hR2 => ?_))
  replace h1 := h1.mono hle2
  replace h2 := h2.mono hle2
  replace hG := hG.mono hle2
  obtain ⟨ao3, cap3, rfl, h3, hc5⟩ := hR2
  refine wq rfl rfl rfl (ov_move rfl rfl) ?_
  refine wq rfl rfl rfl (ov_extract rfl rfl rfl) ?_
  refine wq rfl rfl rfl (ov_extract rfl rfl rfl) ?_
  refine wq rfl rfl rfl (ov_extract rfl rfl rfl) ?_
  refine WL.step (Runs.free rfl) rfl rfl (os_alloc (cs := [(.slice none 0 0), (.int .i64 0)]) Tryz.zeroValue31 rfl rfl (fun b2 => ?_))
  refine WL.step0 (Runs.free rfl) rfl (os_store (i := 0) (vs := [(.slice ao3 r3.1.items.length cap3), (.int .i64 r3.1.cycles)]) (cs' := [(.slice ao3 r3.1.items.length cap3), (.int .i64 r3.1.cycles)]) Tryz.sizeOf31 rfl rfl rfl rfl rfl rfl rfl rfl rfl ?_)
  refine wq rfl rfl rfl (ov_assign rfl rfl) ?_
  refine wq rfl rfl rfl (ov_assign rfl rfl) ?_
  refine WL.nil (then_normal (WP.seq (WP.region ?_)))
  refine wq rfl rfl rfl (ov_move rfl rfl) ?_
  refine wq rfl rfl rfl (ov_neq rfl rfl rfl) ?_
  refine WL.nil (then_normal ?_)
  refine WP.cond rfl (fun hc6 => ?_) (fun hc6 => ?_)
  ·
   replace hm := ite_t hc6 hm
   refine WP.seq (WP.region ?_)
   obtain ⟨r4, e4, hm⟩ := bind_some hm
   refine WL.quiet (Runs.free rfl) rfl rfl (oq_con (r := (.bool r4)) Tryz.call6 rfl rfl (fun w' s => ⟨_, (top_runLog_con   w' H2 s.hold hG r4 e4)⟩)) ?_
   refine wq rfl rfl rfl (ov_assign rfl rfl) ?_
   refine WL.nil (then_normal (WP.ret (then_ret ?_)))
   obtain rfl := Option.some.inj hm
   refine retQ_ret Tryz.results3 (Res.tmp rfl Res.nil) rfl (fun w' s => ⟨s.below, ?_⟩)
   exact rfl
  ·
   replace hm := ite_f hc6 hm
   refine WP.skip (then_normal (WP.seq (WP.region ?_)))
   refine wq rfl rfl rfl (ov_move rfl rfl) ?_
   obtain ⟨r5, e5, hm⟩ := bind_some hm
   refine WL.step (Runs.free rfl) rfl rfl (os_con Tryz.call8 rfl rfl (fun w' s => (journal_Run_con p_l ao1 cap1  w' H2 s.hold h1 hc1 hG r5 e5)) (fun rr3 H3 hle3 hR3 => ?_))
   replace h1 := h1.mono hle3
   replace h2 := h2.mono hle3
   replace h3 := h3.mono hle3
   replace hG := hG.mono hle3
   obtain ⟨ao4, cap4, rfl, h4, hc7⟩ := hR3
   refine wq rfl rfl rfl (ov_move rfl rfl) ?_
   refine wq rfl rfl rfl (ov_extract rfl rfl rfl) ?_
   refine wq rfl rfl rfl (ov_extract rfl rfl rfl) ?_
   refine wq rfl rfl rfl (ov_extract rfl rfl rfl) ?_
   refine WL.step (Runs.free rfl) rfl rfl (os_alloc (cs := [(.slice none 0 0), (.int .i64 0)]) Tryz.zeroValue36 rfl rfl (fun b3 => ?_))
   refine WL.step0 (Runs.free rfl) rfl (os_store (i := 0) (vs := [(.slice ao4 r5.1.items.length cap4), (.int .i64 r5.1.cycles)]) (cs' := [(.slice ao4 r5.1.items.length cap4), (.int .i64 r5.1.cycles)]) Tryz.sizeOf36 rfl rfl rfl rfl rfl rfl rfl rfl rfl ?_)
   refine wq rfl rfl rfl (ov_assign rfl rfl) ?_
   refine wq rfl rfl rfl (ov_assign rfl rfl) ?_
   refine WL.nil (then_normal (WP.seq (WP.seq (WP.region ?_))))
   refine wq rfl rfl rfl (ov_move rfl rfl) ?_
   refine wq rfl rfl rfl (ov_neq rfl rfl rfl) ?_
   refine wq rfl rfl rfl (ov_move rfl rfl) ?_
   obtain ⟨c1, e6, hm⟩ := bind_some hm
   refine WL.cut_bool 4 52 (x := c1) ?_ ?_
   ·
    rcases Bool.eq_false_or_eq_true (r5.2.2 != 0) with hc8 | hc8
    ·
     skip
     replace hm := ite_t hc8 e6
     refine WL.idle (Idle.no rfl rfl rfl hc8) rfl rfl ?_
     refine WL.idle (Idle.no rfl rfl rfl hc8) rfl rfl ?_
     refine WL.idle (Idle.no rfl rfl rfl hc8) rfl rfl ?_
     refine wq rfl rfl rfl (ov_pick_true rfl (guard_eq rfl hc8) rfl) ?_
     exact WL.nil ⟨Sub.cons' rfl (congrArg Value.bool (Option.some.inj hm)) (Sub.skip rfl (Sub.skip rfl (Sub.skip rfl (Sub.skip rfl (Sub.refl _))))), fun _ s => s⟩
    ·
     skip
     replace hm := ite_f hc8 e6
     refine WL.quiet (Runs.yes rfl rfl rfl hc8) rfl rfl (OV.quiet (ov_load_whole (i := 0) Tryz.isAgg36 Tryz.sizeOf36 rfl rfl rfl rfl)) ?_
     obtain ⟨r6, e7, hm⟩ := bind_some hm
     refine WL.quiet (Runs.yes rfl rfl rfl hc8) rfl rfl (oq_con (r := (.int .i64 r6)) Tryz.call9 rfl rfl (fun w' s => ⟨_, (journal_Check_con r5.1 ao4 cap4  w' H3 s.hold h4 hc7 hG r6 e7)⟩)) ?_
     refine WL.quiet (Runs.yes rfl rfl rfl hc8) rfl rfl (OV.quiet (ov_neq rfl rfl rfl)) ?_
     refine wq rfl rfl rfl (ov_pick_false rfl (guard_eq rfl hc8) rfl) ?_
     exact WL.nil ⟨Sub.cons' rfl (congrArg Value.bool (Option.some.inj hm)) (Sub.skip rfl (Sub.skip rfl (Sub.skip rfl (Sub.skip rfl (Sub.refl _))))), fun _ s => s⟩
   refine WL.nil (then_normal ?_)
   refine WP.cond rfl (fun hc9 => ?_) (fun hc9 => ?_)
   ·
    replace hm := ite_t hc9 hm
    refine WP.seq (WP.region ?_)
    refine wq rfl rfl rfl (ov_assign rfl rfl) ?_
    refine WL.nil (then_normal (WP.ret (then_ret ?_)))
    obtain rfl := Option.some.inj hm
    refine retQ_ret Tryz.results3 (Res.tmp rfl Res.nil) rfl (fun w' s => ⟨s.below, ?_⟩)
    exact rfl
   ·
    replace hm := ite_f hc9 hm
    refine WP.skip (then_normal (WP.seq (WP.region ?_)))
    refine wq rfl rfl rfl (ov_load_whole (i := 0) Tryz.isAgg36 Tryz.sizeOf36 rfl rfl rfl rfl) ?_
    refine wq rfl rfl rfl (ov_load_whole (i := 2) Tryz.isAgg24 Tryz.sizeOf24 rfl rfl rfl rfl) ?_
    obtain ⟨r7, e8, hm⟩ := bind_some hm
    refine WL.step (Runs.free rfl) rfl rfl (os_con Tryz.call10 rfl rfl (fun w' s => (journal_Do_con r5.1 p_x ao4 cap4  w' H3 s.hold h4 hc7 hG r7 e8)) (fun rr4 H4 hle4 hR4 => ?_))
    replace h1 := h1.mono hle4
    replace h2 := h2.mono hle4
    replace h3 := h3.mono hle4
    replace h4 := h4.mono hle4
    replace hG := hG.mono hle4
    obtain ⟨ao5, cap5, rfl, h5, hc10⟩ := hR4
    refine wq rfl rfl rfl (ov_move rfl rfl) ?_
    refine wq rfl rfl rfl (ov_extract rfl rfl rfl) ?_
    refine wq rfl rfl rfl (ov_extract rfl rfl rfl) ?_
    refine WL.step (Runs.free rfl) rfl rfl (os_alloc (cs := [(.slice none 0 0), (.int .i64 0)]) Tryz.zeroValue36 rfl rfl (fun b4 => ?_))
    refine WL.step0 (Runs.free rfl) rfl (os_store (i := 0) (vs := [(.slice ao5 r7.1.items.length cap5), (.int .i64 r7.1.cycles)]) (cs' := [(.slice ao5 r7.1.items.length cap5), (.int .i64 r7.1.cycles)]) Tryz.sizeOf36 rfl rfl rfl rfl rfl rfl rfl rfl rfl ?_)
    refine wq rfl rfl rfl (ov_assign rfl rfl) ?_
    refine WL.nil (then_normal ?_)
    obtain ⟨k1, hk1, hm⟩ := joinK_some hm
    refine WP.seq_join (fun g' S' => ∃ (H25 : Heap) (b19 : Nat) (i1 : Int) (i2 : Int) (l14 : (List Item)) (ao29 : Option Addr) (cap29 : Nat) (i3 : Int), Le H4 H25 ∧ SL H25 encItem ao29 l14 ∧ l14.length ≤ cap29 ∧ Sub [(0, (.slice ao1 p_l.length cap1)), (12, (.int .i64 r7.2)), (13, (pB b4 0)), (14, (pB b19 0)), (15, (.int .i64 i1)), (16, (.int .i64 i2)), (1000000007, (.bool false))] g' ∧ (∀ w', S' w' → St w H [.blk b19 36 [(.slice ao29 l14.length cap29), (.int .i64 i3)], .blk b4 36 [(.slice ao5 r7.1.items.length cap5), (.int .i64 r7.1.cycles)]] H25 w') ∧ k1 i1 i2 l14 i3 = some r) ?_ ?_
    ·
     skip
     refine WP.region_any (S₀ := St w H [.blk b4 36 [(.slice ao5 r7.1.items.length cap5), (.int .i64 r7.1.cycles)], .blk b3 36 [(.slice ao4 r5.1.items.length cap4), (.int .i64 r5.1.cycles)], .blk b2 31 [(.slice ao3 r3.1.items.length cap3), (.int .i64 r3.1.cycles)], .blk b1 24 [(.int .i64 p_x.kind), (mkS p_x.name), (.int .i64 p_x.count), (.int .i64 p_x.strokes)]] H4) 14 rfl (by kernel_rfl) (fun w' s => s) (fun _ s => s.drew) ?_
     refine tq (i := 0) rfl (by kernel_rfl) rfl rfl rfl (ov_move rfl rfl) ?_
     refine tq (i := 2) rfl (by kernel_rfl) rfl rfl rfl (ov_load_whole (i := 3) Tryz.isAgg24 Tryz.sizeOf24 rfl rfl rfl rfl) ?_
     refine AL.any (rs := [1, 3, 10]) (by kernel_rfl) (by decide) ?_
     refine ALs.cons (i := 1) rfl (Runs.free rfl) rfl rfl ?_ ?_
     ·
      skip
      obtain ⟨l1, e9, hm⟩ := bind_some hm
      refine os_cloneE rfl rfl h1 hc1 e9 (fun ao6 cap6 xs1 rl1 => ?_)
      refine ⟨fun w' s => (s.select [1, 2, 3, 4] (by decide) rfl), ?_⟩
      refine AL.any (rs := [3, 10]) (by kernel_rfl) (by decide) ?_
      refine ALs.cons (i := 3) rfl (Runs.free rfl) rfl rfl ?_ ?_
      ·
       skip
       have rl2 : RL H4 encEntry ([p_x] : List Entry) [(.int .i64 p_x.kind), (mkS p_x.name), (.int .i64 p_x.count), (.int .i64 p_x.strokes)] := RL.cons (cs := [(.int .i64 p_x.kind), (mkS p_x.name), (.int .i64 p_x.count), (.int .i64 p_x.strokes)]) (xs := []) rfl (RL.nil _ _)
       refine os_buildSlice (cs := [(.int .i64 p_x.kind), (mkS p_x.name), (.int .i64 p_x.count), (.int .i64 p_x.strokes)]) (E := 24) (sz := 4) rfl rfl (fun _ => by kernel_rfl) rfl (by decide) (fun b5 => ?_)
       refine ⟨fun w' s => (s.select [2, 3, 4, 5] (by decide) rfl), ?_⟩
       refine AL.any (rs := [4, 10]) (by kernel_rfl) (by decide) ?_
       refine ALs.cons (i := 4) rfl (Runs.free rfl) rfl rfl ?_ ?_
       ·
        skip
        obtain ⟨l2, e10, hm⟩ := bind_some hm
        refine os_app (i := 1) (j := 0) (En := encEntry) (xs := xs1) (ys := [(.int .i64 p_x.kind), (mkS p_x.name), (.int .i64 p_x.count), (.int .i64 p_x.strokes)]) Tryz.underlying22 (by kernel_rfl : (Tryz.prog.info? 24).map (fun i => (i.zero, i.size, i.bytes)) = some (some (.agg #[(.int .i64 0), (mkS []), (.int .i64 0), (.int .i64 0)]), (encEntry).size, 40)) rfl (by decide) rfl rfl rfl rfl rfl rfl rl1 rl2 e10 (fun ao7 cap7 rl3 => ?_)
        refine ⟨fun w' s => (s.select [2, 3, 4, 5] (by decide) rfl), ?_⟩
        refine AL.any (rs := [5, 10]) (by kernel_rfl) (by decide) ?_
        refine ALs.cons (i := 5) rfl (Runs.free rfl) rfl rfl ?_ ?_
        ·
         skip
         refine OS.weaken (fun _ s => s.select [1, 0, 2, 3, 4, 5] (by decide) rfl) ?_
         refine OS.held rl3 (fun H5 hc11 hle5 h6 => ?_)
         replace h1 := h1.mono hle5
         replace h2 := h2.mono hle5
         replace h3 := h3.mono hle5
         replace h4 := h4.mono hle5
         replace h5 := h5.mono hle5
         replace rl2 := rl2.mono hle5
         replace hG := hG.mono hle5
         obtain ⟨r8, e11, hm⟩ := bind_some hm
         refine os_con Tryz.call8 rfl rfl (fun w' s => (journal_Run_con (p_l ++ ([p_x] : List Entry)) ao7 cap7  w' H5 s.hold h6 hc11 hG r8 e11)) (fun rr5 H6 hle6 hR5 => ?_)
         replace h1 := h1.mono hle6
         replace h2 := h2.mono hle6
         replace h3 := h3.mono hle6
         replace h4 := h4.mono hle6
         replace h5 := h5.mono hle6
         replace h6 := h6.mono hle6
         replace rl2 := rl2.mono hle6
         replace hG := hG.mono hle6
         obtain ⟨ao8, cap8, rfl, h7, hc12⟩ := hR5
         refine ⟨fun w' s => ((s.select [1, 2, 3, 4] (by decide) rfl).heap (hle5.trans hle6)), ?_⟩
         refine tq (i := 6) rfl (by kernel_rfl) rfl rfl rfl (ov_move rfl rfl) ?_
         refine tq (i := 7) rfl (by kernel_rfl) rfl rfl rfl (ov_extract rfl rfl rfl) ?_
         refine tq (i := 8) rfl (by kernel_rfl) rfl rfl rfl (ov_extract rfl rfl rfl) ?_
         refine tq (i := 9) rfl (by kernel_rfl) rfl rfl rfl (ov_extract rfl rfl rfl) ?_
         refine AL.any (rs := [10]) (by kernel_rfl) (by decide) ?_
         refine ALs.cons (i := 10) rfl (Runs.free rfl) rfl rfl ?_ ?_
         ·
          skip
          refine os_alloc (cs := [(.slice none 0 0), (.int .i64 0)]) Tryz.zeroValue36 rfl rfl (fun b6 => ?_)
          refine ⟨fun w' s => ((s.select [2, 3, 4, 5] (by decide) rfl).heap (hle5.trans hle6)), ?_⟩
          refine AL.any (rs := [11]) (by kernel_rfl) (by decide) ?_
          refine ALs.cons0 (i := 11) rfl (Runs.free rfl) rfl ?_ ?_
          ·
           skip
           refine os_store (i := 0) (vs := [(.slice ao8 r8.1.items.length cap8), (.int .i64 r8.1.cycles)]) (cs' := [(.slice ao8 r8.1.items.length cap8), (.int .i64 r8.1.cycles)]) Tryz.sizeOf36 rfl rfl rfl rfl rfl rfl rfl rfl rfl ?_
           refine ⟨fun w' s => ((s.select [2, 3, 4, 5] (by decide) rfl).heap (hle5.trans hle6)), ?_⟩
           refine tq (i := 12) rfl (by kernel_rfl) rfl rfl rfl (ov_assign rfl rfl) ?_
           refine tq (i := 13) rfl (by kernel_rfl) rfl rfl rfl (ov_assign rfl rfl) ?_
           refine AL.done (by kernel_rfl) ?_
           refine then_normal ?_
           exact ⟨H6, b6, r8.2.1, r8.2.2, r8.1.items, ao8, cap8, r8.1.cycles, (hle5.trans hle6), h7, hc12, (Sub.cons rfl (Sub.cons rfl (Sub.cons rfl (Sub.cons rfl (Sub.cons rfl (Sub.cons rfl (Sub.cons rfl (Sub.nil _)))))))), fun w' s => (s.select [0, 2] (by decide) rfl), hm⟩
          exact ALs.nil
         exact ALs.nil
        refine ALs.cons (i := 10) rfl (Runs.free rfl) rfl rfl ?_ ?_
        ·
         skip
         refine os_alloc (cs := [(.slice none 0 0), (.int .i64 0)]) Tryz.zeroValue36 rfl rfl (fun b7 => ?_)
         refine ⟨fun w' s => (s.select [3, 4, 5, 6] (by decide) rfl), ?_⟩
         refine AL.any (rs := [5]) (by kernel_rfl) (by decide) ?_
         refine ALs.cons (i := 5) rfl (Runs.free rfl) rfl rfl ?_ ?_
         ·
          skip
          refine OS.weaken (fun _ s => s.select [2, 0, 1, 3, 4, 5, 6] (by decide) rfl) ?_
          refine OS.held rl3 (fun H7 hc13 hle7 h8 => ?_)
          replace h1 := h1.mono hle7
          replace h2 := h2.mono hle7
          replace h3 := h3.mono hle7
          replace h4 := h4.mono hle7
          replace h5 := h5.mono hle7
          replace rl2 := rl2.mono hle7
          replace hG := hG.mono hle7
          obtain ⟨r9, e12, hm⟩ := bind_some hm
          refine os_con Tryz.call8 rfl rfl (fun w' s => (journal_Run_con (p_l ++ ([p_x] : List Entry)) ao7 cap7  w' H7 s.hold h8 hc13 hG r9 e12)) (fun rr6 H8 hle8 hR6 => ?_)
          replace h1 := h1.mono hle8
          replace h2 := h2.mono hle8
          replace h3 := h3.mono hle8
          replace h4 := h4.mono hle8
          replace h5 := h5.mono hle8
          replace h8 := h8.mono hle8
          replace rl2 := rl2.mono hle8
          replace hG := hG.mono hle8
          obtain ⟨ao9, cap9, rfl, h9, hc14⟩ := hR6
          refine ⟨fun w' s => ((s.select [2, 3, 4, 5] (by decide) rfl).heap (hle7.trans hle8)), ?_⟩
          refine tq (i := 6) rfl (by kernel_rfl) rfl rfl rfl (ov_move rfl rfl) ?_
          refine tq (i := 7) rfl (by kernel_rfl) rfl rfl rfl (ov_extract rfl rfl rfl) ?_
          refine tq (i := 8) rfl (by kernel_rfl) rfl rfl rfl (ov_extract rfl rfl rfl) ?_
          refine tq (i := 9) rfl (by kernel_rfl) rfl rfl rfl (ov_extract rfl rfl rfl) ?_
          refine AL.any (rs := [11]) (by kernel_rfl) (by decide) ?_
          refine ALs.cons0 (i := 11) rfl (Runs.free rfl) rfl ?_ ?_
          ·
           skip
           refine os_store (i := 0) (vs := [(.slice ao9 r9.1.items.length cap9), (.int .i64 r9.1.cycles)]) (cs' := [(.slice ao9 r9.1.items.length cap9), (.int .i64 r9.1.cycles)]) Tryz.sizeOf36 rfl rfl rfl rfl rfl rfl rfl rfl rfl ?_
           refine ⟨fun w' s => ((s.select [2, 3, 4, 5] (by decide) rfl).heap (hle7.trans hle8)), ?_⟩
           refine tq (i := 12) rfl (by kernel_rfl) rfl rfl rfl (ov_assign rfl rfl) ?_
           refine tq (i := 13) rfl (by kernel_rfl) rfl rfl rfl (ov_assign rfl rfl) ?_
           refine AL.done (by kernel_rfl) ?_
           refine then_normal ?_
           exact ⟨H8, b7, r9.2.1, r9.2.2, r9.1.items, ao9, cap9, r9.1.cycles, (hle7.trans hle8), h9, hc14, (Sub.cons rfl (Sub.cons rfl (Sub.cons rfl (Sub.cons rfl (Sub.cons rfl (Sub.cons rfl (Sub.cons rfl (Sub.nil _)))))))), fun w' s => (s.select [0, 2] (by decide) rfl), hm⟩
          exact ALs.nil
         exact ALs.nil
        exact ALs.nil
       refine ALs.cons (i := 10) rfl (Runs.free rfl) rfl rfl ?_ ?_
       ·
        skip
        refine os_alloc (cs := [(.slice none 0 0), (.int .i64 0)]) Tryz.zeroValue36 rfl rfl (fun b8 => ?_)
        refine ⟨fun w' s => (s.select [3, 4, 5, 6] (by decide) rfl), ?_⟩
        refine AL.any (rs := [4]) (by kernel_rfl) (by decide) ?_
        refine ALs.cons (i := 4) rfl (Runs.free rfl) rfl rfl ?_ ?_
        ·
         skip
         obtain ⟨l3, e13, hm⟩ := bind_some hm
         refine os_app (i := 2) (j := 1) (En := encEntry) (xs := xs1) (ys := [(.int .i64 p_x.kind), (mkS p_x.name), (.int .i64 p_x.count), (.int .i64 p_x.strokes)]) Tryz.underlying22 (by kernel_rfl : (Tryz.prog.info? 24).map (fun i => (i.zero, i.size, i.bytes)) = some (some (.agg #[(.int .i64 0), (mkS []), (.int .i64 0), (.int .i64 0)]), (encEntry).size, 40)) rfl (by decide) rfl rfl rfl rfl rfl rfl rl1 rl2 e13 (fun ao10 cap10 rl4 => ?_)
         refine ⟨fun w' s => (s.select [3, 4, 5, 6] (by decide) rfl), ?_⟩
         refine AL.any (rs := [5]) (by kernel_rfl) (by decide) ?_
         refine ALs.cons (i := 5) rfl (Runs.free rfl) rfl rfl ?_ ?_
         ·
          skip
          refine OS.weaken (fun _ s => s.select [2, 0, 1, 3, 4, 5, 6] (by decide) rfl) ?_
          refine OS.held rl4 (fun H9 hc15 hle9 h10 => ?_)
          replace h1 := h1.mono hle9
          replace h2 := h2.mono hle9
          replace h3 := h3.mono hle9
          replace h4 := h4.mono hle9
          replace h5 := h5.mono hle9
          replace rl2 := rl2.mono hle9
          replace hG := hG.mono hle9
          obtain ⟨r10, e14, hm⟩ := bind_some hm
          refine os_con Tryz.call8 rfl rfl (fun w' s => (journal_Run_con (p_l ++ ([p_x] : List Entry)) ao10 cap10  w' H9 s.hold h10 hc15 hG r10 e14)) (fun rr7 H10 hle10 hR7 => ?_)
          replace h1 := h1.mono hle10
          replace h2 := h2.mono hle10
          replace h3 := h3.mono hle10
          replace h4 := h4.mono hle10
          replace h5 := h5.mono hle10
          replace h10 := h10.mono hle10
          replace rl2 := rl2.mono hle10
          replace hG := hG.mono hle10
          obtain ⟨ao11, cap11, rfl, h11, hc16⟩ := hR7
          refine ⟨fun w' s => ((s.select [2, 3, 4, 5] (by decide) rfl).heap (hle9.trans hle10)), ?_⟩
          refine tq (i := 6) rfl (by kernel_rfl) rfl rfl rfl (ov_move rfl rfl) ?_
          refine tq (i := 7) rfl (by kernel_rfl) rfl rfl rfl (ov_extract rfl rfl rfl) ?_
          refine tq (i := 8) rfl (by kernel_rfl) rfl rfl rfl (ov_extract rfl rfl rfl) ?_
          refine tq (i := 9) rfl (by kernel_rfl) rfl rfl rfl (ov_extract rfl rfl rfl) ?_
          refine AL.any (rs := [11]) (by kernel_rfl) (by decide) ?_
          refine ALs.cons0 (i := 11) rfl (Runs.free rfl) rfl ?_ ?_
          ·
           skip
           refine os_store (i := 0) (vs := [(.slice ao11 r10.1.items.length cap11), (.int .i64 r10.1.cycles)]) (cs' := [(.slice ao11 r10.1.items.length cap11), (.int .i64 r10.1.cycles)]) Tryz.sizeOf36 rfl rfl rfl rfl rfl rfl rfl rfl rfl ?_
           refine ⟨fun w' s => ((s.select [2, 3, 4, 5] (by decide) rfl).heap (hle9.trans hle10)), ?_⟩
           refine tq (i := 12) rfl (by kernel_rfl) rfl rfl rfl (ov_assign rfl rfl) ?_
           refine tq (i := 13) rfl (by kernel_rfl) rfl rfl rfl (ov_assign rfl rfl) ?_
           refine AL.done (by kernel_rfl) ?_
           refine then_normal ?_
           exact ⟨H10, b8, r10.2.1, r10.2.2, r10.1.items, ao11, cap11, r10.1.cycles, (hle9.trans hle10), h11, hc16, (Sub.cons rfl (Sub.cons rfl (Sub.cons rfl (Sub.cons rfl (Sub.cons rfl (Sub.cons rfl (Sub.cons rfl (Sub.nil _)))))))), fun w' s => (s.select [0, 2] (by decide) rfl), hm⟩
          exact ALs.nil
         exact ALs.nil
        exact ALs.nil
       exact ALs.nil
      refine ALs.cons (i := 10) rfl (Runs.free rfl) rfl rfl ?_ ?_
      ·
       skip
       refine os_alloc (cs := [(.slice none 0 0), (.int .i64 0)]) Tryz.zeroValue36 rfl rfl (fun b9 => ?_)
       refine ⟨fun w' s => (s.select [2, 3, 4, 5] (by decide) rfl), ?_⟩
       refine AL.any (rs := [3]) (by kernel_rfl) (by decide) ?_
       refine ALs.cons (i := 3) rfl (Runs.free rfl) rfl rfl ?_ ?_
       ·
        skip
        have rl5 : RL H4 encEntry ([p_x] : List Entry) [(.int .i64 p_x.kind), (mkS p_x.name), (.int .i64 p_x.count), (.int .i64 p_x.strokes)] := RL.cons (cs := [(.int .i64 p_x.kind), (mkS p_x.name), (.int .i64 p_x.count), (.int .i64 p_x.strokes)]) (xs := []) rfl (RL.nil _ _)
        refine os_buildSlice (cs := [(.int .i64 p_x.kind), (mkS p_x.name), (.int .i64 p_x.count), (.int .i64 p_x.strokes)]) (E := 24) (sz := 4) rfl rfl (fun _ => by kernel_rfl) rfl (by decide) (fun b10 => ?_)
        refine ⟨fun w' s => (s.select [3, 4, 5, 6] (by decide) rfl), ?_⟩
        refine AL.any (rs := [4]) (by kernel_rfl) (by decide) ?_
        refine ALs.cons (i := 4) rfl (Runs.free rfl) rfl rfl ?_ ?_
        ·
         skip
         obtain ⟨l4, e15, hm⟩ := bind_some hm
         refine os_app (i := 2) (j := 0) (En := encEntry) (xs := xs1) (ys := [(.int .i64 p_x.kind), (mkS p_x.name), (.int .i64 p_x.count), (.int .i64 p_x.strokes)]) Tryz.underlying22 (by kernel_rfl : (Tryz.prog.info? 24).map (fun i => (i.zero, i.size, i.bytes)) = some (some (.agg #[(.int .i64 0), (mkS []), (.int .i64 0), (.int .i64 0)]), (encEntry).size, 40)) rfl (by decide) rfl rfl rfl rfl rfl rfl rl1 rl5 e15 (fun ao12 cap12 rl6 => ?_)
         refine ⟨fun w' s => (s.select [3, 4, 5, 6] (by decide) rfl), ?_⟩
         refine AL.any (rs := [5]) (by kernel_rfl) (by decide) ?_
         refine ALs.cons (i := 5) rfl (Runs.free rfl) rfl rfl ?_ ?_
         ·
          skip
          refine OS.weaken (fun _ s => s.select [2, 0, 1, 3, 4, 5, 6] (by decide) rfl) ?_
          refine OS.held rl6 (fun H11 hc17 hle11 h12 => ?_)
          replace h1 := h1.mono hle11
          replace h2 := h2.mono hle11
          replace h3 := h3.mono hle11
          replace h4 := h4.mono hle11
          replace h5 := h5.mono hle11
          replace rl5 := rl5.mono hle11
          replace hG := hG.mono hle11
          obtain ⟨r11, e16, hm⟩ := bind_some hm
          refine os_con Tryz.call8 rfl rfl (fun w' s => (journal_Run_con (p_l ++ ([p_x] : List Entry)) ao12 cap12  w' H11 s.hold h12 hc17 hG r11 e16)) (fun rr8 H12 hle12 hR8 => ?_)
          replace h1 := h1.mono hle12
          replace h2 := h2.mono hle12
          replace h3 := h3.mono hle12
          replace h4 := h4.mono hle12
          replace h5 := h5.mono hle12
          replace h12 := h12.mono hle12
          replace rl5 := rl5.mono hle12
          replace hG := hG.mono hle12
          obtain ⟨ao13, cap13, rfl, h13, hc18⟩ := hR8
          refine ⟨fun w' s => ((s.select [2, 3, 4, 5] (by decide) rfl).heap (hle11.trans hle12)), ?_⟩
          refine tq (i := 6) rfl (by kernel_rfl) rfl rfl rfl (ov_move rfl rfl) ?_
          refine tq (i := 7) rfl (by kernel_rfl) rfl rfl rfl (ov_extract rfl rfl rfl) ?_
          refine tq (i := 8) rfl (by kernel_rfl) rfl rfl rfl (ov_extract rfl rfl rfl) ?_
          refine tq (i := 9) rfl (by kernel_rfl) rfl rfl rfl (ov_extract rfl rfl rfl) ?_
          refine AL.any (rs := [11]) (by kernel_rfl) (by decide) ?_
          refine ALs.cons0 (i := 11) rfl (Runs.free rfl) rfl ?_ ?_
          ·
           skip
           refine os_store (i := 1) (vs := [(.slice ao13 r11.1.items.length cap13), (.int .i64 r11.1.cycles)]) (cs' := [(.slice ao13 r11.1.items.length cap13), (.int .i64 r11.1.cycles)]) Tryz.sizeOf36 rfl rfl rfl rfl rfl rfl rfl rfl rfl ?_
           refine ⟨fun w' s => ((s.select [2, 3, 4, 5] (by decide) rfl).heap (hle11.trans hle12)), ?_⟩
           refine tq (i := 12) rfl (by kernel_rfl) rfl rfl rfl (ov_assign rfl rfl) ?_
           refine tq (i := 13) rfl (by kernel_rfl) rfl rfl rfl (ov_assign rfl rfl) ?_
           refine AL.done (by kernel_rfl) ?_
           refine then_normal ?_
           exact ⟨H12, b9, r11.2.1, r11.2.2, r11.1.items, ao13, cap13, r11.1.cycles, (hle11.trans hle12), h13, hc18, (Sub.cons rfl (Sub.cons rfl (Sub.cons rfl (Sub.cons rfl (Sub.cons rfl (Sub.cons rfl (Sub.cons rfl (Sub.nil _)))))))), fun w' s => (s.select [1, 2] (by decide) rfl), hm⟩
          exact ALs.nil
         exact ALs.nil
        exact ALs.nil
       exact ALs.nil
      exact ALs.nil
     refine ALs.cons (i := 3) rfl (Runs.free rfl) rfl rfl ?_ ?_
     ·
      skip
      have rl7 : RL H4 encEntry ([p_x] : List Entry) [(.int .i64 p_x.kind), (mkS p_x.name), (.int .i64 p_x.count), (.int .i64 p_x.strokes)] := RL.cons (cs := [(.int .i64 p_x.kind), (mkS p_x.name), (.int .i64 p_x.count), (.int .i64 p_x.strokes)]) (xs := []) rfl (RL.nil _ _)
      refine os_buildSlice (cs := [(.int .i64 p_x.kind), (mkS p_x.name), (.int .i64 p_x.count), (.int .i64 p_x.strokes)]) (E := 24) (sz := 4) rfl rfl (fun _ => by kernel_rfl) rfl (by decide) (fun b11 => ?_)
      refine ⟨fun w' s => (s.select [1, 2, 3, 4] (by decide) rfl), ?_⟩
      refine AL.any (rs := [1, 10]) (by kernel_rfl) (by decide) ?_
      refine ALs.cons (i := 1) rfl (Runs.free rfl) rfl rfl ?_ ?_
      ·
       skip
       obtain ⟨l5, e17, hm⟩ := bind_some hm
       refine os_cloneE rfl rfl h1 hc1 e17 (fun ao14 cap14 xs2 rl8 => ?_)
       refine ⟨fun w' s => (s.select [2, 3, 4, 5] (by decide) rfl), ?_⟩
       refine AL.any (rs := [4, 10]) (by kernel_rfl) (by decide) ?_
       refine ALs.cons (i := 4) rfl (Runs.free rfl) rfl rfl ?_ ?_
       ·
        skip
        obtain ⟨l6, e18, hm⟩ := bind_some hm
        refine os_app (i := 0) (j := 1) (En := encEntry) (xs := xs2) (ys := [(.int .i64 p_x.kind), (mkS p_x.name), (.int .i64 p_x.count), (.int .i64 p_x.strokes)]) Tryz.underlying22 (by kernel_rfl : (Tryz.prog.info? 24).map (fun i => (i.zero, i.size, i.bytes)) = some (some (.agg #[(.int .i64 0), (mkS []), (.int .i64 0), (.int .i64 0)]), (encEntry).size, 40)) rfl (by decide) rfl rfl rfl rfl rfl rfl rl8 rl7 e18 (fun ao15 cap15 rl9 => ?_)
        refine ⟨fun w' s => (s.select [2, 3, 4, 5] (by decide) rfl), ?_⟩
        refine AL.any (rs := [5, 10]) (by kernel_rfl) (by decide) ?_
        refine ALs.cons (i := 5) rfl (Runs.free rfl) rfl rfl ?_ ?_
        ·
         skip
         refine OS.held rl9 (fun H13 hc19 hle13 h14 => ?_)
         replace h1 := h1.mono hle13
         replace h2 := h2.mono hle13
         replace h3 := h3.mono hle13
         replace h4 := h4.mono hle13
         replace h5 := h5.mono hle13
         replace rl7 := rl7.mono hle13
         replace hG := hG.mono hle13
         obtain ⟨r12, e19, hm⟩ := bind_some hm
         refine os_con Tryz.call8 rfl rfl (fun w' s => (journal_Run_con (p_l ++ ([p_x] : List Entry)) ao15 cap15  w' H13 s.hold h14 hc19 hG r12 e19)) (fun rr9 H14 hle14 hR9 => ?_)
         replace h1 := h1.mono hle14
         replace h2 := h2.mono hle14
         replace h3 := h3.mono hle14
         replace h4 := h4.mono hle14
         replace h5 := h5.mono hle14
         replace h14 := h14.mono hle14
         replace rl7 := rl7.mono hle14
         replace hG := hG.mono hle14
         obtain ⟨ao16, cap16, rfl, h15, hc20⟩ := hR9
         refine ⟨fun w' s => ((s.select [1, 2, 3, 4] (by decide) rfl).heap (hle13.trans hle14)), ?_⟩
         refine tq (i := 6) rfl (by kernel_rfl) rfl rfl rfl (ov_move rfl rfl) ?_
         refine tq (i := 7) rfl (by kernel_rfl) rfl rfl rfl (ov_extract rfl rfl rfl) ?_
         refine tq (i := 8) rfl (by kernel_rfl) rfl rfl rfl (ov_extract rfl rfl rfl) ?_
         refine tq (i := 9) rfl (by kernel_rfl) rfl rfl rfl (ov_extract rfl rfl rfl) ?_
         refine AL.any (rs := [10]) (by kernel_rfl) (by decide) ?_
         refine ALs.cons (i := 10) rfl (Runs.free rfl) rfl rfl ?_ ?_
         ·
          skip
          refine os_alloc (cs := [(.slice none 0 0), (.int .i64 0)]) Tryz.zeroValue36 rfl rfl (fun b12 => ?_)
          refine ⟨fun w' s => ((s.select [2, 3, 4, 5] (by decide) rfl).heap (hle13.trans hle14)), ?_⟩
          refine AL.any (rs := [11]) (by kernel_rfl) (by decide) ?_
          refine ALs.cons0 (i := 11) rfl (Runs.free rfl) rfl ?_ ?_
          ·
           skip
           refine os_store (i := 0) (vs := [(.slice ao16 r12.1.items.length cap16), (.int .i64 r12.1.cycles)]) (cs' := [(.slice ao16 r12.1.items.length cap16), (.int .i64 r12.1.cycles)]) Tryz.sizeOf36 rfl rfl rfl rfl rfl rfl rfl rfl rfl ?_
           refine ⟨fun w' s => ((s.select [2, 3, 4, 5] (by decide) rfl).heap (hle13.trans hle14)), ?_⟩
           refine tq (i := 12) rfl (by kernel_rfl) rfl rfl rfl (ov_assign rfl rfl) ?_
           refine tq (i := 13) rfl (by kernel_rfl) rfl rfl rfl (ov_assign rfl rfl) ?_
           refine AL.done (by kernel_rfl) ?_
           refine then_normal ?_
           exact ⟨H14, b12, r12.2.1, r12.2.2, r12.1.items, ao16, cap16, r12.1.cycles, (hle13.trans hle14), h15, hc20, (Sub.cons rfl (Sub.cons rfl (Sub.cons rfl (Sub.cons rfl (Sub.cons rfl (Sub.cons rfl (Sub.cons rfl (Sub.nil _)))))))), fun w' s => (s.select [0, 2] (by decide) rfl), hm⟩
          exact ALs.nil
         exact ALs.nil
        refine ALs.cons (i := 10) rfl (Runs.free rfl) rfl rfl ?_ ?_
        ·
         skip
         refine os_alloc (cs := [(.slice none 0 0), (.int .i64 0)]) Tryz.zeroValue36 rfl rfl (fun b13 => ?_)
         refine ⟨fun w' s => (s.select [3, 4, 5, 6] (by decide) rfl), ?_⟩
         refine AL.any (rs := [5]) (by kernel_rfl) (by decide) ?_
         refine ALs.cons (i := 5) rfl (Runs.free rfl) rfl rfl ?_ ?_
         ·
          skip
          refine OS.weaken (fun _ s => s.select [1, 0, 2, 3, 4, 5, 6] (by decide) rfl) ?_
          refine OS.held rl9 (fun H15 hc21 hle15 h16 => ?_)
          replace h1 := h1.mono hle15
          replace h2 := h2.mono hle15
          replace h3 := h3.mono hle15
          replace h4 := h4.mono hle15
          replace h5 := h5.mono hle15
          replace rl7 := rl7.mono hle15
          replace hG := hG.mono hle15
          obtain ⟨r13, e20, hm⟩ := bind_some hm
          refine os_con Tryz.call8 rfl rfl (fun w' s => (journal_Run_con (p_l ++ ([p_x] : List Entry)) ao15 cap15  w' H15 s.hold h16 hc21 hG r13 e20)) (fun rr10 H16 hle16 hR10 => ?_)
          replace h1 := h1.mono hle16
          replace h2 := h2.mono hle16
          replace h3 := h3.mono hle16
          replace h4 := h4.mono hle16
          replace h5 := h5.mono hle16
          replace h16 := h16.mono hle16
          replace rl7 := rl7.mono hle16
          replace hG := hG.mono hle16
          obtain ⟨ao17, cap17, rfl, h17, hc22⟩ := hR10
          refine ⟨fun w' s => ((s.select [2, 3, 4, 5] (by decide) rfl).heap (hle15.trans hle16)), ?_⟩
          refine tq (i := 6) rfl (by kernel_rfl) rfl rfl rfl (ov_move rfl rfl) ?_
          refine tq (i := 7) rfl (by kernel_rfl) rfl rfl rfl (ov_extract rfl rfl rfl) ?_
          refine tq (i := 8) rfl (by kernel_rfl) rfl rfl rfl (ov_extract rfl rfl rfl) ?_
          refine tq (i := 9) rfl (by kernel_rfl) rfl rfl rfl (ov_extract rfl rfl rfl) ?_
          refine AL.any (rs := [11]) (by kernel_rfl) (by decide) ?_
          refine ALs.cons0 (i := 11) rfl (Runs.free rfl) rfl ?_ ?_
          ·
           skip
           refine os_store (i := 0) (vs := [(.slice ao17 r13.1.items.length cap17), (.int .i64 r13.1.cycles)]) (cs' := [(.slice ao17 r13.1.items.length cap17), (.int .i64 r13.1.cycles)]) Tryz.sizeOf36 rfl rfl rfl rfl rfl rfl rfl rfl rfl ?_
           refine ⟨fun w' s => ((s.select [2, 3, 4, 5] (by decide) rfl).heap (hle15.trans hle16)), ?_⟩
           refine tq (i := 12) rfl (by kernel_rfl) rfl rfl rfl (ov_assign rfl rfl) ?_
           refine tq (i := 13) rfl (by kernel_rfl) rfl rfl rfl (ov_assign rfl rfl) ?_
           refine AL.done (by kernel_rfl) ?_
           refine then_normal ?_
           exact ⟨H16, b13, r13.2.1, r13.2.2, r13.1.items, ao17, cap17, r13.1.cycles, (hle15.trans hle16), h17, hc22, (Sub.cons rfl (Sub.cons rfl (Sub.cons rfl (Sub.cons rfl (Sub.cons rfl (Sub.cons rfl (Sub.cons rfl (Sub.nil _)))))))), fun w' s => (s.select [0, 2] (by decide) rfl), hm⟩
          exact ALs.nil
         exact ALs.nil
        exact ALs.nil
       refine ALs.cons (i := 10) rfl (Runs.free rfl) rfl rfl ?_ ?_
       ·
        skip
        refine os_alloc (cs := [(.slice none 0 0), (.int .i64 0)]) Tryz.zeroValue36 rfl rfl (fun b14 => ?_)
        refine ⟨fun w' s => (s.select [3, 4, 5, 6] (by decide) rfl), ?_⟩
        refine AL.any (rs := [4]) (by kernel_rfl) (by decide) ?_
        refine ALs.cons (i := 4) rfl (Runs.free rfl) rfl rfl ?_ ?_
        ·
         skip
         obtain ⟨l7, e21, hm⟩ := bind_some hm
         refine os_app (i := 1) (j := 2) (En := encEntry) (xs := xs2) (ys := [(.int .i64 p_x.kind), (mkS p_x.name), (.int .i64 p_x.count), (.int .i64 p_x.strokes)]) Tryz.underlying22 (by kernel_rfl : (Tryz.prog.info? 24).map (fun i => (i.zero, i.size, i.bytes)) = some (some (.agg #[(.int .i64 0), (mkS []), (.int .i64 0), (.int .i64 0)]), (encEntry).size, 40)) rfl (by decide) rfl rfl rfl rfl rfl rfl rl8 rl7 e21 (fun ao18 cap18 rl10 => ?_)
         refine ⟨fun w' s => (s.select [3, 4, 5, 6] (by decide) rfl), ?_⟩
         refine AL.any (rs := [5]) (by kernel_rfl) (by decide) ?_
         refine ALs.cons (i := 5) rfl (Runs.free rfl) rfl rfl ?_ ?_
         ·
          skip
          refine OS.weaken (fun _ s => s.select [1, 0, 2, 3, 4, 5, 6] (by decide) rfl) ?_
          refine OS.held rl10 (fun H17 hc23 hle17 h18 => ?_)
          replace h1 := h1.mono hle17
          replace h2 := h2.mono hle17
          replace h3 := h3.mono hle17
          replace h4 := h4.mono hle17
          replace h5 := h5.mono hle17
          replace rl7 := rl7.mono hle17
          replace hG := hG.mono hle17
          obtain ⟨r14, e22, hm⟩ := bind_some hm
          refine os_con Tryz.call8 rfl rfl (fun w' s => (journal_Run_con (p_l ++ ([p_x] : List Entry)) ao18 cap18  w' H17 s.hold h18 hc23 hG r14 e22)) (fun rr11 H18 hle18 hR11 => ?_)
          replace h1 := h1.mono hle18
          replace h2 := h2.mono hle18
          replace h3 := h3.mono hle18
          replace h4 := h4.mono hle18
          replace h5 := h5.mono hle18
          replace h18 := h18.mono hle18
          replace rl7 := rl7.mono hle18
          replace hG := hG.mono hle18
          obtain ⟨ao19, cap19, rfl, h19, hc24⟩ := hR11
          refine ⟨fun w' s => ((s.select [2, 3, 4, 5] (by decide) rfl).heap (hle17.trans hle18)), ?_⟩
          refine tq (i := 6) rfl (by kernel_rfl) rfl rfl rfl (ov_move rfl rfl) ?_
          refine tq (i := 7) rfl (by kernel_rfl) rfl rfl rfl (ov_extract rfl rfl rfl) ?_
          refine tq (i := 8) rfl (by kernel_rfl) rfl rfl rfl (ov_extract rfl rfl rfl) ?_
          refine tq (i := 9) rfl (by kernel_rfl) rfl rfl rfl (ov_extract rfl rfl rfl) ?_
          refine AL.any (rs := [11]) (by kernel_rfl) (by decide) ?_
          refine ALs.cons0 (i := 11) rfl (Runs.free rfl) rfl ?_ ?_
          ·
           skip
           refine os_store (i := 0) (vs := [(.slice ao19 r14.1.items.length cap19), (.int .i64 r14.1.cycles)]) (cs' := [(.slice ao19 r14.1.items.length cap19), (.int .i64 r14.1.cycles)]) Tryz.sizeOf36 rfl rfl rfl rfl rfl rfl rfl rfl rfl ?_
           refine ⟨fun w' s => ((s.select [2, 3, 4, 5] (by decide) rfl).heap (hle17.trans hle18)), ?_⟩
           refine tq (i := 12) rfl (by kernel_rfl) rfl rfl rfl (ov_assign rfl rfl) ?_
           refine tq (i := 13) rfl (by kernel_rfl) rfl rfl rfl (ov_assign rfl rfl) ?_
           refine AL.done (by kernel_rfl) ?_
           refine then_normal ?_
           exact ⟨H18, b14, r14.2.1, r14.2.2, r14.1.items, ao19, cap19, r14.1.cycles, (hle17.trans hle18), h19, hc24, (Sub.cons rfl (Sub.cons rfl (Sub.cons rfl (Sub.cons rfl (Sub.cons rfl (Sub.cons rfl (Sub.cons rfl (Sub.nil _)))))))), fun w' s => (s.select [0, 2] (by decide) rfl), hm⟩
          exact ALs.nil
         exact ALs.nil
        exact ALs.nil
       exact ALs.nil
      refine ALs.cons (i := 10) rfl (Runs.free rfl) rfl rfl ?_ ?_
      ·
       skip
       refine os_alloc (cs := [(.slice none 0 0), (.int .i64 0)]) Tryz.zeroValue36 rfl rfl (fun b15 => ?_)
       refine ⟨fun w' s => (s.select [2, 3, 4, 5] (by decide) rfl), ?_⟩
       refine AL.any (rs := [1]) (by kernel_rfl) (by decide) ?_
       refine ALs.cons (i := 1) rfl (Runs.free rfl) rfl rfl ?_ ?_
       ·
        skip
        obtain ⟨l8, e23, hm⟩ := bind_some hm
        refine os_cloneE rfl rfl h1 hc1 e23 (fun ao20 cap20 xs3 rl11 => ?_)
        refine ⟨fun w' s => (s.select [3, 4, 5, 6] (by decide) rfl), ?_⟩
        refine AL.any (rs := [4]) (by kernel_rfl) (by decide) ?_
        refine ALs.cons (i := 4) rfl (Runs.free rfl) rfl rfl ?_ ?_
        ·
         skip
         obtain ⟨l9, e24, hm⟩ := bind_some hm
         refine os_app (i := 0) (j := 2) (En := encEntry) (xs := xs3) (ys := [(.int .i64 p_x.kind), (mkS p_x.name), (.int .i64 p_x.count), (.int .i64 p_x.strokes)]) Tryz.underlying22 (by kernel_rfl : (Tryz.prog.info? 24).map (fun i => (i.zero, i.size, i.bytes)) = some (some (.agg #[(.int .i64 0), (mkS []), (.int .i64 0), (.int .i64 0)]), (encEntry).size, 40)) rfl (by decide) rfl rfl rfl rfl rfl rfl rl11 rl7 e24 (fun ao21 cap21 rl12 => ?_)
         refine ⟨fun w' s => (s.select [3, 4, 5, 6] (by decide) rfl), ?_⟩
         refine AL.any (rs := [5]) (by kernel_rfl) (by decide) ?_
         refine ALs.cons (i := 5) rfl (Runs.free rfl) rfl rfl ?_ ?_
         ·
          skip
          refine OS.held rl12 (fun H19 hc25 hle19 h20 => ?_)
          replace h1 := h1.mono hle19
          replace h2 := h2.mono hle19
          replace h3 := h3.mono hle19
          replace h4 := h4.mono hle19
          replace h5 := h5.mono hle19
          replace rl7 := rl7.mono hle19
          replace hG := hG.mono hle19
          obtain ⟨r15, e25, hm⟩ := bind_some hm
          refine os_con Tryz.call8 rfl rfl (fun w' s => (journal_Run_con (p_l ++ ([p_x] : List Entry)) ao21 cap21  w' H19 s.hold h20 hc25 hG r15 e25)) (fun rr12 H20 hle20 hR12 => ?_)
          replace h1 := h1.mono hle20
          replace h2 := h2.mono hle20
          replace h3 := h3.mono hle20
          replace h4 := h4.mono hle20
          replace h5 := h5.mono hle20
          replace h20 := h20.mono hle20
          replace rl7 := rl7.mono hle20
          replace hG := hG.mono hle20
          obtain ⟨ao22, cap22, rfl, h21, hc26⟩ := hR12
          refine ⟨fun w' s => ((s.select [2, 3, 4, 5] (by decide) rfl).heap (hle19.trans hle20)), ?_⟩
          refine tq (i := 6) rfl (by kernel_rfl) rfl rfl rfl (ov_move rfl rfl) ?_
          refine tq (i := 7) rfl (by kernel_rfl) rfl rfl rfl (ov_extract rfl rfl rfl) ?_
          refine tq (i := 8) rfl (by kernel_rfl) rfl rfl rfl (ov_extract rfl rfl rfl) ?_
          refine tq (i := 9) rfl (by kernel_rfl) rfl rfl rfl (ov_extract rfl rfl rfl) ?_
          refine AL.any (rs := [11]) (by kernel_rfl) (by decide) ?_
          refine ALs.cons0 (i := 11) rfl (Runs.free rfl) rfl ?_ ?_
          ·
           skip
           refine os_store (i := 0) (vs := [(.slice ao22 r15.1.items.length cap22), (.int .i64 r15.1.cycles)]) (cs' := [(.slice ao22 r15.1.items.length cap22), (.int .i64 r15.1.cycles)]) Tryz.sizeOf36 rfl rfl rfl rfl rfl rfl rfl rfl rfl ?_
           refine ⟨fun w' s => ((s.select [2, 3, 4, 5] (by decide) rfl).heap (hle19.trans hle20)), ?_⟩
           refine tq (i := 12) rfl (by kernel_rfl) rfl rfl rfl (ov_assign rfl rfl) ?_
           refine tq (i := 13) rfl (by kernel_rfl) rfl rfl rfl (ov_assign rfl rfl) ?_
           refine AL.done (by kernel_rfl) ?_
           refine then_normal ?_
           exact ⟨H20, b15, r15.2.1, r15.2.2, r15.1.items, ao22, cap22, r15.1.cycles, (hle19.trans hle20), h21, hc26, (Sub.cons rfl (Sub.cons rfl (Sub.cons rfl (Sub.cons rfl (Sub.cons rfl (Sub.cons rfl (Sub.cons rfl (Sub.nil _)))))))), fun w' s => (s.select [0, 2] (by decide) rfl), hm⟩
          exact ALs.nil
         exact ALs.nil
        exact ALs.nil
       exact ALs.nil
      exact ALs.nil
     refine ALs.cons (i := 10) rfl (Runs.free rfl) rfl rfl ?_ ?_
     ·
      skip
      refine os_alloc (cs := [(.slice none 0 0), (.int .i64 0)]) Tryz.zeroValue36 rfl rfl (fun b16 => ?_)
      refine ⟨fun w' s => (s.select [1, 2, 3, 4] (by decide) rfl), ?_⟩
      refine AL.any (rs := [1, 3]) (by kernel_rfl) (by decide) ?_
      refine ALs.cons (i := 1) rfl (Runs.free rfl) rfl rfl ?_ ?_
      ·
       skip
       obtain ⟨l10, e26, hm⟩ := bind_some hm
       refine os_cloneE rfl rfl h1 hc1 e26 (fun ao23 cap23 xs4 rl13 => ?_)
       refine ⟨fun w' s => (s.select [2, 3, 4, 5] (by decide) rfl), ?_⟩
       refine AL.any (rs := [3]) (by kernel_rfl) (by decide) ?_
       refine ALs.cons (i := 3) rfl (Runs.free rfl) rfl rfl ?_ ?_
       ·
        skip
        have rl14 : RL H4 encEntry ([p_x] : List Entry) [(.int .i64 p_x.kind), (mkS p_x.name), (.int .i64 p_x.count), (.int .i64 p_x.strokes)] := RL.cons (cs := [(.int .i64 p_x.kind), (mkS p_x.name), (.int .i64 p_x.count), (.int .i64 p_x.strokes)]) (xs := []) rfl (RL.nil _ _)
        refine os_buildSlice (cs := [(.int .i64 p_x.kind), (mkS p_x.name), (.int .i64 p_x.count), (.int .i64 p_x.strokes)]) (E := 24) (sz := 4) rfl rfl (fun _ => by kernel_rfl) rfl (by decide) (fun b17 => ?_)
        refine ⟨fun w' s => (s.select [3, 4, 5, 6] (by decide) rfl), ?_⟩
        refine AL.any (rs := [4]) (by kernel_rfl) (by decide) ?_
        refine ALs.cons (i := 4) rfl (Runs.free rfl) rfl rfl ?_ ?_
        ·
         skip
         obtain ⟨l11, e27, hm⟩ := bind_some hm
         refine os_app (i := 1) (j := 0) (En := encEntry) (xs := xs4) (ys := [(.int .i64 p_x.kind), (mkS p_x.name), (.int .i64 p_x.count), (.int .i64 p_x.strokes)]) Tryz.underlying22 (by kernel_rfl : (Tryz.prog.info? 24).map (fun i => (i.zero, i.size, i.bytes)) = some (some (.agg #[(.int .i64 0), (mkS []), (.int .i64 0), (.int .i64 0)]), (encEntry).size, 40)) rfl (by decide) rfl rfl rfl rfl rfl rfl rl13 rl14 e27 (fun ao24 cap24 rl15 => ?_)
         refine ⟨fun w' s => (s.select [3, 4, 5, 6] (by decide) rfl), ?_⟩
         refine AL.any (rs := [5]) (by kernel_rfl) (by decide) ?_
         refine ALs.cons (i := 5) rfl (Runs.free rfl) rfl rfl ?_ ?_
         ·
          skip
          refine OS.weaken (fun _ s => s.select [1, 0, 2, 3, 4, 5, 6] (by decide) rfl) ?_
          refine OS.held rl15 (fun H21 hc27 hle21 h22 => ?_)
          replace h1 := h1.mono hle21
          replace h2 := h2.mono hle21
          replace h3 := h3.mono hle21
          replace h4 := h4.mono hle21
          replace h5 := h5.mono hle21
          replace rl14 := rl14.mono hle21
          replace hG := hG.mono hle21
          obtain ⟨r16, e28, hm⟩ := bind_some hm
          refine os_con Tryz.call8 rfl rfl (fun w' s => (journal_Run_con (p_l ++ ([p_x] : List Entry)) ao24 cap24  w' H21 s.hold h22 hc27 hG r16 e28)) (fun rr13 H22 hle22 hR13 => ?_)
          replace h1 := h1.mono hle22
          replace h2 := h2.mono hle22
          replace h3 := h3.mono hle22
          replace h4 := h4.mono hle22
          replace h5 := h5.mono hle22
          replace h22 := h22.mono hle22
          replace rl14 := rl14.mono hle22
          replace hG := hG.mono hle22
          obtain ⟨ao25, cap25, rfl, h23, hc28⟩ := hR13
          refine ⟨fun w' s => ((s.select [2, 3, 4, 5] (by decide) rfl).heap (hle21.trans hle22)), ?_⟩
          refine tq (i := 6) rfl (by kernel_rfl) rfl rfl rfl (ov_move rfl rfl) ?_
          refine tq (i := 7) rfl (by kernel_rfl) rfl rfl rfl (ov_extract rfl rfl rfl) ?_
          refine tq (i := 8) rfl (by kernel_rfl) rfl rfl rfl (ov_extract rfl rfl rfl) ?_
          refine tq (i := 9) rfl (by kernel_rfl) rfl rfl rfl (ov_extract rfl rfl rfl) ?_
          refine AL.any (rs := [11]) (by kernel_rfl) (by decide) ?_
          refine ALs.cons0 (i := 11) rfl (Runs.free rfl) rfl ?_ ?_
          ·
           skip
           refine os_store (i := 1) (vs := [(.slice ao25 r16.1.items.length cap25), (.int .i64 r16.1.cycles)]) (cs' := [(.slice ao25 r16.1.items.length cap25), (.int .i64 r16.1.cycles)]) Tryz.sizeOf36 rfl rfl rfl rfl rfl rfl rfl rfl rfl ?_
           refine ⟨fun w' s => ((s.select [2, 3, 4, 5] (by decide) rfl).heap (hle21.trans hle22)), ?_⟩
           refine tq (i := 12) rfl (by kernel_rfl) rfl rfl rfl (ov_assign rfl rfl) ?_
           refine tq (i := 13) rfl (by kernel_rfl) rfl rfl rfl (ov_assign rfl rfl) ?_
           refine AL.done (by kernel_rfl) ?_
           refine then_normal ?_
           exact ⟨H22, b16, r16.2.1, r16.2.2, r16.1.items, ao25, cap25, r16.1.cycles, (hle21.trans hle22), h23, hc28, (Sub.cons rfl (Sub.cons rfl (Sub.cons rfl (Sub.cons rfl (Sub.cons rfl (Sub.cons rfl (Sub.cons rfl (Sub.nil _)))))))), fun w' s => (s.select [1, 2] (by decide) rfl), hm⟩
          exact ALs.nil
         exact ALs.nil
        exact ALs.nil
       exact ALs.nil
      refine ALs.cons (i := 3) rfl (Runs.free rfl) rfl rfl ?_ ?_
      ·
       skip
       have rl16 : RL H4 encEntry ([p_x] : List Entry) [(.int .i64 p_x.kind), (mkS p_x.name), (.int .i64 p_x.count), (.int .i64 p_x.strokes)] := RL.cons (cs := [(.int .i64 p_x.kind), (mkS p_x.name), (.int .i64 p_x.count), (.int .i64 p_x.strokes)]) (xs := []) rfl (RL.nil _ _)
       refine os_buildSlice (cs := [(.int .i64 p_x.kind), (mkS p_x.name), (.int .i64 p_x.count), (.int .i64 p_x.strokes)]) (E := 24) (sz := 4) rfl rfl (fun _ => by kernel_rfl) rfl (by decide) (fun b18 => ?_)
       refine ⟨fun w' s => (s.select [2, 3, 4, 5] (by decide) rfl), ?_⟩
       refine AL.any (rs := [1]) (by kernel_rfl) (by decide) ?_
       refine ALs.cons (i := 1) rfl (Runs.free rfl) rfl rfl ?_ ?_
       ·
        skip
        obtain ⟨l12, e29, hm⟩ := bind_some hm
        refine os_cloneE rfl rfl h1 hc1 e29 (fun ao26 cap26 xs5 rl17 => ?_)
        refine ⟨fun w' s => (s.select [3, 4, 5, 6] (by decide) rfl), ?_⟩
        refine AL.any (rs := [4]) (by kernel_rfl) (by decide) ?_
        refine ALs.cons (i := 4) rfl (Runs.free rfl) rfl rfl ?_ ?_
        ·
         skip
         obtain ⟨l13, e30, hm⟩ := bind_some hm
         refine os_app (i := 0) (j := 1) (En := encEntry) (xs := xs5) (ys := [(.int .i64 p_x.kind), (mkS p_x.name), (.int .i64 p_x.count), (.int .i64 p_x.strokes)]) Tryz.underlying22 (by kernel_rfl : (Tryz.prog.info? 24).map (fun i => (i.zero, i.size, i.bytes)) = some (some (.agg #[(.int .i64 0), (mkS []), (.int .i64 0), (.int .i64 0)]), (encEntry).size, 40)) rfl (by decide) rfl rfl rfl rfl rfl rfl rl17 rl16 e30 (fun ao27 cap27 rl18 => ?_)
         refine ⟨fun w' s => (s.select [3, 4, 5, 6] (by decide) rfl), ?_⟩
         refine AL.any (rs := [5]) (by kernel_rfl) (by decide) ?_
         refine ALs.cons (i := 5) rfl (Runs.free rfl) rfl rfl ?_ ?_
         ·
          skip
          refine OS.held rl18 (fun H23 hc29 hle23 h24 => ?_)
          replace h1 := h1.mono hle23
          replace h2 := h2.mono hle23
          replace h3 := h3.mono hle23
          replace h4 := h4.mono hle23
          replace h5 := h5.mono hle23
          replace rl16 := rl16.mono hle23
          replace hG := hG.mono hle23
          obtain ⟨r17, e31, hm⟩ := bind_some hm
          refine os_con Tryz.call8 rfl rfl (fun w' s => (journal_Run_con (p_l ++ ([p_x] : List Entry)) ao27 cap27  w' H23 s.hold h24 hc29 hG r17 e31)) (fun rr14 H24 hle24 hR14 => ?_)
          replace h1 := h1.mono hle24
          replace h2 := h2.mono hle24
          replace h3 := h3.mono hle24
          replace h4 := h4.mono hle24
          replace h5 := h5.mono hle24
          replace h24 := h24.mono hle24
          replace rl16 := rl16.mono hle24
          replace hG := hG.mono hle24
          obtain ⟨ao28, cap28, rfl, h25, hc30⟩ := hR14
          refine ⟨fun w' s => ((s.select [2, 3, 4, 5] (by decide) rfl).heap (hle23.trans hle24)), ?_⟩
          refine tq (i := 6) rfl (by kernel_rfl) rfl rfl rfl (ov_move rfl rfl) ?_
          refine tq (i := 7) rfl (by kernel_rfl) rfl rfl rfl (ov_extract rfl rfl rfl) ?_
          refine tq (i := 8) rfl (by kernel_rfl) rfl rfl rfl (ov_extract rfl rfl rfl) ?_
          refine tq (i := 9) rfl (by kernel_rfl) rfl rfl rfl (ov_extract rfl rfl rfl) ?_
          refine AL.any (rs := [11]) (by kernel_rfl) (by decide) ?_
          refine ALs.cons0 (i := 11) rfl (Runs.free rfl) rfl ?_ ?_
          ·
           skip
           refine os_store (i := 1) (vs := [(.slice ao28 r17.1.items.length cap28), (.int .i64 r17.1.cycles)]) (cs' := [(.slice ao28 r17.1.items.length cap28), (.int .i64 r17.1.cycles)]) Tryz.sizeOf36 rfl rfl rfl rfl rfl rfl rfl rfl rfl ?_
           refine ⟨fun w' s => ((s.select [2, 3, 4, 5] (by decide) rfl).heap (hle23.trans hle24)), ?_⟩
           refine tq (i := 12) rfl (by kernel_rfl) rfl rfl rfl (ov_assign rfl rfl) ?_
           refine tq (i := 13) rfl (by kernel_rfl) rfl rfl rfl (ov_assign rfl rfl) ?_
           refine AL.done (by kernel_rfl) ?_
           refine then_normal ?_
           exact ⟨H24, b16, r17.2.1, r17.2.2, r17.1.items, ao28, cap28, r17.1.cycles, (hle23.trans hle24), h25, hc30, (Sub.cons rfl (Sub.cons rfl (Sub.cons rfl (Sub.cons rfl (Sub.cons rfl (Sub.cons rfl (Sub.cons rfl (Sub.nil _)))))))), fun w' s => (s.select [1, 2] (by decide) rfl), hm⟩
          exact ALs.nil
         exact ALs.nil
        exact ALs.nil
       exact ALs.nil
      exact ALs.nil
     exact ALs.nil
    ·
     rintro g' S' ⟨H25, b19, i1, i2, l14, ao29, cap29, i3, hle25, h26, hc31, hsub1, hS1, hm⟩
     refine WP.sub hsub1 (WP.weaken hS1 ?_)
     replace hm := (congrFun (congrFun (congrFun (congrFun hk1 i1) i2) l14) i3).symm.trans hm
     replace h1 := h1.mono hle25
     replace h5 := h5.mono hle25
     replace hG := hG.mono hle25
     refine WP.seq (WP.seq (WP.region ?_))
     refine wq rfl rfl rfl (ov_move rfl rfl) ?_
     refine wq rfl rfl rfl (ov_move rfl rfl) ?_
     refine wq rfl rfl rfl (ov_neq rfl rfl rfl) ?_
     refine wq rfl rfl rfl (ov_move rfl rfl) ?_
     obtain ⟨c2, e32, hm⟩ := bind_some hm
     refine WL.cut_bool 5 77 (x := c2) ?_ ?_
     ·
      rcases Bool.eq_false_or_eq_true (r7.2 != i2) with hc32 | hc32
      ·
       skip
       replace hm := ite_t hc32 e32
       refine WL.idle (Idle.no rfl rfl rfl hc32) rfl rfl ?_
       refine WL.idle (Idle.no rfl rfl rfl hc32) rfl rfl ?_
       refine WL.idle (Idle.no rfl rfl rfl hc32) rfl rfl ?_
       refine WL.idle (Idle.no rfl rfl rfl hc32) rfl rfl ?_
       refine wq rfl rfl rfl (ov_pick_true rfl (guard_eq rfl hc32) rfl) ?_
       exact WL.nil ⟨Sub.cons' rfl (congrArg Value.bool (Option.some.inj hm)) (Sub.skip rfl (Sub.skip rfl (Sub.skip rfl (Sub.skip rfl (Sub.skip rfl (Sub.refl _)))))), fun _ s => s⟩
      ·
       skip
       replace hm := ite_f hc32 e32
       refine WL.quiet (Runs.yes rfl rfl rfl hc32) rfl rfl (OV.quiet (ov_load_whole (i := 1) Tryz.isAgg36 Tryz.sizeOf36 rfl rfl rfl rfl)) ?_
       refine WL.quiet (Runs.yes rfl rfl rfl hc32) rfl rfl (OV.quiet (ov_load_whole (i := 0) Tryz.isAgg36 Tryz.sizeOf36 rfl rfl rfl rfl)) ?_
       obtain ⟨r18, e33, hm⟩ := bind_some hm
       refine WL.quiet (Runs.yes rfl rfl rfl hc32) rfl rfl (oq_con (r := (.bool r18)) Tryz.call12 rfl rfl (fun w' s => ⟨_, (top_runMachines_con r7.1 (Machine.mk l14 i3) ao5 cap5 ao29 cap29  w' H25 s.hold h5 hc10 h26 hc31 hG r18 e33)⟩)) ?_
       refine WL.quiet (Runs.yes rfl rfl rfl hc32) rfl rfl (OV.quiet (ov_not rfl rfl)) ?_
       refine wq rfl rfl rfl (ov_pick_false rfl (guard_eq rfl hc32) rfl) ?_
       exact WL.nil ⟨Sub.cons' rfl (congrArg Value.bool (Option.some.inj hm)) (Sub.skip rfl (Sub.skip rfl (Sub.skip rfl (Sub.skip rfl (Sub.skip rfl (Sub.refl _)))))), fun _ s => s⟩
     refine WL.nil (then_normal ?_)
     refine WP.cond rfl (fun hc33 => ?_) (fun hc33 => ?_)
     ·
      replace hm := ite_t hc33 hm
      refine WP.seq (WP.region ?_)
      refine wq rfl rfl rfl (ov_assign rfl rfl) ?_
      refine WL.nil (then_normal (WP.ret (then_ret ?_)))
      obtain rfl := Option.some.inj hm
      refine retQ_ret Tryz.results3 (Res.tmp rfl Res.nil) rfl (fun w' s => ⟨s.below, ?_⟩)
      exact rfl
     ·
      replace hm := ite_f hc33 hm
      refine WP.skip (then_normal (WP.seq (WP.seq (WP.region ?_))))
      refine wq rfl rfl rfl (ov_move rfl rfl) ?_
      refine wq rfl rfl rfl (ov_neq rfl rfl rfl) ?_
      refine WL.nil (then_normal ?_)
      refine WP.cond rfl (fun hc34 => ?_) (fun hc34 => ?_)
      ·
       replace hm := ite_t hc34 hm
       refine WP.seq (WP.region ?_)
       refine wq rfl rfl rfl (ov_move rfl rfl) ?_
       refine wq rfl rfl rfl (ov_move rfl rfl) ?_
       refine wq rfl rfl rfl (ov_len_slice Tryz.underlying22 rfl rfl) ?_
       refine wq rfl rfl rfl (ov_eql rfl rfl rfl) ?_
       refine wq rfl rfl rfl (ov_move rfl rfl) ?_
       obtain ⟨c3, e34, hm⟩ := bind_some hm
       refine WL.cut_bool 2 86 (x := c3) ?_ ?_
       ·
        rcases Bool.eq_false_or_eq_true (i1 == (p_l.length : Int)) with hc35 | hc35
        ·
         skip
         replace hm := ite_t hc35 e34
         obtain ⟨r19, e35, hm⟩ := bind_some hm
         refine WL.quiet (Runs.yes rfl rfl rfl hc35) rfl rfl (oq_con (r := (.bool r19)) Tryz.call6 rfl rfl (fun w' s => ⟨_, (top_runLog_con   w' H25 s.hold hG r19 e35)⟩)) ?_
         refine wq rfl rfl rfl (ov_pick_true rfl (guard_eq rfl hc35) rfl) ?_
         exact WL.nil ⟨Sub.cons' rfl (congrArg Value.bool (Option.some.inj hm)) (Sub.skip rfl (Sub.skip rfl (Sub.refl _))), fun _ s => s⟩
        ·
         skip
         replace hm := ite_f hc35 e34
         refine WL.idle (Idle.no rfl rfl rfl hc35) rfl rfl ?_
         refine wq rfl rfl rfl (ov_pick_false rfl (guard_eq rfl hc35) rfl) ?_
         exact WL.nil ⟨Sub.cons' rfl (congrArg Value.bool (Option.some.inj hm)) (Sub.skip rfl (Sub.skip rfl (Sub.refl _))), fun _ s => s⟩
       refine wq rfl rfl rfl (ov_assign rfl rfl) ?_
       refine WL.nil (then_normal (WP.ret (then_ret ?_)))
       obtain rfl := Option.some.inj hm
       refine retQ_ret Tryz.results3 (Res.tmp rfl Res.nil) rfl (fun w' s => ⟨s.below, ?_⟩)
       exact rfl
      ·
       replace hm := ite_f hc34 hm
       refine WP.skip (then_normal (WP.seq (WP.region ?_)))
       refine wq rfl rfl rfl (ov_load_whole (i := 1) Tryz.isAgg36 Tryz.sizeOf36 rfl rfl rfl rfl) ?_
       obtain ⟨r20, e36, hm⟩ := bind_some hm
       refine WL.quiet (Runs.free rfl) rfl rfl (oq_con (r := (.int .i64 r20)) Tryz.call9 rfl rfl (fun w' s => ⟨_, (journal_Check_con r7.1 ao5 cap5  w' H25 s.hold h5 hc10 hG r20 e36)⟩)) ?_
       refine wq rfl rfl rfl (ov_eql rfl rfl rfl) ?_
       refine wq rfl rfl rfl (ov_move rfl rfl) ?_
       obtain ⟨c4, e37, hm⟩ := bind_some hm
       refine WL.cut_bool 2 92 (x := c4) ?_ ?_
       ·
        rcases Bool.eq_false_or_eq_true (r20 == 0) with hc36 | hc36
        ·
         skip
         replace hm := ite_t hc36 e37
         obtain ⟨r21, e38, hm⟩ := bind_some hm
         refine WL.quiet (Runs.yes rfl rfl rfl hc36) rfl rfl (oq_con (r := (.bool r21)) Tryz.call6 rfl rfl (fun w' s => ⟨_, (top_runLog_con   w' H25 s.hold hG r21 e38)⟩)) ?_
         refine wq rfl rfl rfl (ov_pick_true rfl (guard_eq rfl hc36) rfl) ?_
         exact WL.nil ⟨Sub.cons' rfl (congrArg Value.bool (Option.some.inj hm)) (Sub.skip rfl (Sub.skip rfl (Sub.refl _))), fun _ s => s⟩
        ·
         skip
         replace hm := ite_f hc36 e37
         refine WL.idle (Idle.no rfl rfl rfl hc36) rfl rfl ?_
         refine wq rfl rfl rfl (ov_pick_false rfl (guard_eq rfl hc36) rfl) ?_
         exact WL.nil ⟨Sub.cons' rfl (congrArg Value.bool (Option.some.inj hm)) (Sub.skip rfl (Sub.skip rfl (Sub.refl _))), fun _ s => s⟩
       refine wq rfl rfl rfl (ov_assign rfl rfl) ?_
       refine WL.nil (then_normal (WP.ret ?_))
       obtain rfl := Option.some.inj hm
       refine retQ_ret Tryz.results3 (Res.tmp rfl Res.nil) rfl (fun w' s => ⟨s.below, ?_⟩)
       exact rfl

end Go.Proofs.YtpocodofhkaddaaGreatDoor.W
