/- The walks. Written by our own program gen.py; Lean checks it. -/
import Derived.Test.YtpigfknmlmeihaaGreatDoorPlain
import Derived.Test.YtpigfknmlmeihaaGreatDoorEqs
import Derived.Test.YtpigfknmlmeihaaGreatDoorProg
import Derived.Test.YtpigfknmlmeihaaGreatDoorExt
import Derived.Test.YtpigfknmlmeihaaGreatDoorClone
import Derived.Test.YtpigfknmlmeihaaGreatDoorInsert
import Derived.Test.YtpigfknmlmeihaaGreatDoorBuild
import Derived.Test.YtpigfknmlmeihaaGreatDoorWalk3
import Derived.Test.YtpigfknmlmeihaaGreatDoorWalk6
import Derived.Test.YtpigfknmlmeihaaGreatDoorWalk7
import Derived.Test.YtpigfknmlmeihaaGreatDoorWalk8
set_option linter.unusedVariables false
set_option maxRecDepth 100000
set_option maxHeartbeats 4000000
namespace Go.Proofs.YtpigfknmlmeihaaGreatDoor.W
open Go Go.RowKit
theorem law58_JournalLoads_con (p_s : (List UInt8)) (w : World) (H : Heap) (hH : Le H (hp w)) (hG : Glob H) (r : Bool) (hm : law58_JournalLoads p_s = some r) :
  Con Tryz.prog 5 [(mkS p_s)] w H (fun v _ => v = (.bool r)) := by
 unfold law58_JournalLoads at hm
 refine con_of hH Tryz.func5 rfl 49 Tryz.ntmps5 rfl ?_
 refine WP.seq (WP.region ?_)
 refine wq rfl rfl rfl (ov_assign rfl rfl) ?_
 refine WL.nil (then_normal (WP.seq (WP.seq (WP.region ?_))))
 refine wq rfl rfl rfl (ov_move rfl rfl) ?_
 obtain ⟨r1, e1, hm⟩ := bind_some hm
 refine WL.quiet (Runs.free rfl) rfl rfl (oq_con (r := (.bool r1)) Tryz.call14 rfl rfl (fun w' s => ⟨_, (ref58_Short_con p_s  w' H s.hold hG r1 e1)⟩)) ?_
 refine wq rfl rfl rfl (ov_not rfl rfl) ?_
 refine WL.nil (then_normal ?_)
 refine WP.cond rfl (fun hc1 => ?_) (fun hc1 => ?_)
 ·
  replace hm := ite_t hc1 hm
  refine WP.seq (WP.region ?_)
  obtain ⟨r2, e2, hm⟩ := bind_some hm
  refine WL.quiet (Runs.free rfl) rfl rfl (oq_con (r := (.bool r2)) Tryz.call8 rfl rfl (fun w' s => ⟨_, (law58_awake_con   w' H s.hold hG r2 e2)⟩)) ?_
  refine wq rfl rfl rfl (ov_assign rfl rfl) ?_
  refine WL.nil (then_normal (WP.ret (then_ret ?_)))
  obtain rfl := Option.some.inj hm
  refine retQ_ret Tryz.results5 (Res.tmp rfl Res.nil) rfl (fun w' s => ⟨s.below, ?_⟩)
  exact rfl
 ·
  replace hm := ite_f hc1 hm
  refine WP.skip (then_normal (WP.seq (WP.region ?_)))
  refine wq rfl rfl rfl (ov_move rfl rfl) ?_
  obtain ⟨r3, e3, hm⟩ := bind_some hm
  refine WL.step (Runs.free rfl) rfl rfl (os_con Tryz.call15 rfl rfl (fun w' s => (journal_Load_con p_s  w' H s.hold hG r3 e3)) (fun rr1 H1 hle1 hR1 => ?_))
  replace hG := hG.mono hle1
  obtain ⟨ao1, cap1, rfl, h1, hc2⟩ := hR1
  refine wq rfl rfl rfl (ov_move rfl rfl) ?_
  refine wq rfl rfl rfl (ov_extract rfl rfl rfl) ?_
  refine wq rfl rfl rfl (ov_extract rfl rfl rfl) ?_
  refine wq rfl rfl rfl (ov_extract rfl rfl rfl) ?_
  refine WL.step (Runs.free rfl) rfl rfl (os_alloc (cs := [(.slice none 0 0), (.int .i64 0)]) Tryz.zeroValue41 rfl rfl (fun b1 => ?_))
  refine WL.step0 (Runs.free rfl) rfl (os_store (i := 0) (vs := [(.slice ao1 r3.1.items.length cap1), (.int .i64 r3.1.cycles)]) (cs' := [(.slice ao1 r3.1.items.length cap1), (.int .i64 r3.1.cycles)]) Tryz.sizeOf41 rfl rfl rfl rfl rfl rfl rfl rfl rfl ?_)
  refine wq rfl rfl rfl (ov_assign rfl rfl) ?_
  refine wq rfl rfl rfl (ov_assign rfl rfl) ?_
  refine WL.nil (then_normal (WP.seq (WP.region ?_)))
  refine wq rfl rfl rfl (ov_move rfl rfl) ?_
  obtain ⟨r4, e4, hm⟩ := bind_some hm
  refine WL.step (Runs.free rfl) rfl rfl (os_con Tryz.call16 rfl rfl (fun w' s => (ref58_Load_con p_s  w' H1 s.hold hG r4 e4)) (fun rr2 H2 hle2 hR2 => ?_))
  replace h1 := h1.mono hle2
  replace hG := hG.mono hle2
  obtain ⟨ao2, cap2, rfl, h2, hc3⟩ := hR2
  refine wq rfl rfl rfl (ov_move rfl rfl) ?_
  refine wq rfl rfl rfl (ov_extract rfl rfl rfl) ?_
  refine wq rfl rfl rfl (ov_extract rfl rfl rfl) ?_
  refine wq rfl rfl rfl (ov_extract rfl rfl rfl) ?_
  refine WL.step (Runs.free rfl) rfl rfl (os_alloc (cs := [(.slice none 0 0), (.int .i64 0)]) Tryz.zeroValue46 rfl rfl (fun b2 => ?_))
  refine WL.step0 (Runs.free rfl) rfl (os_store (i := 0) (vs := [(.slice ao2 r4.1.items.length cap2), (.int .i64 r4.1.cycles)]) (cs' := [(.slice ao2 r4.1.items.length cap2), (.int .i64 r4.1.cycles)]) Tryz.sizeOf46 rfl rfl rfl rfl rfl rfl rfl rfl rfl ?_)
  refine wq rfl rfl rfl (ov_assign rfl rfl) ?_
  refine wq rfl rfl rfl (ov_assign rfl rfl) ?_
  refine WL.nil (then_normal (WP.seq ?_))
  refine WP.region_any (S₀ := St w H [.blk b2 46 [(.slice ao2 r4.1.items.length cap2), (.int .i64 r4.1.cycles)], .blk b1 41 [(.slice ao1 r3.1.items.length cap1), (.int .i64 r3.1.cycles)]] H2) 25 rfl (by kernel_rfl) (fun w' s => s) (fun _ s => s.drew) ?_
  refine AL.any (rs := [0]) (by kernel_rfl) (by decide) ?_
  refine ALs.cons (i := 0) rfl (Runs.free rfl) rfl rfl ?_ ?_
  ·
   skip
   obtain ⟨r5, e5, hm⟩ := bind_some hm
   refine OQ.step (oq_con (r := (.bool r5)) Tryz.call8 rfl rfl (fun w' s => ⟨_, (law58_awake_con   w' H2 s.hold hG r5 e5)⟩)) ?_
   refine ⟨fun w' s => s, ?_⟩
   refine tq (i := 1) rfl (by kernel_rfl) rfl rfl rfl (ov_move rfl rfl) ?_
   rcases Bool.eq_false_or_eq_true r5 with hc4 | hc4
   ·
    replace hm := ite_t hc4 hm
    refine AL.take (i := 2) rfl (by kernel_rfl) (by kernel_rfl) (by kernel_rfl) (Runs.yes rfl rfl rfl hc4) rfl rfl (ov_load_whole (i := 1) Tryz.isAgg41 Tryz.sizeOf41 rfl rfl rfl rfl) ?_
    refine AL.take (i := 4) rfl (by kernel_rfl) (by kernel_rfl) (by kernel_rfl) (Runs.yes rfl rfl rfl hc4) rfl rfl (ov_load_whole (i := 0) Tryz.isAgg46 Tryz.sizeOf46 rfl rfl rfl rfl) ?_
    refine AL.any (rs := [3]) (by kernel_rfl) (by decide) ?_
    refine ALs.cons (i := 3) rfl (Runs.yes rfl rfl rfl hc4) rfl rfl ?_ ?_
    ·
     skip
     obtain ⟨r6, e6, hm⟩ := bind_some hm
     refine os_con Tryz.call18 rfl rfl (fun w' s => (law58_own_con r3.1 ao1 cap1  w' H2 s.hold h1 hc2 hG r6 e6)) (fun rr3 H3 hle3 hR3 => ?_)
     replace h1 := h1.mono hle3
     replace h2 := h2.mono hle3
     replace hG := hG.mono hle3
     obtain ⟨ao3, cap3, rfl, h3, hc5⟩ := hR3
     refine ⟨fun w' s => (s.heap hle3), ?_⟩
     refine AL.any (rs := [5]) (by kernel_rfl) (by decide) ?_
     refine ALs.cons (i := 5) rfl (Runs.yes rfl rfl rfl hc4) rfl rfl ?_ ?_
     ·
      skip
      obtain ⟨r7, e7, hm⟩ := bind_some hm
      refine OQ.step (oq_con (r := (.bool r7)) Tryz.call17 rfl rfl (fun w' s => ⟨_, (ref58_Same_con r6 r4.1 ao3 cap3 ao2 cap2  w' H3 s.hold h3 hc5 h2 hc3 hG r7 e7)⟩)) ?_
      refine ⟨fun w' s => (s.heap hle3), ?_⟩
      refine tq (i := 6) rfl (by kernel_rfl) rfl rfl rfl (ov_pick_true rfl (guard_eq rfl hc4) rfl) ?_
      refine tq (i := 7) rfl (by kernel_rfl) rfl rfl rfl (ov_move rfl rfl) ?_
      rcases Bool.eq_false_or_eq_true r7 with hc6 | hc6
      ·
       replace hm := ite_t hc6 hm
       refine AL.take (i := 8) rfl (by kernel_rfl) (by kernel_rfl) (by kernel_rfl) (Runs.yes rfl rfl rfl hc6) rfl rfl (ov_move rfl rfl) ?_
       refine AL.take (i := 9) rfl (by kernel_rfl) (by kernel_rfl) (by kernel_rfl) (Runs.yes rfl rfl rfl hc6) rfl rfl (ov_move rfl rfl) ?_
       refine AL.take (i := 10) rfl (by kernel_rfl) (by kernel_rfl) (by kernel_rfl) (Runs.yes rfl rfl rfl hc6) rfl rfl (ov_eql rfl rfl rfl) ?_
       refine tq (i := 11) rfl (by kernel_rfl) rfl rfl rfl (ov_pick_true rfl (guard_eq rfl hc6) rfl) ?_
       refine tq (i := 12) rfl (by kernel_rfl) rfl rfl rfl (ov_move rfl rfl) ?_
       rcases Bool.eq_false_or_eq_true (r3.2.1 == r4.2.1) with hc7 | hc7
       ·
        replace hm := ite_t hc7 hm
        refine AL.take (i := 13) rfl (by kernel_rfl) (by kernel_rfl) (by kernel_rfl) (Runs.yes rfl rfl rfl hc7) rfl rfl (ov_move rfl rfl) ?_
        refine AL.take (i := 14) rfl (by kernel_rfl) (by kernel_rfl) (by kernel_rfl) (Runs.yes rfl rfl rfl hc7) rfl rfl (ov_move rfl rfl) ?_
        refine AL.take (i := 15) rfl (by kernel_rfl) (by kernel_rfl) (by kernel_rfl) (Runs.yes rfl rfl rfl hc7) rfl rfl (ov_eql rfl rfl rfl) ?_
        refine tq (i := 16) rfl (by kernel_rfl) rfl rfl rfl (ov_pick_true rfl (guard_eq rfl hc7) rfl) ?_
        refine tq (i := 17) rfl (by kernel_rfl) rfl rfl rfl (ov_move rfl rfl) ?_
        rcases Bool.eq_false_or_eq_true (r3.2.2 == r4.2.2) with hc8 | hc8
        ·
         replace hm := ite_t hc8 hm
         refine AL.take (i := 18) rfl (by kernel_rfl) (by kernel_rfl) (by kernel_rfl) (Runs.yes rfl rfl rfl hc8) rfl rfl (ov_move rfl rfl) ?_
         refine AL.take (i := 20) rfl (by kernel_rfl) (by kernel_rfl) (by kernel_rfl) (Runs.yes rfl rfl rfl hc8) rfl rfl (ov_move rfl rfl) ?_
         refine AL.any (rs := [19]) (by kernel_rfl) (by decide) ?_
         refine ALs.cons (i := 19) rfl (Runs.yes rfl rfl rfl hc8) rfl rfl ?_ ?_
         ·
          skip
          obtain ⟨r8, e8, hm⟩ := bind_some hm
          refine OQ.step (oq_con (r := (mkS r8)) Tryz.call19 rfl rfl (fun w' s => ⟨_, (journal_Repaired_con p_s  w' H3 s.hold hG r8 e8)⟩)) ?_
          refine ⟨fun w' s => (s.heap hle3), ?_⟩
          refine AL.any (rs := [21]) (by kernel_rfl) (by decide) ?_
          refine ALs.cons (i := 21) rfl (Runs.yes rfl rfl rfl hc8) rfl rfl ?_ ?_
          ·
           skip
           obtain ⟨r9, e9, hm⟩ := bind_some hm
           refine OQ.step (oq_con (r := (mkS r9)) Tryz.call20 rfl rfl (fun w' s => ⟨_, (ref58_Repaired_con p_s  w' H3 s.hold hG r9 e9)⟩)) ?_
           refine ⟨fun w' s => (s.heap hle3), ?_⟩
           refine AL.take (i := 22) rfl (by kernel_rfl) (by kernel_rfl) (by kernel_rfl) (Runs.yes rfl rfl rfl hc8) rfl rfl (ov_seql rfl rfl rfl) ?_
           refine tq (i := 23) rfl (by kernel_rfl) rfl rfl rfl (ov_pick_true rfl (guard_eq rfl hc8) rfl) ?_
           refine tq (i := 24) rfl (by kernel_rfl) rfl rfl rfl (ov_assign rfl rfl) ?_
           refine AL.done (by kernel_rfl) ?_
           refine then_normal (WP.ret ?_)
           obtain rfl := Option.some.inj hm
           refine retQ_ret Tryz.results5 (Res.tmp rfl Res.nil) rfl (fun w' s => ⟨s.below, ?_⟩)
           exact rfl
          exact ALs.nil
         exact ALs.nil
        ·
         replace hm := ite_f hc8 hm
         refine AL.idle (i := 18) rfl (by kernel_rfl) (by kernel_rfl) (by kernel_rfl) (Idle.no rfl rfl rfl hc8) rfl rfl ?_
         refine AL.idle (i := 19) rfl (by kernel_rfl) (by kernel_rfl) (by kernel_rfl) (Idle.no rfl rfl rfl hc8) rfl rfl ?_
         refine AL.idle (i := 20) rfl (by kernel_rfl) (by kernel_rfl) (by kernel_rfl) (Idle.no rfl rfl rfl hc8) rfl rfl ?_
         refine AL.idle (i := 21) rfl (by kernel_rfl) (by kernel_rfl) (by kernel_rfl) (Idle.no rfl rfl rfl hc8) rfl rfl ?_
         refine AL.idle (i := 22) rfl (by kernel_rfl) (by kernel_rfl) (by kernel_rfl) (Idle.no rfl rfl rfl hc8) rfl rfl ?_
         refine tq (i := 23) rfl (by kernel_rfl) rfl rfl rfl (ov_pick_false rfl (guard_eq rfl hc8) rfl) ?_
         refine tq (i := 24) rfl (by kernel_rfl) rfl rfl rfl (ov_assign rfl rfl) ?_
         refine AL.done (by kernel_rfl) ?_
         refine then_normal (WP.ret ?_)
         obtain rfl := Option.some.inj hm
         refine retQ_ret Tryz.results5 (Res.tmp rfl Res.nil) rfl (fun w' s => ⟨s.below, ?_⟩)
         exact rfl
       ·
        replace hm := ite_f hc7 hm
        refine AL.idle (i := 13) rfl (by kernel_rfl) (by kernel_rfl) (by kernel_rfl) (Idle.no rfl rfl rfl hc7) rfl rfl ?_
        refine AL.idle (i := 14) rfl (by kernel_rfl) (by kernel_rfl) (by kernel_rfl) (Idle.no rfl rfl rfl hc7) rfl rfl ?_
        refine AL.idle (i := 15) rfl (by kernel_rfl) (by kernel_rfl) (by kernel_rfl) (Idle.no rfl rfl rfl hc7) rfl rfl ?_
        refine tq (i := 16) rfl (by kernel_rfl) rfl rfl rfl (ov_pick_false rfl (guard_eq rfl hc7) rfl) ?_
        refine tq (i := 17) rfl (by kernel_rfl) rfl rfl rfl (ov_move rfl rfl) ?_
        refine AL.idle (i := 18) rfl (by kernel_rfl) (by kernel_rfl) (by kernel_rfl) (Idle.no rfl rfl rfl rfl) rfl rfl ?_
        refine AL.idle (i := 19) rfl (by kernel_rfl) (by kernel_rfl) (by kernel_rfl) (Idle.no rfl rfl rfl rfl) rfl rfl ?_
        refine AL.idle (i := 20) rfl (by kernel_rfl) (by kernel_rfl) (by kernel_rfl) (Idle.no rfl rfl rfl rfl) rfl rfl ?_
        refine AL.idle (i := 21) rfl (by kernel_rfl) (by kernel_rfl) (by kernel_rfl) (Idle.no rfl rfl rfl rfl) rfl rfl ?_
        refine AL.idle (i := 22) rfl (by kernel_rfl) (by kernel_rfl) (by kernel_rfl) (Idle.no rfl rfl rfl rfl) rfl rfl ?_
        refine tq (i := 23) rfl (by kernel_rfl) rfl rfl rfl (ov_pick_false rfl (guard_eq rfl rfl) rfl) ?_
        refine tq (i := 24) rfl (by kernel_rfl) rfl rfl rfl (ov_assign rfl rfl) ?_
        refine AL.done (by kernel_rfl) ?_
        refine then_normal (WP.ret ?_)
        obtain rfl := Option.some.inj hm
        refine retQ_ret Tryz.results5 (Res.tmp rfl Res.nil) rfl (fun w' s => ⟨s.below, ?_⟩)
        exact rfl
      ·
       replace hm := ite_f hc6 hm
       refine AL.idle (i := 8) rfl (by kernel_rfl) (by kernel_rfl) (by kernel_rfl) (Idle.no rfl rfl rfl hc6) rfl rfl ?_
       refine AL.idle (i := 9) rfl (by kernel_rfl) (by kernel_rfl) (by kernel_rfl) (Idle.no rfl rfl rfl hc6) rfl rfl ?_
       refine AL.idle (i := 10) rfl (by kernel_rfl) (by kernel_rfl) (by kernel_rfl) (Idle.no rfl rfl rfl hc6) rfl rfl ?_
       refine tq (i := 11) rfl (by kernel_rfl) rfl rfl rfl (ov_pick_false rfl (guard_eq rfl hc6) rfl) ?_
       refine tq (i := 12) rfl (by kernel_rfl) rfl rfl rfl (ov_move rfl rfl) ?_
       refine AL.idle (i := 13) rfl (by kernel_rfl) (by kernel_rfl) (by kernel_rfl) (Idle.no rfl rfl rfl rfl) rfl rfl ?_
       refine AL.idle (i := 14) rfl (by kernel_rfl) (by kernel_rfl) (by kernel_rfl) (Idle.no rfl rfl rfl rfl) rfl rfl ?_
       refine AL.idle (i := 15) rfl (by kernel_rfl) (by kernel_rfl) (by kernel_rfl) (Idle.no rfl rfl rfl rfl) rfl rfl ?_
       refine tq (i := 16) rfl (by kernel_rfl) rfl rfl rfl (ov_pick_false rfl (guard_eq rfl rfl) rfl) ?_
       refine tq (i := 17) rfl (by kernel_rfl) rfl rfl rfl (ov_move rfl rfl) ?_
       refine AL.idle (i := 18) rfl (by kernel_rfl) (by kernel_rfl) (by kernel_rfl) (Idle.no rfl rfl rfl rfl) rfl rfl ?_
       refine AL.idle (i := 19) rfl (by kernel_rfl) (by kernel_rfl) (by kernel_rfl) (Idle.no rfl rfl rfl rfl) rfl rfl ?_
       refine AL.idle (i := 20) rfl (by kernel_rfl) (by kernel_rfl) (by kernel_rfl) (Idle.no rfl rfl rfl rfl) rfl rfl ?_
       refine AL.idle (i := 21) rfl (by kernel_rfl) (by kernel_rfl) (by kernel_rfl) (Idle.no rfl rfl rfl rfl) rfl rfl ?_
       refine AL.idle (i := 22) rfl (by kernel_rfl) (by kernel_rfl) (by kernel_rfl) (Idle.no rfl rfl rfl rfl) rfl rfl ?_
       refine tq (i := 23) rfl (by kernel_rfl) rfl rfl rfl (ov_pick_false rfl (guard_eq rfl rfl) rfl) ?_
       refine tq (i := 24) rfl (by kernel_rfl) rfl rfl rfl (ov_assign rfl rfl) ?_
       refine AL.done (by kernel_rfl) ?_
       refine then_normal (WP.ret ?_)
       obtain rfl := Option.some.inj hm
       refine retQ_ret Tryz.results5 (Res.tmp rfl Res.nil) rfl (fun w' s => ⟨s.below, ?_⟩)
       exact rfl
     exact ALs.nil
    exact ALs.nil
   ·
    replace hm := ite_f hc4 hm
    refine AL.idle (i := 2) rfl (by kernel_rfl) (by kernel_rfl) (by kernel_rfl) (Idle.no rfl rfl rfl hc4) rfl rfl ?_
    refine AL.idle (i := 3) rfl (by kernel_rfl) (by kernel_rfl) (by kernel_rfl) (Idle.no rfl rfl rfl hc4) rfl rfl ?_
    refine AL.idle (i := 4) rfl (by kernel_rfl) (by kernel_rfl) (by kernel_rfl) (Idle.no rfl rfl rfl hc4) rfl rfl ?_
    refine AL.idle (i := 5) rfl (by kernel_rfl) (by kernel_rfl) (by kernel_rfl) (Idle.no rfl rfl rfl hc4) rfl rfl ?_
    refine tq (i := 6) rfl (by kernel_rfl) rfl rfl rfl (ov_pick_false rfl (guard_eq rfl hc4) rfl) ?_
    refine tq (i := 7) rfl (by kernel_rfl) rfl rfl rfl (ov_move rfl rfl) ?_
    refine AL.idle (i := 8) rfl (by kernel_rfl) (by kernel_rfl) (by kernel_rfl) (Idle.no rfl rfl rfl rfl) rfl rfl ?_
    refine AL.idle (i := 9) rfl (by kernel_rfl) (by kernel_rfl) (by kernel_rfl) (Idle.no rfl rfl rfl rfl) rfl rfl ?_
    refine AL.idle (i := 10) rfl (by kernel_rfl) (by kernel_rfl) (by kernel_rfl) (Idle.no rfl rfl rfl rfl) rfl rfl ?_
    refine tq (i := 11) rfl (by kernel_rfl) rfl rfl rfl (ov_pick_false rfl (guard_eq rfl rfl) rfl) ?_
    refine tq (i := 12) rfl (by kernel_rfl) rfl rfl rfl (ov_move rfl rfl) ?_
    refine AL.idle (i := 13) rfl (by kernel_rfl) (by kernel_rfl) (by kernel_rfl) (Idle.no rfl rfl rfl rfl) rfl rfl ?_
    refine AL.idle (i := 14) rfl (by kernel_rfl) (by kernel_rfl) (by kernel_rfl) (Idle.no rfl rfl rfl rfl) rfl rfl ?_
    refine AL.idle (i := 15) rfl (by kernel_rfl) (by kernel_rfl) (by kernel_rfl) (Idle.no rfl rfl rfl rfl) rfl rfl ?_
    refine tq (i := 16) rfl (by kernel_rfl) rfl rfl rfl (ov_pick_false rfl (guard_eq rfl rfl) rfl) ?_
    refine tq (i := 17) rfl (by kernel_rfl) rfl rfl rfl (ov_move rfl rfl) ?_
    refine AL.idle (i := 18) rfl (by kernel_rfl) (by kernel_rfl) (by kernel_rfl) (Idle.no rfl rfl rfl rfl) rfl rfl ?_
    refine AL.idle (i := 19) rfl (by kernel_rfl) (by kernel_rfl) (by kernel_rfl) (Idle.no rfl rfl rfl rfl) rfl rfl ?_
    refine AL.idle (i := 20) rfl (by kernel_rfl) (by kernel_rfl) (by kernel_rfl) (Idle.no rfl rfl rfl rfl) rfl rfl ?_
    refine AL.idle (i := 21) rfl (by kernel_rfl) (by kernel_rfl) (by kernel_rfl) (Idle.no rfl rfl rfl rfl) rfl rfl ?_
    refine AL.idle (i := 22) rfl (by kernel_rfl) (by kernel_rfl) (by kernel_rfl) (Idle.no rfl rfl rfl rfl) rfl rfl ?_
    refine tq (i := 23) rfl (by kernel_rfl) rfl rfl rfl (ov_pick_false rfl (guard_eq rfl rfl) rfl) ?_
    refine tq (i := 24) rfl (by kernel_rfl) rfl rfl rfl (ov_assign rfl rfl) ?_
    refine AL.done (by kernel_rfl) ?_
    refine then_normal (WP.ret ?_)
    obtain rfl := Option.some.inj hm
    refine retQ_ret Tryz.results5 (Res.tmp rfl Res.nil) rfl (fun w' s => ⟨s.below, ?_⟩)
    exact rfl
  exact ALs.nil

end Go.Proofs.YtpigfknmlmeihaaGreatDoor.W
