/- The walks. Written by our own program gen.py; Lean checks it. -/
import Derived.Test.YtpigfknmlmeihaaGreatDoorPlain
import Derived.Test.YtpigfknmlmeihaaGreatDoorEqs
import Derived.Test.YtpigfknmlmeihaaGreatDoorProg
import Derived.Test.YtpigfknmlmeihaaGreatDoorExt
import Derived.Test.YtpigfknmlmeihaaGreatDoorClone
import Derived.Test.YtpigfknmlmeihaaGreatDoorInsert
import Derived.Test.YtpigfknmlmeihaaGreatDoorBuild
import Derived.Test.YtpigfknmlmeihaaGreatDoorWalk2
import Derived.Test.YtpigfknmlmeihaaGreatDoorWalk3
import Derived.Test.YtpigfknmlmeihaaGreatDoorWalk6
import Derived.Test.YtpigfknmlmeihaaGreatDoorWalk7
import Derived.Test.YtpigfknmlmeihaaGreatDoorWalk8
set_option linter.unusedVariables false
set_option maxRecDepth 100000
set_option maxHeartbeats 4000000
namespace Go.Proofs.YtpigfknmlmeihaaGreatDoor.W
open Go Go.RowKit
theorem law58_JournalTears_con (p_l : (List Entry)) (p_at : Int) (ao1 : Option Addr) (cap1 : Nat) (w : World) (H : Heap) (hH : Le H (hp w)) (h1 : SL H encEntry ao1 p_l) (hc1 : p_l.length ≤ cap1) (hG : Glob H) (r : Bool) (hm : law58_JournalTears p_l p_at = some r) :
  Con Tryz.prog 6 [(.slice ao1 p_l.length cap1), (.int .u16 p_at)] w H (fun v _ => v = (.bool r)) := by
 unfold law58_JournalTears at hm
 refine con_of hH Tryz.func6 rfl 168 Tryz.ntmps6 rfl ?_
 refine WP.seq (WP.region ?_)
 refine wq rfl rfl rfl (ov_assign rfl rfl) ?_
 refine WL.nil (then_normal (WP.seq (WP.seq (WP.region ?_))))
 refine wq rfl rfl rfl (ov_move rfl rfl) ?_
 obtain ⟨r1, e1, hm⟩ := bind_some hm
 refine WL.quiet (Runs.free rfl) rfl rfl (oq_con (r := (.bool r1)) Tryz.call21 rfl rfl (fun w' s => ⟨_, (law58_right_con p_l ao1 cap1  w' H s.hold h1 hc1 hG r1 e1)⟩)) ?_
 refine wq rfl rfl rfl (ov_not rfl rfl) ?_
 refine WL.nil (then_normal ?_)
 refine WP.cond rfl (fun hc2 => ?_) (fun hc2 => ?_)
 ·
  replace hm := ite_t hc2 hm
  refine WP.seq (WP.region ?_)
  obtain ⟨r2, e2, hm⟩ := bind_some hm
  refine WL.quiet (Runs.free rfl) rfl rfl (oq_con (r := (.bool r2)) Tryz.call8 rfl rfl (fun w' s => ⟨_, (law58_awake_con   w' H s.hold hG r2 e2)⟩)) ?_
  refine wq rfl rfl rfl (ov_assign rfl rfl) ?_
  refine WL.nil (then_normal (WP.ret (then_ret ?_)))
  obtain rfl := Option.some.inj hm
  refine retQ_ret Tryz.results6 (Res.tmp rfl Res.nil) rfl (fun w' s => ⟨s.below, ?_⟩)
  exact rfl
 ·
  replace hm := ite_f hc2 hm
  refine WP.skip (then_normal (WP.seq (WP.region ?_)))
  refine wq rfl rfl rfl (ov_move rfl rfl) ?_
  obtain ⟨r3, e3, hm⟩ := bind_some hm
  refine WL.quiet (Runs.free rfl) rfl rfl (oq_con (r := (.tuple #[(mkS r3.1), (.int .i64 r3.2)])) Tryz.call22 rfl rfl (fun w' s => ⟨_, (journal_Log_con p_l ao1 cap1  w' H s.hold h1 hc1 hG r3 e3)⟩)) ?_
  refine wq rfl rfl rfl (ov_move rfl rfl) ?_
  refine wq rfl rfl rfl (ov_extract rfl rfl rfl) ?_
  refine wq rfl rfl rfl (ov_extract rfl rfl rfl) ?_
  refine wq rfl rfl rfl (ov_assign rfl rfl) ?_
  refine wq rfl rfl rfl (ov_assign rfl rfl) ?_
  refine WL.nil (then_normal (WP.seq (WP.region ?_)))
  refine wq rfl rfl rfl (ov_move rfl rfl) ?_
  obtain ⟨r4, e4, hm⟩ := bind_some hm
  refine WL.step (Runs.free rfl) rfl rfl (os_con Tryz.call23 rfl rfl (fun w' s => (journal_Run_con p_l ao1 cap1  w' H s.hold h1 hc1 hG r4 e4)) (fun rr1 H1 hle1 hR1 => ?_))
  replace h1 := h1.mono hle1
  replace hG := hG.mono hle1
  obtain ⟨ao2, cap2, rfl, h2, hc3⟩ := hR1
  refine wq rfl rfl rfl (ov_move rfl rfl) ?_
  refine wq rfl rfl rfl (ov_extract rfl rfl rfl) ?_
  refine wq rfl rfl rfl (ov_extract rfl rfl rfl) ?_
  refine wq rfl rfl rfl (ov_extract rfl rfl rfl) ?_
  refine WL.step (Runs.free rfl) rfl rfl (os_alloc (cs := [(.slice none 0 0), (.int .i64 0)]) Tryz.zeroValue41 rfl rfl (fun b1 => ?_))
  refine WL.step0 (Runs.free rfl) rfl (os_store (i := 0) (vs := [(.slice ao2 r4.1.items.length cap2), (.int .i64 r4.1.cycles)]) (cs' := [(.slice ao2 r4.1.items.length cap2), (.int .i64 r4.1.cycles)]) Tryz.sizeOf41 rfl rfl rfl rfl rfl rfl rfl rfl rfl ?_)
  refine wq rfl rfl rfl (ov_assign rfl rfl) ?_
  refine wq rfl rfl rfl (ov_assign rfl rfl) ?_
  refine WL.nil (then_normal (WP.seq (WP.region ?_)))
  refine wq rfl rfl rfl (ov_move rfl rfl) ?_
  obtain ⟨r5, e5, hm⟩ := bind_some hm
  refine WL.step (Runs.free rfl) rfl rfl (os_con Tryz.call15 rfl rfl (fun w' s => (journal_Load_con r3.1  w' H1 s.hold hG r5 e5)) (fun rr2 H2 hle2 hR2 => ?_))
  replace h1 := h1.mono hle2
  replace h2 := h2.mono hle2
  replace hG := hG.mono hle2
  obtain ⟨ao3, cap3, rfl, h3, hc4⟩ := hR2
  refine wq rfl rfl rfl (ov_move rfl rfl) ?_
  refine wq rfl rfl rfl (ov_extract rfl rfl rfl) ?_
  refine wq rfl rfl rfl (ov_extract rfl rfl rfl) ?_
  refine wq rfl rfl rfl (ov_extract rfl rfl rfl) ?_
  refine WL.step (Runs.free rfl) rfl rfl (os_alloc (cs := [(.slice none 0 0), (.int .i64 0)]) Tryz.zeroValue41 rfl rfl (fun b2 => ?_))
  refine WL.step0 (Runs.free rfl) rfl (os_store (i := 0) (vs := [(.slice ao3 r5.1.items.length cap3), (.int .i64 r5.1.cycles)]) (cs' := [(.slice ao3 r5.1.items.length cap3), (.int .i64 r5.1.cycles)]) Tryz.sizeOf41 rfl rfl rfl rfl rfl rfl rfl rfl rfl ?_)
  refine wq rfl rfl rfl (ov_assign rfl rfl) ?_
  refine wq rfl rfl rfl (ov_assign rfl rfl) ?_
  refine WL.nil (then_normal (WP.seq ?_))
  obtain ⟨k1, hk1, hm⟩ := joinK_some hm
  refine WP.seq_join (fun g' S' => ∃ (H5 : Heap) (c1 : Bool), Le H2 H5 ∧ Sub [(0, (.slice ao1 p_l.length cap1)), (1, (.int .u16 p_at)), (5, (mkS r3.1)), (69, (.bool c1)), (1000000007, (.bool false))] g' ∧ (∀ w', S' w' → St w H [] H5 w') ∧ k1 c1 = some r) ?_ ?_
  ·
   skip
   refine WP.region_any (S₀ := St w H [.blk b2 41 [(.slice ao3 r5.1.items.length cap3), (.int .i64 r5.1.cycles)], .blk b1 41 [(.slice ao2 r4.1.items.length cap2), (.int .i64 r4.1.cycles)]] H2) 26 rfl (by kernel_rfl) (fun w' s => s) (fun _ s => s.drew) ?_
   refine tq (i := 0) rfl (by kernel_rfl) rfl rfl rfl (ov_move rfl rfl) ?_
   refine tq (i := 1) rfl (by kernel_rfl) rfl rfl rfl (ov_move rfl rfl) ?_
   refine tq (i := 2) rfl (by kernel_rfl) rfl rfl rfl (ov_add rfl rfl rfl) ?_
   refine tq (i := 3) rfl (by kernel_rfl) rfl rfl rfl (ov_move rfl rfl) ?_
   refine tq (i := 4) rfl (by kernel_rfl) rfl rfl rfl (ov_add rfl rfl rfl) ?_
   refine tq (i := 5) rfl (by kernel_rfl) rfl rfl rfl (ov_neq rfl rfl rfl) ?_
   refine tq (i := 6) rfl (by kernel_rfl) rfl rfl rfl (ov_move rfl rfl) ?_
   rcases Bool.eq_false_or_eq_true ((IntKind.wrap .i64 ((IntKind.wrap .i64 (r3.2 + r4.2.2)) + r5.2.2)) != 0) with hc5 | hc5
   ·
    replace hm := ite_t hc5 hm
    refine AL.idle (i := 7) rfl (by kernel_rfl) (by kernel_rfl) (by kernel_rfl) (Idle.no rfl rfl rfl hc5) rfl rfl ?_
    refine AL.idle (i := 8) rfl (by kernel_rfl) (by kernel_rfl) (by kernel_rfl) (Idle.no rfl rfl rfl hc5) rfl rfl ?_
    refine AL.idle (i := 9) rfl (by kernel_rfl) (by kernel_rfl) (by kernel_rfl) (Idle.no rfl rfl rfl hc5) rfl rfl ?_
    refine AL.idle (i := 10) rfl (by kernel_rfl) (by kernel_rfl) (by kernel_rfl) (Idle.no rfl rfl rfl hc5) rfl rfl ?_
    refine tq (i := 11) rfl (by kernel_rfl) rfl rfl rfl (ov_pick_true rfl (guard_eq rfl hc5) rfl) ?_
    refine tq (i := 12) rfl (by kernel_rfl) rfl rfl rfl (ov_move rfl rfl) ?_
    refine AL.idle (i := 13) rfl (by kernel_rfl) (by kernel_rfl) (by kernel_rfl) (Idle.no rfl rfl rfl rfl) rfl rfl ?_
    refine AL.idle (i := 14) rfl (by kernel_rfl) (by kernel_rfl) (by kernel_rfl) (Idle.no rfl rfl rfl rfl) rfl rfl ?_
    refine AL.idle (i := 15) rfl (by kernel_rfl) (by kernel_rfl) (by kernel_rfl) (Idle.no rfl rfl rfl rfl) rfl rfl ?_
    refine AL.idle (i := 16) rfl (by kernel_rfl) (by kernel_rfl) (by kernel_rfl) (Idle.no rfl rfl rfl rfl) rfl rfl ?_
    refine AL.idle (i := 17) rfl (by kernel_rfl) (by kernel_rfl) (by kernel_rfl) (Idle.no rfl rfl rfl rfl) rfl rfl ?_
    refine AL.idle (i := 18) rfl (by kernel_rfl) (by kernel_rfl) (by kernel_rfl) (Idle.no rfl rfl rfl rfl) rfl rfl ?_
    refine tq (i := 19) rfl (by kernel_rfl) rfl rfl rfl (ov_pick_true rfl (guard_eq rfl rfl) rfl) ?_
    refine tq (i := 20) rfl (by kernel_rfl) rfl rfl rfl (ov_move rfl rfl) ?_
    refine AL.idle (i := 21) rfl (by kernel_rfl) (by kernel_rfl) (by kernel_rfl) (Idle.no rfl rfl rfl rfl) rfl rfl ?_
    refine AL.idle (i := 22) rfl (by kernel_rfl) (by kernel_rfl) (by kernel_rfl) (Idle.no rfl rfl rfl rfl) rfl rfl ?_
    refine AL.idle (i := 23) rfl (by kernel_rfl) (by kernel_rfl) (by kernel_rfl) (Idle.no rfl rfl rfl rfl) rfl rfl ?_
    refine AL.idle (i := 24) rfl (by kernel_rfl) (by kernel_rfl) (by kernel_rfl) (Idle.no rfl rfl rfl rfl) rfl rfl ?_
    refine tq (i := 25) rfl (by kernel_rfl) rfl rfl rfl (ov_pick_true rfl (guard_eq rfl rfl) rfl) ?_
    refine AL.done (by kernel_rfl) ?_
    refine then_normal ?_
    exact ⟨H2, true, (Le.refl _), (Sub.cons rfl (Sub.cons rfl (Sub.cons rfl (Sub.cons rfl (Sub.cons rfl (Sub.nil _)))))), fun w' s => (s.select [] (by decide) rfl), hm⟩
   ·
    replace hm := ite_f hc5 hm
    refine AL.take (i := 7) rfl (by kernel_rfl) (by kernel_rfl) (by kernel_rfl) (Runs.yes rfl rfl rfl hc5) rfl rfl (ov_move rfl rfl) ?_
    refine AL.take (i := 8) rfl (by kernel_rfl) (by kernel_rfl) (by kernel_rfl) (Runs.yes rfl rfl rfl hc5) rfl rfl (ov_move rfl rfl) ?_
    refine AL.take (i := 9) rfl (by kernel_rfl) (by kernel_rfl) (by kernel_rfl) (Runs.yes rfl rfl rfl hc5) rfl rfl (ov_len_slice Tryz.underlying52 rfl rfl) ?_
    refine AL.take (i := 10) rfl (by kernel_rfl) (by kernel_rfl) (by kernel_rfl) (Runs.yes rfl rfl rfl hc5) rfl rfl (ov_neq rfl rfl rfl) ?_
    refine tq (i := 11) rfl (by kernel_rfl) rfl rfl rfl (ov_pick_false rfl (guard_eq rfl hc5) rfl) ?_
    refine tq (i := 12) rfl (by kernel_rfl) rfl rfl rfl (ov_move rfl rfl) ?_
    rcases Bool.eq_false_or_eq_true (r5.2.1 != (p_l.length : Int)) with hc6 | hc6
    ·
     replace hm := ite_t hc6 hm
     refine AL.idle (i := 13) rfl (by kernel_rfl) (by kernel_rfl) (by kernel_rfl) (Idle.no rfl rfl rfl hc6) rfl rfl ?_
     refine AL.idle (i := 14) rfl (by kernel_rfl) (by kernel_rfl) (by kernel_rfl) (Idle.no rfl rfl rfl hc6) rfl rfl ?_
     refine AL.idle (i := 15) rfl (by kernel_rfl) (by kernel_rfl) (by kernel_rfl) (Idle.no rfl rfl rfl hc6) rfl rfl ?_
     refine AL.idle (i := 16) rfl (by kernel_rfl) (by kernel_rfl) (by kernel_rfl) (Idle.no rfl rfl rfl hc6) rfl rfl ?_
     refine AL.idle (i := 17) rfl (by kernel_rfl) (by kernel_rfl) (by kernel_rfl) (Idle.no rfl rfl rfl hc6) rfl rfl ?_
     refine AL.idle (i := 18) rfl (by kernel_rfl) (by kernel_rfl) (by kernel_rfl) (Idle.no rfl rfl rfl hc6) rfl rfl ?_
     refine tq (i := 19) rfl (by kernel_rfl) rfl rfl rfl (ov_pick_true rfl (guard_eq rfl hc6) rfl) ?_
     refine tq (i := 20) rfl (by kernel_rfl) rfl rfl rfl (ov_move rfl rfl) ?_
     refine AL.idle (i := 21) rfl (by kernel_rfl) (by kernel_rfl) (by kernel_rfl) (Idle.no rfl rfl rfl rfl) rfl rfl ?_
     refine AL.idle (i := 22) rfl (by kernel_rfl) (by kernel_rfl) (by kernel_rfl) (Idle.no rfl rfl rfl rfl) rfl rfl ?_
     refine AL.idle (i := 23) rfl (by kernel_rfl) (by kernel_rfl) (by kernel_rfl) (Idle.no rfl rfl rfl rfl) rfl rfl ?_
     refine AL.idle (i := 24) rfl (by kernel_rfl) (by kernel_rfl) (by kernel_rfl) (Idle.no rfl rfl rfl rfl) rfl rfl ?_
     refine tq (i := 25) rfl (by kernel_rfl) rfl rfl rfl (ov_pick_true rfl (guard_eq rfl rfl) rfl) ?_
     refine AL.done (by kernel_rfl) ?_
     refine then_normal ?_
     exact ⟨H2, true, (Le.refl _), (Sub.cons rfl (Sub.cons rfl (Sub.cons rfl (Sub.cons rfl (Sub.cons rfl (Sub.nil _)))))), fun w' s => (s.select [] (by decide) rfl), hm⟩
    ·
     replace hm := ite_f hc6 hm
     refine AL.take (i := 13) rfl (by kernel_rfl) (by kernel_rfl) (by kernel_rfl) (Runs.yes rfl rfl rfl hc6) rfl rfl (ov_load_whole (i := 0) Tryz.isAgg41 Tryz.sizeOf41 rfl rfl rfl rfl) ?_
     refine AL.take (i := 15) rfl (by kernel_rfl) (by kernel_rfl) (by kernel_rfl) (Runs.yes rfl rfl rfl hc6) rfl rfl (ov_load_whole (i := 1) Tryz.isAgg41 Tryz.sizeOf41 rfl rfl rfl rfl) ?_
     refine AL.any (rs := [14]) (by kernel_rfl) (by decide) ?_
     refine ALs.cons (i := 14) rfl (Runs.yes rfl rfl rfl hc6) rfl rfl ?_ ?_
     ·
      skip
      obtain ⟨r6, e6, hm⟩ := bind_some hm
      refine os_con Tryz.call18 rfl rfl (fun w' s => (law58_own_con r5.1 ao3 cap3  w' H2 s.hold h3 hc4 hG r6 e6)) (fun rr3 H3 hle3 hR3 => ?_)
      replace h1 := h1.mono hle3
      replace h2 := h2.mono hle3
      replace h3 := h3.mono hle3
      replace hG := hG.mono hle3
      obtain ⟨ao4, cap4, rfl, h4, hc7⟩ := hR3
      refine ⟨fun w' s => (s.heap hle3), ?_⟩
      refine AL.any (rs := [16]) (by kernel_rfl) (by decide) ?_
      refine ALs.cons (i := 16) rfl (Runs.yes rfl rfl rfl hc6) rfl rfl ?_ ?_
      ·
       skip
       obtain ⟨r7, e7, hm⟩ := bind_some hm
       refine os_con Tryz.call18 rfl rfl (fun w' s => (law58_own_con r4.1 ao2 cap2  w' H3 s.hold h2 hc3 hG r7 e7)) (fun rr4 H4 hle4 hR4 => ?_)
       replace h1 := h1.mono hle4
       replace h2 := h2.mono hle4
       replace h3 := h3.mono hle4
       replace h4 := h4.mono hle4
       replace hG := hG.mono hle4
       obtain ⟨ao5, cap5, rfl, h5, hc8⟩ := hR4
       refine ⟨fun w' s => (s.heap (hle3.trans hle4)), ?_⟩
       refine AL.any (rs := [17]) (by kernel_rfl) (by decide) ?_
       refine ALs.cons (i := 17) rfl (Runs.yes rfl rfl rfl hc6) rfl rfl ?_ ?_
       ·
        skip
        obtain ⟨r8, e8, hm⟩ := bind_some hm
        refine OQ.step (oq_con (r := (.bool r8)) Tryz.call17 rfl rfl (fun w' s => ⟨_, (ref58_Same_con r6 r7 ao4 cap4 ao5 cap5  w' H4 s.hold h4 hc7 h5 hc8 hG r8 e8)⟩)) ?_
        refine ⟨fun w' s => (s.heap (hle3.trans hle4)), ?_⟩
        refine AL.take (i := 18) rfl (by kernel_rfl) (by kernel_rfl) (by kernel_rfl) (Runs.yes rfl rfl rfl hc6) rfl rfl (ov_not rfl rfl) ?_
        refine tq (i := 19) rfl (by kernel_rfl) rfl rfl rfl (ov_pick_false rfl (guard_eq rfl hc6) rfl) ?_
        refine tq (i := 20) rfl (by kernel_rfl) rfl rfl rfl (ov_move rfl rfl) ?_
        rcases Bool.eq_false_or_eq_true (!r8) with hc9 | hc9
        ·
         replace hm := ite_t hc9 hm
         refine AL.idle (i := 21) rfl (by kernel_rfl) (by kernel_rfl) (by kernel_rfl) (Idle.no rfl rfl rfl hc9) rfl rfl ?_
         refine AL.idle (i := 22) rfl (by kernel_rfl) (by kernel_rfl) (by kernel_rfl) (Idle.no rfl rfl rfl hc9) rfl rfl ?_
         refine AL.idle (i := 23) rfl (by kernel_rfl) (by kernel_rfl) (by kernel_rfl) (Idle.no rfl rfl rfl hc9) rfl rfl ?_
         refine AL.idle (i := 24) rfl (by kernel_rfl) (by kernel_rfl) (by kernel_rfl) (Idle.no rfl rfl rfl hc9) rfl rfl ?_
         refine tq (i := 25) rfl (by kernel_rfl) rfl rfl rfl (ov_pick_true rfl (guard_eq rfl hc9) rfl) ?_
         refine AL.done (by kernel_rfl) ?_
         refine then_normal ?_
         exact ⟨H4, true, (hle3.trans hle4), (Sub.cons rfl (Sub.cons rfl (Sub.cons rfl (Sub.cons rfl (Sub.cons rfl (Sub.nil _)))))), fun w' s => (s.select [] (by decide) rfl), hm⟩
        ·
         replace hm := ite_f hc9 hm
         refine AL.take (i := 21) rfl (by kernel_rfl) (by kernel_rfl) (by kernel_rfl) (Runs.yes rfl rfl rfl hc9) rfl rfl (ov_move rfl rfl) ?_
         refine AL.take (i := 23) rfl (by kernel_rfl) (by kernel_rfl) (by kernel_rfl) (Runs.yes rfl rfl rfl hc9) rfl rfl (ov_move rfl rfl) ?_
         refine AL.any (rs := [22]) (by kernel_rfl) (by decide) ?_
         refine ALs.cons (i := 22) rfl (Runs.yes rfl rfl rfl hc9) rfl rfl ?_ ?_
         ·
          skip
          obtain ⟨r9, e9, hm⟩ := bind_some hm
          refine OQ.step (oq_con (r := (mkS r9)) Tryz.call19 rfl rfl (fun w' s => ⟨_, (journal_Repaired_con r3.1  w' H4 s.hold hG r9 e9)⟩)) ?_
          refine ⟨fun w' s => (s.heap (hle3.trans hle4)), ?_⟩
          refine AL.take (i := 24) rfl (by kernel_rfl) (by kernel_rfl) (by kernel_rfl) (Runs.yes rfl rfl rfl hc9) rfl rfl (ov_sneq rfl rfl rfl) ?_
          refine tq (i := 25) rfl (by kernel_rfl) rfl rfl rfl (ov_pick_false rfl (guard_eq rfl hc9) rfl) ?_
          refine AL.done (by kernel_rfl) ?_
          refine then_normal ?_
          exact ⟨H4, (!(r9 == r3.1)), (hle3.trans hle4), (Sub.cons rfl (Sub.cons rfl (Sub.cons rfl (Sub.cons rfl (Sub.cons rfl (Sub.nil _)))))), fun w' s => (s.select [] (by decide) rfl), hm⟩
         exact ALs.nil
       exact ALs.nil
      exact ALs.nil
     exact ALs.nil
  ·
   rintro g' S' ⟨H5, c1, hle5, hsub1, hS1, hm⟩
   refine WP.sub hsub1 (WP.weaken hS1 ?_)
   replace hm := (congrFun hk1 c1).symm.trans hm
   replace h1 := h1.mono hle5
   replace hG := hG.mono hle5
   refine WP.cond rfl (fun hc10 => ?_) (fun hc10 => ?_)
   ·
    replace hm := ite_t hc10 hm
    refine WP.seq (WP.region ?_)
    refine wq rfl rfl rfl (ov_assign rfl rfl) ?_
    refine WL.nil (then_normal (WP.ret (then_ret ?_)))
    obtain rfl := Option.some.inj hm
    refine retQ_ret Tryz.results6 (Res.tmp rfl Res.nil) rfl (fun w' s => ⟨s.below, ?_⟩)
    exact rfl
   ·
    replace hm := ite_f hc10 hm
    refine WP.skip (then_normal (WP.seq (WP.region ?_)))
    refine wq rfl rfl rfl (ov_move rfl rfl) ?_
    refine wq rfl rfl rfl (ov_move rfl rfl) ?_
    refine wq rfl rfl rfl (ov_convert_int Tryz.underlying53 Tryz.underlying3 rfl rfl) ?_
    refine wq rfl rfl rfl (ov_move rfl rfl) ?_
    refine wq rfl rfl rfl (ov_len_string Tryz.underlying9 rfl rfl) ?_
    refine wq rfl rfl rfl (ov_add rfl rfl rfl) ?_
    obtain ⟨u1, e10, hm⟩ := bind_some hm
    replace e10 := guardO_some e10
    refine wq rfl rfl rfl (ov_rem rfl rfl rfl (by simpa using e10)) ?_
    obtain ⟨s1, e11, hm⟩ := bind_some hm
    refine wq rfl rfl rfl (ov_slice_string_to Tryz.underlying9 rfl rfl rfl e11) ?_
    refine wq rfl rfl rfl (ov_assign rfl rfl) ?_
    refine WL.nil (then_normal (WP.seq (WP.region ?_)))
    refine wq rfl rfl rfl (ov_move rfl rfl) ?_
    obtain ⟨r10, e12, hm⟩ := bind_some hm
    refine WL.quiet (Runs.free rfl) rfl rfl (oq_con (r := (.int .i64 r10)) Tryz.call24 rfl rfl (fun w' s => ⟨_, (countS_con s1 [10]  w' H5 s.hold hG r10 e12)⟩)) ?_
    refine wq rfl rfl rfl (ov_assign rfl rfl) ?_
    refine WL.nil (then_normal (WP.seq (WP.region ?_)))
    refine wq rfl rfl rfl (ov_move rfl rfl) ?_
    obtain ⟨r11, e13, hm⟩ := bind_some hm
    refine WL.quiet (Runs.free rfl) rfl rfl (oq_con (r := (mkS r11)) Tryz.call19 rfl rfl (fun w' s => ⟨_, (journal_Repaired_con s1  w' H5 s.hold hG r11 e13)⟩)) ?_
    refine wq rfl rfl rfl (ov_assign rfl rfl) ?_
    refine WL.nil (then_normal (WP.seq (WP.seq (WP.region ?_))))
    refine wq rfl rfl rfl (ov_move rfl rfl) ?_
    refine wq rfl rfl rfl (ov_move rfl rfl) ?_
    refine wq rfl rfl rfl (ov_len_slice Tryz.underlying52 rfl rfl) ?_
    refine wq rfl rfl rfl (ov_gtr rfl rfl rfl) ?_
    refine wq rfl rfl rfl (ov_move rfl rfl) ?_
    obtain ⟨c2, e14, hm⟩ := bind_some hm
    refine WL.cut_bool 8 94 (x := c2) ?_ ?_
    ·
     rcases Bool.eq_false_or_eq_true (decide (r10 > (p_l.length : Int))) with hc11 | hc11
     ·
      skip
      replace hm := ite_t hc11 e14
      refine WL.idle (Idle.no rfl rfl rfl hc11) rfl rfl ?_
      refine WL.idle (Idle.no rfl rfl rfl hc11) rfl rfl ?_
      refine WL.idle (Idle.no rfl rfl rfl hc11) rfl rfl ?_
      refine WL.idle (Idle.no rfl rfl rfl hc11) rfl rfl ?_
      refine WL.idle (Idle.no rfl rfl rfl hc11) rfl rfl ?_
      refine WL.idle (Idle.no rfl rfl rfl hc11) rfl rfl ?_
      refine WL.idle (Idle.no rfl rfl rfl hc11) rfl rfl ?_
      refine wq rfl rfl rfl (ov_pick_true rfl (guard_eq rfl hc11) rfl) ?_
      exact WL.nil ⟨Sub.cons' rfl (congrArg Value.bool (Option.some.inj hm)) (Sub.skip rfl (Sub.skip rfl (Sub.skip rfl (Sub.skip rfl (Sub.skip rfl (Sub.skip rfl (Sub.skip rfl (Sub.skip rfl (Sub.refl _))))))))), fun _ s => s⟩
     ·
      skip
      replace hm := ite_f hc11 e14
      refine WL.quiet (Runs.yes rfl rfl rfl hc11) rfl rfl (OV.quiet (ov_move rfl rfl)) ?_
      refine WL.quiet (Runs.yes rfl rfl rfl hc11) rfl rfl (OV.quiet (ov_move rfl rfl)) ?_
      refine WL.quiet (Runs.yes rfl rfl rfl hc11) rfl rfl (OV.quiet (ov_move rfl rfl)) ?_
      obtain ⟨r12, e15, hm⟩ := bind_some hm
      refine WL.quiet (Runs.yes rfl rfl rfl hc11) rfl rfl (oq_con (r := (.int .i64 r12)) Tryz.call25 rfl rfl (fun w' s => ⟨_, (lastIdx_con s1 [10]  w' H5 s.hold hG r12 e15)⟩)) ?_
      refine WL.quiet (Runs.yes rfl rfl rfl hc11) rfl rfl (OV.quiet (ov_add rfl rfl rfl)) ?_
      obtain ⟨s2, e16, hm⟩ := bind_some hm
      refine WL.quiet (Runs.yes rfl rfl rfl hc11) rfl rfl (OV.quiet (ov_slice_string_to Tryz.underlying9 rfl rfl rfl e16)) ?_
      refine WL.quiet (Runs.yes rfl rfl rfl hc11) rfl rfl (OV.quiet (ov_sneq rfl rfl rfl)) ?_
      refine wq rfl rfl rfl (ov_pick_false rfl (guard_eq rfl hc11) rfl) ?_
      exact WL.nil ⟨Sub.cons' rfl (congrArg Value.bool (Option.some.inj hm)) (Sub.skip rfl (Sub.skip rfl (Sub.skip rfl (Sub.skip rfl (Sub.skip rfl (Sub.skip rfl (Sub.skip rfl (Sub.skip rfl (Sub.refl _))))))))), fun _ s => s⟩
    refine WL.nil (then_normal ?_)
    refine WP.cond rfl (fun hc12 => ?_) (fun hc12 => ?_)
    ·
     replace hm := ite_t hc12 hm
     refine WP.seq (WP.region ?_)
     refine wq rfl rfl rfl (ov_assign rfl rfl) ?_
     refine WL.nil (then_normal (WP.ret (then_ret ?_)))
     obtain rfl := Option.some.inj hm
     refine retQ_ret Tryz.results6 (Res.tmp rfl Res.nil) rfl (fun w' s => ⟨s.below, ?_⟩)
     exact rfl
    ·
     replace hm := ite_f hc12 hm
     refine WP.skip (then_normal (WP.seq (WP.region ?_)))
     refine wq rfl rfl rfl (ov_move rfl rfl) ?_
     refine wq rfl rfl rfl (ov_move rfl rfl) ?_
     obtain ⟨l1, e17, hm⟩ := bind_some hm
     obtain ⟨ao6, cap6, h6, h7, hc13⟩ := sl_h h1 hc1 e17
     refine wq rfl rfl rfl (h6 Tryz.underlying52 Tryz.sizeOf23 rfl rfl rfl ) ?_
     obtain ⟨r13, e18, hm⟩ := bind_some hm
     refine WL.quiet (Runs.free rfl) rfl rfl (oq_con (r := (.tuple #[(mkS r13.1), (.int .i64 r13.2)])) Tryz.call22 rfl rfl (fun w' s => ⟨_, (journal_Log_con l1 ao6 cap6  w' H5 s.hold h7 hc13 hG r13 e18)⟩)) ?_
     refine wq rfl rfl rfl (ov_move rfl rfl) ?_
     refine wq rfl rfl rfl (ov_extract rfl rfl rfl) ?_
     refine wq rfl rfl rfl (ov_extract rfl rfl rfl) ?_
     refine wq rfl rfl rfl (ov_assign rfl rfl) ?_
     refine wq rfl rfl rfl (ov_assign rfl rfl) ?_
     refine WL.nil (then_normal (WP.seq (WP.region ?_)))
     refine wq rfl rfl rfl (ov_move rfl rfl) ?_
     refine wq rfl rfl rfl (ov_move rfl rfl) ?_
     obtain ⟨l2, e19, hm⟩ := bind_some hm
     obtain ⟨ao7, cap7, h8, h9, hc14⟩ := sl_h h1 hc1 e19
     refine wq rfl rfl rfl (h8 Tryz.underlying52 Tryz.sizeOf23 rfl rfl rfl ) ?_
     obtain ⟨r14, e20, hm⟩ := bind_some hm
     refine WL.step (Runs.free rfl) rfl rfl (os_con Tryz.call23 rfl rfl (fun w' s => (journal_Run_con l2 ao7 cap7  w' H5 s.hold h9 hc14 hG r14 e20)) (fun rr5 H6 hle6 hR5 => ?_))
     replace h1 := h1.mono hle6
     replace h7 := h7.mono hle6
     replace h9 := h9.mono hle6
     replace hG := hG.mono hle6
     obtain ⟨ao8, cap8, rfl, h10, hc15⟩ := hR5
     refine wq rfl rfl rfl (ov_move rfl rfl) ?_
     refine wq rfl rfl rfl (ov_extract rfl rfl rfl) ?_
     refine wq rfl rfl rfl (ov_extract rfl rfl rfl) ?_
     refine wq rfl rfl rfl (ov_extract rfl rfl rfl) ?_
     refine WL.step (Runs.free rfl) rfl rfl (os_alloc (cs := [(.slice none 0 0), (.int .i64 0)]) Tryz.zeroValue41 rfl rfl (fun b3 => ?_))
     refine WL.step0 (Runs.free rfl) rfl (os_store (i := 0) (vs := [(.slice ao8 r14.1.items.length cap8), (.int .i64 r14.1.cycles)]) (cs' := [(.slice ao8 r14.1.items.length cap8), (.int .i64 r14.1.cycles)]) Tryz.sizeOf41 rfl rfl rfl rfl rfl rfl rfl rfl rfl ?_)
     refine wq rfl rfl rfl (ov_assign rfl rfl) ?_
     refine wq rfl rfl rfl (ov_assign rfl rfl) ?_
     refine WL.nil (then_normal (WP.seq (WP.region ?_)))
     refine wq rfl rfl rfl (ov_move rfl rfl) ?_
     obtain ⟨r15, e21, hm⟩ := bind_some hm
     refine WL.step (Runs.free rfl) rfl rfl (os_con Tryz.call15 rfl rfl (fun w' s => (journal_Load_con r11  w' H6 s.hold hG r15 e21)) (fun rr6 H7 hle7 hR6 => ?_))
     replace h1 := h1.mono hle7
     replace h7 := h7.mono hle7
     replace h9 := h9.mono hle7
     replace h10 := h10.mono hle7
     replace hG := hG.mono hle7
     obtain ⟨ao9, cap9, rfl, h11, hc16⟩ := hR6
     refine wq rfl rfl rfl (ov_move rfl rfl) ?_
     refine wq rfl rfl rfl (ov_extract rfl rfl rfl) ?_
     refine wq rfl rfl rfl (ov_extract rfl rfl rfl) ?_
     refine wq rfl rfl rfl (ov_extract rfl rfl rfl) ?_
     refine WL.step (Runs.free rfl) rfl rfl (os_alloc (cs := [(.slice none 0 0), (.int .i64 0)]) Tryz.zeroValue41 rfl rfl (fun b4 => ?_))
     refine WL.step0 (Runs.free rfl) rfl (os_store (i := 0) (vs := [(.slice ao9 r15.1.items.length cap9), (.int .i64 r15.1.cycles)]) (cs' := [(.slice ao9 r15.1.items.length cap9), (.int .i64 r15.1.cycles)]) Tryz.sizeOf41 rfl rfl rfl rfl rfl rfl rfl rfl rfl ?_)
     refine wq rfl rfl rfl (ov_assign rfl rfl) ?_
     refine wq rfl rfl rfl (ov_assign rfl rfl) ?_
     refine WL.nil (then_normal (WP.seq (WP.region ?_)))
     refine wq rfl rfl rfl (ov_move rfl rfl) ?_
     obtain ⟨r16, e22, hm⟩ := bind_some hm
     refine WL.step (Runs.free rfl) rfl rfl (os_con Tryz.call15 rfl rfl (fun w' s => (journal_Load_con s1  w' H7 s.hold hG r16 e22)) (fun rr7 H8 hle8 hR7 => ?_))
     replace h1 := h1.mono hle8
     replace h7 := h7.mono hle8
     replace h9 := h9.mono hle8
     replace h10 := h10.mono hle8
     replace h11 := h11.mono hle8
     replace hG := hG.mono hle8
     obtain ⟨ao10, cap10, rfl, h12, hc17⟩ := hR7
     refine wq rfl rfl rfl (ov_move rfl rfl) ?_
     refine wq rfl rfl rfl (ov_extract rfl rfl rfl) ?_
     refine wq rfl rfl rfl (ov_extract rfl rfl rfl) ?_
     refine wq rfl rfl rfl (ov_extract rfl rfl rfl) ?_
     refine WL.step (Runs.free rfl) rfl rfl (os_alloc (cs := [(.slice none 0 0), (.int .i64 0)]) Tryz.zeroValue41 rfl rfl (fun b5 => ?_))
     refine WL.step0 (Runs.free rfl) rfl (os_store (i := 0) (vs := [(.slice ao10 r16.1.items.length cap10), (.int .i64 r16.1.cycles)]) (cs' := [(.slice ao10 r16.1.items.length cap10), (.int .i64 r16.1.cycles)]) Tryz.sizeOf41 rfl rfl rfl rfl rfl rfl rfl rfl rfl ?_)
     refine wq rfl rfl rfl (ov_assign rfl rfl) ?_
     refine wq rfl rfl rfl (ov_assign rfl rfl) ?_
     refine WL.nil (then_normal (WP.seq ?_))
     obtain ⟨k2, hk2, hm⟩ := joinK_some hm
     refine WP.seq_join (fun g' S' => ∃ (H11 : Heap) (c3 : Bool), Le H8 H11 ∧ Sub [(13, (mkS s1)), (15, (mkS r11)), (22, (.int .i64 r16.2.2)), (150, (.bool c3)), (1000000007, (.bool false))] g' ∧ (∀ w', S' w' → St w H [] H11 w') ∧ k2 c3 = some r) ?_ ?_
     ·
      skip
      refine WP.region_any (S₀ := St w H [.blk b5 41 [(.slice ao10 r16.1.items.length cap10), (.int .i64 r16.1.cycles)], .blk b4 41 [(.slice ao9 r15.1.items.length cap9), (.int .i64 r15.1.cycles)], .blk b3 41 [(.slice ao8 r14.1.items.length cap8), (.int .i64 r14.1.cycles)]] H8) 29 rfl (by kernel_rfl) (fun w' s => s) (fun _ s => s.drew) ?_
      refine tq (i := 0) rfl (by kernel_rfl) rfl rfl rfl (ov_move rfl rfl) ?_
      refine tq (i := 1) rfl (by kernel_rfl) rfl rfl rfl (ov_move rfl rfl) ?_
      refine tq (i := 2) rfl (by kernel_rfl) rfl rfl rfl (ov_add rfl rfl rfl) ?_
      refine tq (i := 3) rfl (by kernel_rfl) rfl rfl rfl (ov_move rfl rfl) ?_
      refine tq (i := 4) rfl (by kernel_rfl) rfl rfl rfl (ov_add rfl rfl rfl) ?_
      refine tq (i := 5) rfl (by kernel_rfl) rfl rfl rfl (ov_neq rfl rfl rfl) ?_
      refine tq (i := 6) rfl (by kernel_rfl) rfl rfl rfl (ov_move rfl rfl) ?_
      rcases Bool.eq_false_or_eq_true ((IntKind.wrap .i64 ((IntKind.wrap .i64 (r13.2 + r14.2.2)) + r15.2.2)) != 0) with hc18 | hc18
      ·
       replace hm := ite_t hc18 hm
       refine AL.idle (i := 7) rfl (by kernel_rfl) (by kernel_rfl) (by kernel_rfl) (Idle.no rfl rfl rfl hc18) rfl rfl ?_
       refine AL.idle (i := 8) rfl (by kernel_rfl) (by kernel_rfl) (by kernel_rfl) (Idle.no rfl rfl rfl hc18) rfl rfl ?_
       refine AL.idle (i := 9) rfl (by kernel_rfl) (by kernel_rfl) (by kernel_rfl) (Idle.no rfl rfl rfl hc18) rfl rfl ?_
       refine tq (i := 10) rfl (by kernel_rfl) rfl rfl rfl (ov_pick_true rfl (guard_eq rfl hc18) rfl) ?_
       refine tq (i := 11) rfl (by kernel_rfl) rfl rfl rfl (ov_move rfl rfl) ?_
       refine AL.idle (i := 12) rfl (by kernel_rfl) (by kernel_rfl) (by kernel_rfl) (Idle.no rfl rfl rfl rfl) rfl rfl ?_
       refine AL.idle (i := 13) rfl (by kernel_rfl) (by kernel_rfl) (by kernel_rfl) (Idle.no rfl rfl rfl rfl) rfl rfl ?_
       refine AL.idle (i := 14) rfl (by kernel_rfl) (by kernel_rfl) (by kernel_rfl) (Idle.no rfl rfl rfl rfl) rfl rfl ?_
       refine tq (i := 15) rfl (by kernel_rfl) rfl rfl rfl (ov_pick_true rfl (guard_eq rfl rfl) rfl) ?_
       refine tq (i := 16) rfl (by kernel_rfl) rfl rfl rfl (ov_move rfl rfl) ?_
       refine AL.idle (i := 17) rfl (by kernel_rfl) (by kernel_rfl) (by kernel_rfl) (Idle.no rfl rfl rfl rfl) rfl rfl ?_
       refine AL.idle (i := 18) rfl (by kernel_rfl) (by kernel_rfl) (by kernel_rfl) (Idle.no rfl rfl rfl rfl) rfl rfl ?_
       refine AL.idle (i := 19) rfl (by kernel_rfl) (by kernel_rfl) (by kernel_rfl) (Idle.no rfl rfl rfl rfl) rfl rfl ?_
       refine tq (i := 20) rfl (by kernel_rfl) rfl rfl rfl (ov_pick_true rfl (guard_eq rfl rfl) rfl) ?_
       refine tq (i := 21) rfl (by kernel_rfl) rfl rfl rfl (ov_move rfl rfl) ?_
       refine AL.idle (i := 22) rfl (by kernel_rfl) (by kernel_rfl) (by kernel_rfl) (Idle.no rfl rfl rfl rfl) rfl rfl ?_
       refine AL.idle (i := 23) rfl (by kernel_rfl) (by kernel_rfl) (by kernel_rfl) (Idle.no rfl rfl rfl rfl) rfl rfl ?_
       refine AL.idle (i := 24) rfl (by kernel_rfl) (by kernel_rfl) (by kernel_rfl) (Idle.no rfl rfl rfl rfl) rfl rfl ?_
       refine AL.idle (i := 25) rfl (by kernel_rfl) (by kernel_rfl) (by kernel_rfl) (Idle.no rfl rfl rfl rfl) rfl rfl ?_
       refine AL.idle (i := 26) rfl (by kernel_rfl) (by kernel_rfl) (by kernel_rfl) (Idle.no rfl rfl rfl rfl) rfl rfl ?_
       refine AL.idle (i := 27) rfl (by kernel_rfl) (by kernel_rfl) (by kernel_rfl) (Idle.no rfl rfl rfl rfl) rfl rfl ?_
       refine tq (i := 28) rfl (by kernel_rfl) rfl rfl rfl (ov_pick_true rfl (guard_eq rfl rfl) rfl) ?_
       refine AL.done (by kernel_rfl) ?_
       refine then_normal ?_
       exact ⟨H8, true, (Le.refl _), (Sub.cons rfl (Sub.cons rfl (Sub.cons rfl (Sub.cons rfl (Sub.cons rfl (Sub.nil _)))))), fun w' s => (s.select [] (by decide) rfl), hm⟩
      ·
       replace hm := ite_f hc18 hm
       refine AL.take (i := 7) rfl (by kernel_rfl) (by kernel_rfl) (by kernel_rfl) (Runs.yes rfl rfl rfl hc18) rfl rfl (ov_move rfl rfl) ?_
       refine AL.take (i := 8) rfl (by kernel_rfl) (by kernel_rfl) (by kernel_rfl) (Runs.yes rfl rfl rfl hc18) rfl rfl (ov_move rfl rfl) ?_
       refine AL.take (i := 9) rfl (by kernel_rfl) (by kernel_rfl) (by kernel_rfl) (Runs.yes rfl rfl rfl hc18) rfl rfl (ov_sneq rfl rfl rfl) ?_
       refine tq (i := 10) rfl (by kernel_rfl) rfl rfl rfl (ov_pick_false rfl (guard_eq rfl hc18) rfl) ?_
       refine tq (i := 11) rfl (by kernel_rfl) rfl rfl rfl (ov_move rfl rfl) ?_
       rcases Bool.eq_false_or_eq_true (!(r13.1 == r11)) with hc19 | hc19
       ·
        replace hm := ite_t hc19 hm
        refine AL.idle (i := 12) rfl (by kernel_rfl) (by kernel_rfl) (by kernel_rfl) (Idle.no rfl rfl rfl hc19) rfl rfl ?_
        refine AL.idle (i := 13) rfl (by kernel_rfl) (by kernel_rfl) (by kernel_rfl) (Idle.no rfl rfl rfl hc19) rfl rfl ?_
        refine AL.idle (i := 14) rfl (by kernel_rfl) (by kernel_rfl) (by kernel_rfl) (Idle.no rfl rfl rfl hc19) rfl rfl ?_
        refine tq (i := 15) rfl (by kernel_rfl) rfl rfl rfl (ov_pick_true rfl (guard_eq rfl hc19) rfl) ?_
        refine tq (i := 16) rfl (by kernel_rfl) rfl rfl rfl (ov_move rfl rfl) ?_
        refine AL.idle (i := 17) rfl (by kernel_rfl) (by kernel_rfl) (by kernel_rfl) (Idle.no rfl rfl rfl rfl) rfl rfl ?_
        refine AL.idle (i := 18) rfl (by kernel_rfl) (by kernel_rfl) (by kernel_rfl) (Idle.no rfl rfl rfl rfl) rfl rfl ?_
        refine AL.idle (i := 19) rfl (by kernel_rfl) (by kernel_rfl) (by kernel_rfl) (Idle.no rfl rfl rfl rfl) rfl rfl ?_
        refine tq (i := 20) rfl (by kernel_rfl) rfl rfl rfl (ov_pick_true rfl (guard_eq rfl rfl) rfl) ?_
        refine tq (i := 21) rfl (by kernel_rfl) rfl rfl rfl (ov_move rfl rfl) ?_
        refine AL.idle (i := 22) rfl (by kernel_rfl) (by kernel_rfl) (by kernel_rfl) (Idle.no rfl rfl rfl rfl) rfl rfl ?_
        refine AL.idle (i := 23) rfl (by kernel_rfl) (by kernel_rfl) (by kernel_rfl) (Idle.no rfl rfl rfl rfl) rfl rfl ?_
        refine AL.idle (i := 24) rfl (by kernel_rfl) (by kernel_rfl) (by kernel_rfl) (Idle.no rfl rfl rfl rfl) rfl rfl ?_
        refine AL.idle (i := 25) rfl (by kernel_rfl) (by kernel_rfl) (by kernel_rfl) (Idle.no rfl rfl rfl rfl) rfl rfl ?_
        refine AL.idle (i := 26) rfl (by kernel_rfl) (by kernel_rfl) (by kernel_rfl) (Idle.no rfl rfl rfl rfl) rfl rfl ?_
        refine AL.idle (i := 27) rfl (by kernel_rfl) (by kernel_rfl) (by kernel_rfl) (Idle.no rfl rfl rfl rfl) rfl rfl ?_
        refine tq (i := 28) rfl (by kernel_rfl) rfl rfl rfl (ov_pick_true rfl (guard_eq rfl rfl) rfl) ?_
        refine AL.done (by kernel_rfl) ?_
        refine then_normal ?_
        exact ⟨H8, true, (Le.refl _), (Sub.cons rfl (Sub.cons rfl (Sub.cons rfl (Sub.cons rfl (Sub.cons rfl (Sub.nil _)))))), fun w' s => (s.select [] (by decide) rfl), hm⟩
       ·
        replace hm := ite_f hc19 hm
        refine AL.take (i := 12) rfl (by kernel_rfl) (by kernel_rfl) (by kernel_rfl) (Runs.yes rfl rfl rfl hc19) rfl rfl (ov_move rfl rfl) ?_
        refine AL.take (i := 13) rfl (by kernel_rfl) (by kernel_rfl) (by kernel_rfl) (Runs.yes rfl rfl rfl hc19) rfl rfl (ov_move rfl rfl) ?_
        refine AL.take (i := 14) rfl (by kernel_rfl) (by kernel_rfl) (by kernel_rfl) (Runs.yes rfl rfl rfl hc19) rfl rfl (ov_neq rfl rfl rfl) ?_
        refine tq (i := 15) rfl (by kernel_rfl) rfl rfl rfl (ov_pick_false rfl (guard_eq rfl hc19) rfl) ?_
        refine tq (i := 16) rfl (by kernel_rfl) rfl rfl rfl (ov_move rfl rfl) ?_
        rcases Bool.eq_false_or_eq_true (r15.2.1 != r10) with hc20 | hc20
        ·
         replace hm := ite_t hc20 hm
         refine AL.idle (i := 17) rfl (by kernel_rfl) (by kernel_rfl) (by kernel_rfl) (Idle.no rfl rfl rfl hc20) rfl rfl ?_
         refine AL.idle (i := 18) rfl (by kernel_rfl) (by kernel_rfl) (by kernel_rfl) (Idle.no rfl rfl rfl hc20) rfl rfl ?_
         refine AL.idle (i := 19) rfl (by kernel_rfl) (by kernel_rfl) (by kernel_rfl) (Idle.no rfl rfl rfl hc20) rfl rfl ?_
         refine tq (i := 20) rfl (by kernel_rfl) rfl rfl rfl (ov_pick_true rfl (guard_eq rfl hc20) rfl) ?_
         refine tq (i := 21) rfl (by kernel_rfl) rfl rfl rfl (ov_move rfl rfl) ?_
         refine AL.idle (i := 22) rfl (by kernel_rfl) (by kernel_rfl) (by kernel_rfl) (Idle.no rfl rfl rfl rfl) rfl rfl ?_
         refine AL.idle (i := 23) rfl (by kernel_rfl) (by kernel_rfl) (by kernel_rfl) (Idle.no rfl rfl rfl rfl) rfl rfl ?_
         refine AL.idle (i := 24) rfl (by kernel_rfl) (by kernel_rfl) (by kernel_rfl) (Idle.no rfl rfl rfl rfl) rfl rfl ?_
         refine AL.idle (i := 25) rfl (by kernel_rfl) (by kernel_rfl) (by kernel_rfl) (Idle.no rfl rfl rfl rfl) rfl rfl ?_
         refine AL.idle (i := 26) rfl (by kernel_rfl) (by kernel_rfl) (by kernel_rfl) (Idle.no rfl rfl rfl rfl) rfl rfl ?_
         refine AL.idle (i := 27) rfl (by kernel_rfl) (by kernel_rfl) (by kernel_rfl) (Idle.no rfl rfl rfl rfl) rfl rfl ?_
         refine tq (i := 28) rfl (by kernel_rfl) rfl rfl rfl (ov_pick_true rfl (guard_eq rfl rfl) rfl) ?_
         refine AL.done (by kernel_rfl) ?_
         refine then_normal ?_
         exact ⟨H8, true, (Le.refl _), (Sub.cons rfl (Sub.cons rfl (Sub.cons rfl (Sub.cons rfl (Sub.cons rfl (Sub.nil _)))))), fun w' s => (s.select [] (by decide) rfl), hm⟩
        ·
         replace hm := ite_f hc20 hm
         refine AL.take (i := 17) rfl (by kernel_rfl) (by kernel_rfl) (by kernel_rfl) (Runs.yes rfl rfl rfl hc20) rfl rfl (ov_move rfl rfl) ?_
         refine AL.take (i := 18) rfl (by kernel_rfl) (by kernel_rfl) (by kernel_rfl) (Runs.yes rfl rfl rfl hc20) rfl rfl (ov_move rfl rfl) ?_
         refine AL.take (i := 19) rfl (by kernel_rfl) (by kernel_rfl) (by kernel_rfl) (Runs.yes rfl rfl rfl hc20) rfl rfl (ov_neq rfl rfl rfl) ?_
         refine tq (i := 20) rfl (by kernel_rfl) rfl rfl rfl (ov_pick_false rfl (guard_eq rfl hc20) rfl) ?_
         refine tq (i := 21) rfl (by kernel_rfl) rfl rfl rfl (ov_move rfl rfl) ?_
         rcases Bool.eq_false_or_eq_true (r16.2.1 != r10) with hc21 | hc21
         ·
          replace hm := ite_t hc21 hm
          refine AL.idle (i := 22) rfl (by kernel_rfl) (by kernel_rfl) (by kernel_rfl) (Idle.no rfl rfl rfl hc21) rfl rfl ?_
          refine AL.idle (i := 23) rfl (by kernel_rfl) (by kernel_rfl) (by kernel_rfl) (Idle.no rfl rfl rfl hc21) rfl rfl ?_
          refine AL.idle (i := 24) rfl (by kernel_rfl) (by kernel_rfl) (by kernel_rfl) (Idle.no rfl rfl rfl hc21) rfl rfl ?_
          refine AL.idle (i := 25) rfl (by kernel_rfl) (by kernel_rfl) (by kernel_rfl) (Idle.no rfl rfl rfl hc21) rfl rfl ?_
          refine AL.idle (i := 26) rfl (by kernel_rfl) (by kernel_rfl) (by kernel_rfl) (Idle.no rfl rfl rfl hc21) rfl rfl ?_
          refine AL.idle (i := 27) rfl (by kernel_rfl) (by kernel_rfl) (by kernel_rfl) (Idle.no rfl rfl rfl hc21) rfl rfl ?_
          refine tq (i := 28) rfl (by kernel_rfl) rfl rfl rfl (ov_pick_true rfl (guard_eq rfl hc21) rfl) ?_
          refine AL.done (by kernel_rfl) ?_
          refine then_normal ?_
          exact ⟨H8, true, (Le.refl _), (Sub.cons rfl (Sub.cons rfl (Sub.cons rfl (Sub.cons rfl (Sub.cons rfl (Sub.nil _)))))), fun w' s => (s.select [] (by decide) rfl), hm⟩
         ·
          replace hm := ite_f hc21 hm
          refine AL.take (i := 22) rfl (by kernel_rfl) (by kernel_rfl) (by kernel_rfl) (Runs.yes rfl rfl rfl hc21) rfl rfl (ov_load_whole (i := 2) Tryz.isAgg41 Tryz.sizeOf41 rfl rfl rfl rfl) ?_
          refine AL.take (i := 24) rfl (by kernel_rfl) (by kernel_rfl) (by kernel_rfl) (Runs.yes rfl rfl rfl hc21) rfl rfl (ov_load_whole (i := 1) Tryz.isAgg41 Tryz.sizeOf41 rfl rfl rfl rfl) ?_
          refine AL.any (rs := [23]) (by kernel_rfl) (by decide) ?_
          refine ALs.cons (i := 23) rfl (Runs.yes rfl rfl rfl hc21) rfl rfl ?_ ?_
          ·
           skip
           obtain ⟨r17, e23, hm⟩ := bind_some hm
           refine os_con Tryz.call18 rfl rfl (fun w' s => (law58_own_con r14.1 ao8 cap8  w' H8 s.hold h10 hc15 hG r17 e23)) (fun rr8 H9 hle9 hR8 => ?_)
           replace h1 := h1.mono hle9
           replace h7 := h7.mono hle9
           replace h9 := h9.mono hle9
           replace h10 := h10.mono hle9
           replace h11 := h11.mono hle9
           replace h12 := h12.mono hle9
           replace hG := hG.mono hle9
           obtain ⟨ao11, cap11, rfl, h13, hc22⟩ := hR8
           refine ⟨fun w' s => (s.heap hle9), ?_⟩
           refine AL.any (rs := [25]) (by kernel_rfl) (by decide) ?_
           refine ALs.cons (i := 25) rfl (Runs.yes rfl rfl rfl hc21) rfl rfl ?_ ?_
           ·
            skip
            obtain ⟨r18, e24, hm⟩ := bind_some hm
            refine os_con Tryz.call18 rfl rfl (fun w' s => (law58_own_con r15.1 ao9 cap9  w' H9 s.hold h11 hc16 hG r18 e24)) (fun rr9 H10 hle10 hR9 => ?_)
            replace h1 := h1.mono hle10
            replace h7 := h7.mono hle10
            replace h9 := h9.mono hle10
            replace h10 := h10.mono hle10
            replace h11 := h11.mono hle10
            replace h12 := h12.mono hle10
            replace h13 := h13.mono hle10
            replace hG := hG.mono hle10
            obtain ⟨ao12, cap12, rfl, h14, hc23⟩ := hR9
            refine ⟨fun w' s => (s.heap (hle9.trans hle10)), ?_⟩
            refine AL.any (rs := [26]) (by kernel_rfl) (by decide) ?_
            refine ALs.cons (i := 26) rfl (Runs.yes rfl rfl rfl hc21) rfl rfl ?_ ?_
            ·
             skip
             obtain ⟨r19, e25, hm⟩ := bind_some hm
             refine OQ.step (oq_con (r := (.bool r19)) Tryz.call17 rfl rfl (fun w' s => ⟨_, (ref58_Same_con r17 r18 ao11 cap11 ao12 cap12  w' H10 s.hold h13 hc22 h14 hc23 hG r19 e25)⟩)) ?_
             refine ⟨fun w' s => (s.heap (hle9.trans hle10)), ?_⟩
             refine AL.take (i := 27) rfl (by kernel_rfl) (by kernel_rfl) (by kernel_rfl) (Runs.yes rfl rfl rfl hc21) rfl rfl (ov_not rfl rfl) ?_
             refine tq (i := 28) rfl (by kernel_rfl) rfl rfl rfl (ov_pick_false rfl (guard_eq rfl hc21) rfl) ?_
             refine AL.done (by kernel_rfl) ?_
             refine then_normal ?_
             exact ⟨H10, (!r19), (hle9.trans hle10), (Sub.cons rfl (Sub.cons rfl (Sub.cons rfl (Sub.cons rfl (Sub.cons rfl (Sub.nil _)))))), fun w' s => (s.select [] (by decide) rfl), hm⟩
            exact ALs.nil
           exact ALs.nil
          exact ALs.nil
     ·
      rintro g' S' ⟨H11, c3, hle11, hsub2, hS2, hm⟩
      refine WP.sub hsub2 (WP.weaken hS2 ?_)
      replace hm := (congrFun hk2 c3).symm.trans hm
      replace hG := hG.mono hle11
      refine WP.cond rfl (fun hc24 => ?_) (fun hc24 => ?_)
      ·
       replace hm := ite_t hc24 hm
       refine WP.seq (WP.region ?_)
       refine wq rfl rfl rfl (ov_assign rfl rfl) ?_
       refine WL.nil (then_normal (WP.ret (then_ret ?_)))
       obtain rfl := Option.some.inj hm
       refine retQ_ret Tryz.results6 (Res.tmp rfl Res.nil) rfl (fun w' s => ⟨s.below, ?_⟩)
       exact rfl
      ·
       replace hm := ite_f hc24 hm
       refine WP.skip (then_normal (WP.seq (WP.region ?_)))
       refine wq rfl rfl rfl (ov_move rfl rfl) ?_
       refine wq rfl rfl rfl (ov_eql rfl rfl rfl) ?_
       refine wq rfl rfl rfl (ov_move rfl rfl) ?_
       refine wq rfl rfl rfl (ov_move rfl rfl) ?_
       refine wq rfl rfl rfl (ov_seql rfl rfl rfl) ?_
       refine wq rfl rfl rfl (ov_beql Tryz.underlying4 rfl rfl rfl) ?_
       refine wq rfl rfl rfl (ov_move rfl rfl) ?_
       refine WL.cut_bool 7 164 (x := (((r16.2.2 == 0) == (r11 == s1)) && ((r16.2.2 == 0) || (r16.2.2 == 18)))) ?_ ?_
       ·
        rcases Bool.eq_false_or_eq_true ((r16.2.2 == 0) == (r11 == s1)) with hc25 | hc25
        ·
         skip
         refine WL.quiet (Runs.yes rfl rfl rfl hc25) rfl rfl (OV.quiet (ov_move rfl rfl)) ?_
         refine WL.quiet (Runs.yes rfl rfl rfl hc25) rfl rfl (OV.quiet (ov_eql rfl rfl rfl)) ?_
         refine WL.quiet (Runs.yes rfl rfl rfl hc25) rfl rfl (OV.quiet (ov_move rfl rfl)) ?_
         refine WL.cut_bool 3 163 (x := ((r16.2.2 == 0) || (r16.2.2 == 18))) ?_ ?_
         ·
          rcases Bool.eq_false_or_eq_true (r16.2.2 == 0) with hc26 | hc26
          ·
           skip
           refine WL.idle (Idle.no rfl rfl rfl hc26) rfl rfl ?_
           refine WL.idle (Idle.no rfl rfl rfl hc26) rfl rfl ?_
           refine WL.quiet (Runs.yes rfl rfl rfl hc25) rfl rfl (OV.quiet (ov_pick_true rfl (guard_eq rfl hc26) rfl)) ?_
           exact WL.nil ⟨Sub.cons' rfl (congrArg Value.bool (orT hc26)) (Sub.skip rfl (Sub.skip rfl (Sub.skip rfl (Sub.refl _)))), fun _ s => s⟩
          ·
           skip
           refine WL.quiet (Runs.yes rfl rfl rfl hc26) rfl rfl (OV.quiet (ov_move rfl rfl)) ?_
           refine WL.quiet (Runs.yes rfl rfl rfl hc26) rfl rfl (OV.quiet (ov_eql rfl rfl rfl)) ?_
           refine WL.quiet (Runs.yes rfl rfl rfl hc25) rfl rfl (OV.quiet (ov_pick_false rfl (guard_eq rfl hc26) rfl)) ?_
           exact WL.nil ⟨Sub.cons' rfl (congrArg Value.bool (orF hc26)) (Sub.skip rfl (Sub.skip rfl (Sub.skip rfl (Sub.refl _)))), fun _ s => s⟩
         refine wq rfl rfl rfl (ov_pick_true rfl (guard_eq rfl hc25) rfl) ?_
         exact WL.nil ⟨Sub.cons' rfl (congrArg Value.bool (andT hc25)) (Sub.skip rfl (Sub.skip rfl (Sub.skip rfl (Sub.skip rfl (Sub.skip rfl (Sub.refl _)))))), fun _ s => s⟩
        ·
         skip
         refine WL.idle (Idle.no rfl rfl rfl hc25) rfl rfl ?_
         refine WL.idle (Idle.no rfl rfl rfl hc25) rfl rfl ?_
         refine WL.idle (Idle.no rfl rfl rfl hc25) rfl rfl ?_
         refine WL.idle (Idle.undef rfl rfl rfl) rfl rfl ?_
         refine WL.idle (Idle.undef rfl rfl rfl) rfl rfl ?_
         refine WL.idle (Idle.no rfl rfl rfl hc25) rfl rfl ?_
         refine wq rfl rfl rfl (ov_pick_false rfl (guard_eq rfl hc25) rfl) ?_
         exact WL.nil ⟨Sub.cons' rfl (congrArg Value.bool (andF hc25)) (Sub.skip rfl (Sub.skip rfl (Sub.skip rfl (Sub.skip rfl (Sub.skip rfl (Sub.skip rfl (Sub.skip rfl (Sub.refl _)))))))), fun _ s => s⟩
       refine wq rfl rfl rfl (ov_move rfl rfl) ?_
       obtain ⟨c4, e26, hm⟩ := bind_some hm
       refine WL.cut_bool 2 167 (x := c4) ?_ ?_
       ·
        rcases Bool.eq_false_or_eq_true (((r16.2.2 == 0) == (r11 == s1)) && ((r16.2.2 == 0) || (r16.2.2 == 18))) with hc27 | hc27
        ·
         skip
         replace hm := ite_t hc27 e26
         obtain ⟨r20, e27, hm⟩ := bind_some hm
         refine WL.quiet (Runs.yes rfl rfl rfl hc27) rfl rfl (oq_con (r := (.bool r20)) Tryz.call8 rfl rfl (fun w' s => ⟨_, (law58_awake_con   w' H11 s.hold hG r20 e27)⟩)) ?_
         refine wq rfl rfl rfl (ov_pick_true rfl (guard_eq rfl hc27) rfl) ?_
         exact WL.nil ⟨Sub.cons' rfl (congrArg Value.bool (Option.some.inj hm)) (Sub.skip rfl (Sub.skip rfl (Sub.refl _))), fun _ s => s⟩
        ·
         skip
         replace hm := ite_f hc27 e26
         refine WL.idle (Idle.no rfl rfl rfl hc27) rfl rfl ?_
         refine wq rfl rfl rfl (ov_pick_false rfl (guard_eq rfl hc27) rfl) ?_
         exact WL.nil ⟨Sub.cons' rfl (congrArg Value.bool (Option.some.inj hm)) (Sub.skip rfl (Sub.skip rfl (Sub.refl _))), fun _ s => s⟩
       refine wq rfl rfl rfl (ov_assign rfl rfl) ?_
       refine WL.nil (then_normal (WP.ret ?_))
       obtain rfl := Option.some.inj hm
       refine retQ_ret Tryz.results6 (Res.tmp rfl Res.nil) rfl (fun w' s => ⟨s.below, ?_⟩)
       exact rfl

end Go.Proofs.YtpigfknmlmeihaaGreatDoor.W
