/- The walks. Written by our own program gen.py; Lean checks it. -/
import Derived.Test.YtpocodofhkaddaaGreatDoorPlain
import Derived.Test.YtpocodofhkaddaaGreatDoorEqs
import Derived.Test.YtpocodofhkaddaaGreatDoorProg
import Derived.Test.YtpocodofhkaddaaGreatDoorExt
import Derived.Test.YtpocodofhkaddaaGreatDoorClone
import Derived.Test.YtpocodofhkaddaaGreatDoorCloneE
import Derived.Test.YtpocodofhkaddaaGreatDoorInsert
import Derived.Test.YtpocodofhkaddaaGreatDoorBuild
import Derived.Test.YtpocodofhkaddaaGreatDoorWalk0
import Derived.Test.YtpocodofhkaddaaGreatDoorWalk2
import Derived.Test.YtpocodofhkaddaaGreatDoorWalk3
import Derived.Test.YtpocodofhkaddaaGreatDoorWalk4
import Derived.Test.YtpocodofhkaddaaGreatDoorWalk5
import Derived.Test.YtpocodofhkaddaaGreatDoorWalk6
set_option linter.unusedVariables false
set_option maxRecDepth 100000
set_option maxHeartbeats 4000000
namespace Go.Proofs.YtpocodofhkaddaaGreatDoor.W
open Go Go.RowKit
theorem top_TopLogsParts_con (p_l : (List Entry)) (p_at : Int) (ao1 : Option Addr) (cap1 : Nat) (w : World) (H : Heap) (hH : Le H (hp w)) (h1 : SL H encEntry ao1 p_l) (hc1 : p_l.length ≤ cap1) (hG : Glob H) (r : Bool) (hm : top_TopLogsParts p_l p_at = some r) :
  Con Tryz.prog 4 [(.slice ao1 p_l.length cap1), (.int .u8 p_at)] w H (fun v _ => v = (.bool r)) := by
 unfold top_TopLogsParts at hm
 refine con_of hH Tryz.func4 rfl 115 Tryz.ntmps4 rfl ?_
 refine WP.seq (WP.region ?_)
 refine wq rfl rfl rfl (ov_assign rfl rfl) ?_
 refine WL.nil (then_normal (WP.seq (WP.region ?_)))
 refine wq rfl rfl rfl (ov_move rfl rfl) ?_
 obtain ⟨r1, e1, hm⟩ := bind_some hm
 refine WL.step (Runs.free rfl) rfl rfl (os_con Tryz.call5 rfl rfl (fun w' s => (top_runEntries_con p_l ao1 cap1  w' H s.hold h1 hc1 hG r1 e1)) (fun rr1 H1 hle1 hR1 => ?_))
 replace h1 := h1.mono hle1
 replace hG := hG.mono hle1
 obtain ⟨ao2, cap2, rfl, h2, hc2⟩ := hR1
 refine wq rfl rfl rfl (ov_move rfl rfl) ?_
 refine wq rfl rfl rfl (ov_extract rfl rfl rfl) ?_
 refine wq rfl rfl rfl (ov_extract rfl rfl rfl) ?_
 refine wq rfl rfl rfl (ov_assign rfl rfl) ?_
 refine wq rfl rfl rfl (ov_assign rfl rfl) ?_
 refine WL.nil (then_normal (WP.seq (WP.seq (WP.region ?_))))
 refine wq rfl rfl rfl (ov_move rfl rfl) ?_
 refine wq rfl rfl rfl (ov_not rfl rfl) ?_
 refine WL.nil (then_normal ?_)
 refine WP.cond rfl (fun hc3 => ?_) (fun hc3 => ?_)
 ·
  replace hm := ite_t hc3 hm
  refine WP.seq (WP.region ?_)
  obtain ⟨r2, e2, hm⟩ := bind_some hm
  refine WL.quiet (Runs.free rfl) rfl rfl (oq_con (r := (.bool r2)) Tryz.call6 rfl rfl (fun w' s => ⟨_, (top_runLog_con   w' H1 s.hold hG r2 e2)⟩)) ?_
  refine wq rfl rfl rfl (ov_assign rfl rfl) ?_
  refine WL.nil (then_normal (WP.ret (then_ret ?_)))
  obtain rfl := Option.some.inj hm
  refine retQ_ret Tryz.results4 (Res.tmp rfl Res.nil) rfl (fun w' s => ⟨s.below, ?_⟩)
  exact rfl
 ·
  replace hm := ite_f hc3 hm
  refine WP.skip (then_normal (WP.seq (WP.seq (WP.region ?_))))
  refine wq rfl rfl rfl (ov_move rfl rfl) ?_
  obtain ⟨r3, e3, hm⟩ := bind_some hm
  refine WL.step (Runs.free rfl) rfl rfl (os_con Tryz.call7 rfl rfl (fun w' s => (ref58_Run_con r1.1 ao2 cap2  w' H1 s.hold h2 hc2 hG r3 e3)) (fun rr2 H2 hle2 hR2 => ?_))
  replace h1 := h1.mono hle2
  replace h2 := h2.mono hle2
  replace hG := hG.mono hle2
  obtain ⟨ao3, cap3, rfl, h3, hc4⟩ := hR2
  refine wq rfl rfl rfl (ov_move rfl rfl) ?_
  refine wq rfl rfl rfl (ov_extract rfl rfl rfl) ?_
  refine wq rfl rfl rfl (ov_extract rfl rfl rfl) ?_
  refine wq rfl rfl rfl (ov_extract rfl rfl rfl) ?_
  refine WL.step (Runs.free rfl) rfl rfl (os_alloc (cs := [(.slice none 0 0), (.int .i64 0)]) Tryz.zeroValue31 rfl rfl (fun b1 => ?_))
  refine WL.step0 (Runs.free rfl) rfl (os_store (i := 0) (vs := [(.slice ao3 r3.1.items.length cap3), (.int .i64 r3.1.cycles)]) (cs' := [(.slice ao3 r3.1.items.length cap3), (.int .i64 r3.1.cycles)]) Tryz.sizeOf31 rfl rfl rfl rfl rfl rfl rfl rfl rfl ?_)
  refine wq rfl rfl rfl (ov_assign rfl rfl) ?_
  refine wq rfl rfl rfl (ov_assign rfl rfl) ?_
  refine WL.nil (then_normal (WP.seq (WP.region ?_)))
  refine wq rfl rfl rfl (ov_move rfl rfl) ?_
  refine wq rfl rfl rfl (ov_neq rfl rfl rfl) ?_
  refine WL.nil (then_normal ?_)
  refine WP.cond rfl (fun hc5 => ?_) (fun hc5 => ?_)
  ·
   replace hm := ite_t hc5 hm
   refine WP.seq (WP.region ?_)
   obtain ⟨r4, e4, hm⟩ := bind_some hm
   refine WL.quiet (Runs.free rfl) rfl rfl (oq_con (r := (.bool r4)) Tryz.call6 rfl rfl (fun w' s => ⟨_, (top_runLog_con   w' H2 s.hold hG r4 e4)⟩)) ?_
   refine wq rfl rfl rfl (ov_assign rfl rfl) ?_
   refine WL.nil (then_normal (WP.ret (then_ret ?_)))
   obtain rfl := Option.some.inj hm
   refine retQ_ret Tryz.results4 (Res.tmp rfl Res.nil) rfl (fun w' s => ⟨s.below, ?_⟩)
   exact rfl
  ·
   replace hm := ite_f hc5 hm
   refine WP.skip (then_normal (WP.seq (WP.region ?_)))
   refine wq rfl rfl rfl (ov_move rfl rfl) ?_
   refine wq rfl rfl rfl (ov_convert_int Tryz.underlying5 Tryz.underlying3 rfl rfl) ?_
   refine wq rfl rfl rfl (ov_move rfl rfl) ?_
   refine wq rfl rfl rfl (ov_len_slice Tryz.underlying22 rfl rfl) ?_
   refine wq rfl rfl rfl (ov_add rfl rfl rfl) ?_
   obtain ⟨u1, e5, hm⟩ := bind_some hm
   replace e5 := guardO_some e5
   refine wq rfl rfl rfl (ov_rem rfl rfl rfl (by simpa using e5)) ?_
   refine wq rfl rfl rfl (ov_assign rfl rfl) ?_
   refine WL.nil (then_normal (WP.seq (WP.region ?_)))
   refine wq rfl rfl rfl (ov_move rfl rfl) ?_
   obtain ⟨r5, e6, hm⟩ := bind_some hm
   refine WL.quiet (Runs.free rfl) rfl rfl (oq_con (r := (.tuple #[(mkS r5.1), (.int .i64 r5.2)])) Tryz.call13 rfl rfl (fun w' s => ⟨_, (journal_Log_con p_l ao1 cap1  w' H2 s.hold h1 hc1 hG r5 e6)⟩)) ?_
   refine wq rfl rfl rfl (ov_move rfl rfl) ?_
   refine wq rfl rfl rfl (ov_extract rfl rfl rfl) ?_
   refine wq rfl rfl rfl (ov_extract rfl rfl rfl) ?_
   refine wq rfl rfl rfl (ov_assign rfl rfl) ?_
   refine wq rfl rfl rfl (ov_assign rfl rfl) ?_
   refine WL.nil (then_normal (WP.seq (WP.region ?_)))
   refine wq rfl rfl rfl (ov_move rfl rfl) ?_
   refine wq rfl rfl rfl (ov_move rfl rfl) ?_
   obtain ⟨l1, e7, hm⟩ := bind_some hm
   obtain ⟨ao4, cap4, h4, h5, hc6⟩ := sl_h h1 hc1 e7
   refine wq rfl rfl rfl (h4 Tryz.underlying22 Tryz.sizeOf24 rfl rfl rfl ) ?_
   obtain ⟨r6, e8, hm⟩ := bind_some hm
   refine WL.quiet (Runs.free rfl) rfl rfl (oq_con (r := (.tuple #[(mkS r6.1), (.int .i64 r6.2)])) Tryz.call13 rfl rfl (fun w' s => ⟨_, (journal_Log_con l1 ao4 cap4  w' H2 s.hold h5 hc6 hG r6 e8)⟩)) ?_
   refine wq rfl rfl rfl (ov_move rfl rfl) ?_
   refine wq rfl rfl rfl (ov_extract rfl rfl rfl) ?_
   refine wq rfl rfl rfl (ov_extract rfl rfl rfl) ?_
   refine wq rfl rfl rfl (ov_assign rfl rfl) ?_
   refine wq rfl rfl rfl (ov_assign rfl rfl) ?_
   refine WL.nil (then_normal (WP.seq (WP.region ?_)))
   refine wq rfl rfl rfl (ov_move rfl rfl) ?_
   obtain ⟨r7, e9, hm⟩ := bind_some hm
   refine WL.step (Runs.free rfl) rfl rfl (os_con Tryz.call14 rfl rfl (fun w' s => (journal_Load_con r6.1  w' H2 s.hold hG r7 e9)) (fun rr3 H3 hle3 hR3 => ?_))
   replace h1 := h1.mono hle3
   replace h2 := h2.mono hle3
   replace h3 := h3.mono hle3
   replace h5 := h5.mono hle3
   replace hG := hG.mono hle3
   obtain ⟨ao5, cap5, rfl, h6, hc7⟩ := hR3
   refine wq rfl rfl rfl (ov_move rfl rfl) ?_
   refine wq rfl rfl rfl (ov_extract rfl rfl rfl) ?_
   refine wq rfl rfl rfl (ov_extract rfl rfl rfl) ?_
   refine wq rfl rfl rfl (ov_extract rfl rfl rfl) ?_
   refine WL.step (Runs.free rfl) rfl rfl (os_alloc (cs := [(.slice none 0 0), (.int .i64 0)]) Tryz.zeroValue36 rfl rfl (fun b2 => ?_))
   refine WL.step0 (Runs.free rfl) rfl (os_store (i := 0) (vs := [(.slice ao5 r7.1.items.length cap5), (.int .i64 r7.1.cycles)]) (cs' := [(.slice ao5 r7.1.items.length cap5), (.int .i64 r7.1.cycles)]) Tryz.sizeOf36 rfl rfl rfl rfl rfl rfl rfl rfl rfl ?_)
   refine wq rfl rfl rfl (ov_assign rfl rfl) ?_
   refine wq rfl rfl rfl (ov_assign rfl rfl) ?_
   refine WL.nil (then_normal (WP.seq (WP.region ?_)))
   refine wq rfl rfl rfl (ov_move rfl rfl) ?_
   obtain ⟨r8, e10, hm⟩ := bind_some hm
   refine WL.step (Runs.free rfl) rfl rfl (os_con Tryz.call14 rfl rfl (fun w' s => (journal_Load_con r5.1  w' H3 s.hold hG r8 e10)) (fun rr4 H4 hle4 hR4 => ?_))
   replace h1 := h1.mono hle4
   replace h2 := h2.mono hle4
   replace h3 := h3.mono hle4
   replace h5 := h5.mono hle4
   replace h6 := h6.mono hle4
   replace hG := hG.mono hle4
   obtain ⟨ao6, cap6, rfl, h7, hc8⟩ := hR4
   refine wq rfl rfl rfl (ov_move rfl rfl) ?_
   refine wq rfl rfl rfl (ov_extract rfl rfl rfl) ?_
   refine wq rfl rfl rfl (ov_extract rfl rfl rfl) ?_
   refine wq rfl rfl rfl (ov_extract rfl rfl rfl) ?_
   refine WL.step (Runs.free rfl) rfl rfl (os_alloc (cs := [(.slice none 0 0), (.int .i64 0)]) Tryz.zeroValue36 rfl rfl (fun b3 => ?_))
   refine WL.step0 (Runs.free rfl) rfl (os_store (i := 0) (vs := [(.slice ao6 r8.1.items.length cap6), (.int .i64 r8.1.cycles)]) (cs' := [(.slice ao6 r8.1.items.length cap6), (.int .i64 r8.1.cycles)]) Tryz.sizeOf36 rfl rfl rfl rfl rfl rfl rfl rfl rfl ?_)
   refine wq rfl rfl rfl (ov_assign rfl rfl) ?_
   refine wq rfl rfl rfl (ov_assign rfl rfl) ?_
   refine WL.nil (then_normal (WP.seq (WP.seq (WP.region ?_))))
   refine wq rfl rfl rfl (ov_move rfl rfl) ?_
   refine wq rfl rfl rfl (ov_move rfl rfl) ?_
   refine wq rfl rfl rfl (ov_add rfl rfl rfl) ?_
   refine wq rfl rfl rfl (ov_move rfl rfl) ?_
   refine wq rfl rfl rfl (ov_add rfl rfl rfl) ?_
   refine wq rfl rfl rfl (ov_move rfl rfl) ?_
   refine wq rfl rfl rfl (ov_add rfl rfl rfl) ?_
   refine wq rfl rfl rfl (ov_neq rfl rfl rfl) ?_
   refine wq rfl rfl rfl (ov_move rfl rfl) ?_
   refine WL.cut_bool 4 84 (x := (((IntKind.wrap .i64 ((IntKind.wrap .i64 ((IntKind.wrap .i64 (r5.2 + r6.2)) + r7.2.2)) + r8.2.2)) != 0) || (r7.2.1 != (Int.tmod (IntKind.wrap .i64 p_at) (IntKind.wrap .i64 ((p_l.length : Int) + 1)))))) ?_ ?_
   ·
    rcases Bool.eq_false_or_eq_true ((IntKind.wrap .i64 ((IntKind.wrap .i64 ((IntKind.wrap .i64 (r5.2 + r6.2)) + r7.2.2)) + r8.2.2)) != 0) with hc9 | hc9
    ·
     skip
     refine WL.idle (Idle.no rfl rfl rfl hc9) rfl rfl ?_
     refine WL.idle (Idle.no rfl rfl rfl hc9) rfl rfl ?_
     refine WL.idle (Idle.no rfl rfl rfl hc9) rfl rfl ?_
     refine wq rfl rfl rfl (ov_pick_true rfl (guard_eq rfl hc9) rfl) ?_
     exact WL.nil ⟨Sub.cons' rfl (congrArg Value.bool (orT hc9)) (Sub.skip rfl (Sub.skip rfl (Sub.skip rfl (Sub.skip rfl (Sub.refl _))))), fun _ s => s⟩
    ·
     skip
     refine WL.quiet (Runs.yes rfl rfl rfl hc9) rfl rfl (OV.quiet (ov_move rfl rfl)) ?_
     refine WL.quiet (Runs.yes rfl rfl rfl hc9) rfl rfl (OV.quiet (ov_move rfl rfl)) ?_
     refine WL.quiet (Runs.yes rfl rfl rfl hc9) rfl rfl (OV.quiet (ov_neq rfl rfl rfl)) ?_
     refine wq rfl rfl rfl (ov_pick_false rfl (guard_eq rfl hc9) rfl) ?_
     exact WL.nil ⟨Sub.cons' rfl (congrArg Value.bool (orF hc9)) (Sub.skip rfl (Sub.skip rfl (Sub.skip rfl (Sub.skip rfl (Sub.refl _))))), fun _ s => s⟩
   refine wq rfl rfl rfl (ov_move rfl rfl) ?_
   obtain ⟨c1, e11, hm⟩ := bind_some hm
   refine WL.cut_bool 5 90 (x := c1) ?_ ?_
   ·
    rcases Bool.eq_false_or_eq_true (((IntKind.wrap .i64 ((IntKind.wrap .i64 ((IntKind.wrap .i64 (r5.2 + r6.2)) + r7.2.2)) + r8.2.2)) != 0) || (r7.2.1 != (Int.tmod (IntKind.wrap .i64 p_at) (IntKind.wrap .i64 ((p_l.length : Int) + 1))))) with hc10 | hc10
    ·
     skip
     replace hm := ite_t hc10 e11
     refine WL.idle (Idle.no rfl rfl rfl hc10) rfl rfl ?_
     refine WL.idle (Idle.no rfl rfl rfl hc10) rfl rfl ?_
     refine WL.idle (Idle.no rfl rfl rfl hc10) rfl rfl ?_
     refine WL.idle (Idle.no rfl rfl rfl hc10) rfl rfl ?_
     refine wq rfl rfl rfl (ov_pick_true rfl (guard_eq rfl hc10) rfl) ?_
     exact WL.nil ⟨Sub.cons' rfl (congrArg Value.bool (Option.some.inj hm)) (Sub.skip rfl (Sub.skip rfl (Sub.skip rfl (Sub.skip rfl (Sub.skip rfl (Sub.refl _)))))), fun _ s => s⟩
    ·
     skip
     replace hm := ite_f hc10 e11
     refine WL.quiet (Runs.yes rfl rfl rfl hc10) rfl rfl (OV.quiet (ov_move rfl rfl)) ?_
     refine WL.quiet (Runs.yes rfl rfl rfl hc10) rfl rfl (OV.quiet (ov_move rfl rfl)) ?_
     obtain ⟨r9, e12, hm⟩ := bind_some hm
     refine WL.quiet (Runs.yes rfl rfl rfl hc10) rfl rfl (oq_con (r := (.bool r9)) Tryz.call15 rfl rfl (fun w' s => ⟨_, (strings_HasPrefix_con r5.1 r6.1  w' H4 s.hold hG r9 e12)⟩)) ?_
     refine WL.quiet (Runs.yes rfl rfl rfl hc10) rfl rfl (OV.quiet (ov_not rfl rfl)) ?_
     refine wq rfl rfl rfl (ov_pick_false rfl (guard_eq rfl hc10) rfl) ?_
     exact WL.nil ⟨Sub.cons' rfl (congrArg Value.bool (Option.some.inj hm)) (Sub.skip rfl (Sub.skip rfl (Sub.skip rfl (Sub.skip rfl (Sub.skip rfl (Sub.refl _)))))), fun _ s => s⟩
   refine WL.nil (then_normal ?_)
   refine WP.cond rfl (fun hc11 => ?_) (fun hc11 => ?_)
   ·
    replace hm := ite_t hc11 hm
    refine WP.seq (WP.region ?_)
    refine wq rfl rfl rfl (ov_assign rfl rfl) ?_
    refine WL.nil (then_normal (WP.ret (then_ret ?_)))
    obtain rfl := Option.some.inj hm
    refine retQ_ret Tryz.results4 (Res.tmp rfl Res.nil) rfl (fun w' s => ⟨s.below, ?_⟩)
    exact rfl
   ·
    replace hm := ite_f hc11 hm
    refine WP.skip (then_normal ?_)
    obtain ⟨k1, hk1, hm⟩ := joinK_some hm
    refine WP.seq_join (fun g' S' => ∃ (H7 : Heap) (l4 : (List Item)) (ao10 : Option Addr) (cap10 : Nat) (i3 : Int), Le H4 H7 ∧ SL H7 encItem ao10 l4 ∧ l4.length ≤ cap10 ∧ Sub [(15, (pB b2 0)), (18, (pB b3 0)), (1000000007, (.bool false))] g' ∧ (∀ w', S' w' → St w H [.blk b3 36 [(.slice ao6 r8.1.items.length cap6), (.int .i64 r8.1.cycles)], .blk b2 36 [(.slice ao10 l4.length cap10), (.int .i64 i3)]] H7 w') ∧ k1 l4 i3 = some r) ?_ ?_
    ·
     skip
     refine WP.seq (WP.region ?_)
     refine wq rfl rfl rfl (ov_move rfl rfl) ?_
     refine wq rfl rfl rfl (ov_move rfl rfl) ?_
     obtain ⟨l2, e13, hm⟩ := bind_some hm
     obtain ⟨ao7, cap7, h8, h9, hc12⟩ := sl_l h1 hc1 e13
     refine wq rfl rfl rfl (h8 Tryz.underlying22 Tryz.sizeOf24 rfl rfl rfl ) ?_
     refine wq rfl rfl rfl (ov_len_slice Tryz.underlying22 rfl rfl) ?_
     refine wq rfl rfl rfl (ov_move rfl rfl) ?_
     refine WL.nil (then_normal (WP.block ?_))
     refine WP.loop (fun m1 g' S' => ∃ (H5 : Heap) (i1 : Int) (l3 : (List Item)) (ao8 : Option Addr) (cap8 : Nat) (i2 : Int), Le H4 H5 ∧ SL H5 encItem ao8 l3 ∧ l3.length ≤ cap8 ∧ Sub [(15, (pB b2 0)), (18, (pB b3 0)), (93, (.slice ao7 l2.length cap7)), (94, (.int .i64 (l2.length : Int))), (95, (.int .i64 i1)), (1000000007, (.bool false))] g' ∧ (∀ w', S' w' → St w H [.blk b3 36 [(.slice ao6 r8.1.items.length cap6), (.int .i64 r8.1.cycles)], .blk b2 36 [(.slice ao8 l3.length cap8), (.int .i64 i2)]] H5 w') ∧ top_TopLogsParts_loop1 k1 l2 m1 i1 l3 i2 = some r) ((Int.toNat ((l2.length : Int) - 0) + 1)) ⟨H4, 0, r7.1.items, ao5, cap5, r7.1.cycles, (Le.refl _), h6, hc7, (Sub.cons rfl (Sub.cons rfl (Sub.cons rfl (Sub.cons rfl (Sub.cons rfl (Sub.cons rfl (Sub.nil _))))))), fun w' s => (s.select [0, 1] (by decide) rfl), hm⟩ ?_ ?_
     ·
      rintro g' S' ⟨_, _, _, _, _, _, _, _, _, _, _, hm⟩
      exact none_some hm
     ·
      rintro m1 g' S' ⟨H5, i1, l3, ao8, cap8, i2, hle5, h10, hc13, hsub1, hS1, hm⟩
      refine WP.sub hsub1 (WP.weaken hS1 ?_)
      rw [top_TopLogsParts_loop1] at hm
      replace h9 := h9.mono hle5
      replace h7 := h7.mono hle5
      replace hG := hG.mono hle5
      refine WP.seq (WP.region ?_)
      refine wq rfl rfl rfl (ov_lss rfl rfl rfl) ?_
      refine WL.nil (then_normal (WP.seq ?_))
      refine WP.cond rfl (fun hc14 => ?_) (fun hc14 => ?_)
      ·
       replace hm := ite_t hc14 hm
       refine WP.skip (then_normal (WP.seq (WP.block (WP.seq (WP.region ?_)))))
       obtain ⟨x1, e14, hm⟩ := bind_some hm
       obtain ⟨h11, h12, h13, cs1, h14, h15⟩ := h9.get e14 (by decide)
       obtain rfl : cs1 = [(.int .i64 x1.kind), (mkS x1.name), (.int .i64 x1.count), (.int .i64 x1.strokes)] := h14
       refine wq rfl rfl rfl (ov_indexAddr Tryz.underlying22 Tryz.sizeOf24 rfl rfl rfl h11 h12 h13) ?_
       refine wq rfl rfl rfl (ov_load_elems (vs := [(.int .i64 x1.kind), (mkS x1.name), (.int .i64 x1.count), (.int .i64 x1.strokes)]) Tryz.isAgg24 Tryz.sizeOf24 rfl rfl rfl h15 h13) ?_
       refine WL.step (Runs.free rfl) rfl rfl (os_alloc (cs := [(.int .i64 0), (mkS []), (.int .i64 0), (.int .i64 0)]) Tryz.zeroValue24 rfl rfl (fun b4 => ?_))
       refine WL.step0 (Runs.free rfl) rfl (os_store (i := 0) (vs := [(.int .i64 x1.kind), (mkS x1.name), (.int .i64 x1.count), (.int .i64 x1.strokes)]) (cs' := [(.int .i64 x1.kind), (mkS x1.name), (.int .i64 x1.count), (.int .i64 x1.strokes)]) Tryz.sizeOf24 rfl rfl rfl rfl rfl rfl rfl rfl rfl ?_)
       refine WL.nil (then_normal (WP.seq (WP.region ?_)))
       refine wq rfl rfl rfl (ov_load_whole (i := 2) Tryz.isAgg36 Tryz.sizeOf36 rfl rfl rfl rfl) ?_
       refine wq rfl rfl rfl (ov_load_whole (i := 0) Tryz.isAgg24 Tryz.sizeOf24 rfl rfl rfl rfl) ?_
       obtain ⟨r10, e15, hm⟩ := bind_some hm
       refine WL.step (Runs.free rfl) rfl rfl (os_con Tryz.call10 rfl rfl (fun w' s => (journal_Do_con (Machine.mk l3 i2) x1 ao8 cap8  w' H5 s.hold h10 hc13 hG r10 e15)) (fun rr5 H6 hle6 hR5 => ?_))
       replace h9 := h9.mono hle6
       replace h15 := h15.mono hle6
       replace h10 := h10.mono hle6
       replace h7 := h7.mono hle6
       replace hG := hG.mono hle6
       obtain ⟨ao9, cap9, rfl, h16, hc15⟩ := hR5
       refine wq rfl rfl rfl (ov_move rfl rfl) ?_
       refine wq rfl rfl rfl (ov_extract rfl rfl rfl) ?_
       refine wq rfl rfl rfl (ov_extract rfl rfl rfl) ?_
       refine WL.step (Runs.free rfl) rfl rfl (os_alloc (cs := [(.slice none 0 0), (.int .i64 0)]) Tryz.zeroValue36 rfl rfl (fun b5 => ?_))
       refine WL.step0 (Runs.free rfl) rfl (os_store (i := 0) (vs := [(.slice ao9 r10.1.items.length cap9), (.int .i64 r10.1.cycles)]) (cs' := [(.slice ao9 r10.1.items.length cap9), (.int .i64 r10.1.cycles)]) Tryz.sizeOf36 rfl rfl rfl rfl rfl rfl rfl rfl rfl ?_)
       refine wq rfl rfl rfl (ov_assign rfl rfl) ?_
       refine WL.nil (then_normal (WP.seq (WP.seq (WP.region ?_))))
       refine wq rfl rfl rfl (ov_move rfl rfl) ?_
       refine wq rfl rfl rfl (ov_neq rfl rfl rfl) ?_
       refine WL.nil (then_normal ?_)
       refine WP.cond rfl (fun hc16 => ?_) (fun hc16 => ?_)
       ·
        replace hm := ite_t hc16 hm
        refine WP.seq (WP.region ?_)
        refine wq rfl rfl rfl (ov_assign rfl rfl) ?_
        refine WL.nil (then_normal (WP.ret (then_ret (block_ret (then_ret (then_ret (block_ret (then_ret ?_))))))))
        obtain rfl := Option.some.inj hm
        refine retQ_ret Tryz.results4 (Res.tmp rfl Res.nil) rfl (fun w' s => ⟨s.below, ?_⟩)
        exact rfl
       ·
        replace hm := ite_f hc16 hm
        refine WP.skip (then_normal (WP.region ?_))
        refine wq rfl rfl rfl (ov_load_whole (i := 0) Tryz.isAgg36 Tryz.sizeOf36 rfl rfl rfl rfl) ?_
        refine WL.step0 (Runs.free rfl) rfl (os_store (i := 3) (vs := [(.slice ao9 r10.1.items.length cap9), (.int .i64 r10.1.cycles)]) (cs' := [(.slice ao9 r10.1.items.length cap9), (.int .i64 r10.1.cycles)]) Tryz.sizeOf36 rfl rfl rfl rfl rfl rfl rfl rfl rfl ?_)
        refine WL.nil (block_normal (then_normal (WP.region ?_)))
        refine wq rfl rfl rfl (ov_add rfl rfl rfl) ?_
        refine wq rfl rfl rfl (ov_move rfl rfl) ?_
        refine WL.nil (then_normal ?_)
        exact ⟨H6, (IntKind.wrap .i64 (i1 + 1)), r10.1.items, ao9, cap9, r10.1.cycles, (hle5.trans hle6), h16, hc15, (Sub.cons rfl (Sub.cons rfl (Sub.cons rfl (Sub.cons rfl (Sub.cons rfl (Sub.cons rfl (Sub.nil _))))))), fun w' s => (s.select [2, 3] (by decide) rfl), hm⟩
      ·
       replace hm := ite_f hc14 hm
       refine WP.exit (then_exit (then_exit (block_here (then_normal ?_))))
       exact ⟨H5, l3, ao8, cap8, i2, hle5, h10, hc13, (Sub.cons rfl (Sub.cons rfl (Sub.cons rfl (Sub.nil _)))), fun w' s => s, hm⟩
    ·
     rintro g' S' ⟨H7, l4, ao10, cap10, i3, hle7, h17, hc17, hsub2, hS2, hm⟩
     refine WP.sub hsub2 (WP.weaken hS2 ?_)
     replace hm := (congrFun (congrFun hk1 l4) i3).symm.trans hm
     replace h7 := h7.mono hle7
     replace hG := hG.mono hle7
     refine WP.seq (WP.region ?_)
     refine wq rfl rfl rfl (ov_load_whole (i := 1) Tryz.isAgg36 Tryz.sizeOf36 rfl rfl rfl rfl) ?_
     refine wq rfl rfl rfl (ov_load_whole (i := 0) Tryz.isAgg36 Tryz.sizeOf36 rfl rfl rfl rfl) ?_
     obtain ⟨r11, e16, hm⟩ := bind_some hm
     refine WL.quiet (Runs.free rfl) rfl rfl (oq_con (r := (.bool r11)) Tryz.call12 rfl rfl (fun w' s => ⟨_, (top_runMachines_con (Machine.mk l4 i3) r8.1 ao10 cap10 ao6 cap6  w' H7 s.hold h17 hc17 h7 hc8 hG r11 e16)⟩)) ?_
     refine wq rfl rfl rfl (ov_move rfl rfl) ?_
     obtain ⟨c2, e17, hm⟩ := bind_some hm
     refine WL.cut_bool 2 114 (x := c2) ?_ ?_
     ·
      rcases Bool.eq_false_or_eq_true r11 with hc18 | hc18
      ·
       skip
       replace hm := ite_t hc18 e17
       obtain ⟨r12, e18, hm⟩ := bind_some hm
       refine WL.quiet (Runs.yes rfl rfl rfl hc18) rfl rfl (oq_con (r := (.bool r12)) Tryz.call6 rfl rfl (fun w' s => ⟨_, (top_runLog_con   w' H7 s.hold hG r12 e18)⟩)) ?_
       refine wq rfl rfl rfl (ov_pick_true rfl (guard_eq rfl hc18) rfl) ?_
       exact WL.nil ⟨Sub.cons' rfl (congrArg Value.bool (Option.some.inj hm)) (Sub.skip rfl (Sub.skip rfl (Sub.refl _))), fun _ s => s⟩
      ·
       skip
       replace hm := ite_f hc18 e17
       refine WL.idle (Idle.no rfl rfl rfl hc18) rfl rfl ?_
       refine wq rfl rfl rfl (ov_pick_false rfl (guard_eq rfl hc18) rfl) ?_
       exact WL.nil ⟨Sub.cons' rfl (congrArg Value.bool (Option.some.inj hm)) (Sub.skip rfl (Sub.skip rfl (Sub.refl _))), fun _ s => s⟩
     refine wq rfl rfl rfl (ov_assign rfl rfl) ?_
     refine WL.nil (then_normal (WP.ret ?_))
     obtain rfl := Option.some.inj hm
     refine retQ_ret Tryz.results4 (Res.tmp rfl Res.nil) rfl (fun w' s => ⟨s.below, ?_⟩)
     exact rfl

end Go.Proofs.YtpocodofhkaddaaGreatDoor.W
