/- The walks. Written by our own program gen.py; Lean checks it. -/
import Derived.Test.YtpocodofhkaddaaGreatDoorPlain
import Derived.Test.YtpocodofhkaddaaGreatDoorEqs
import Derived.Test.YtpocodofhkaddaaGreatDoorProg
import Derived.Test.YtpocodofhkaddaaGreatDoorExt
import Derived.Test.YtpocodofhkaddaaGreatDoorClone
import Derived.Test.YtpocodofhkaddaaGreatDoorCloneE
import Derived.Test.YtpocodofhkaddaaGreatDoorInsert
import Derived.Test.YtpocodofhkaddaaGreatDoorBuild
import Derived.Test.YtpocodofhkaddaaGreatDoorWalk1
import Derived.Test.YtpocodofhkaddaaGreatDoorWalk3
set_option linter.unusedVariables false
set_option maxRecDepth 100000
set_option maxHeartbeats 4000000
namespace Go.Proofs.YtpocodofhkaddaaGreatDoor.W
open Go Go.RowKit
theorem journal_Do_con (p_m : Machine) (p_x : Entry) (ao1 : Option Addr) (cap1 : Nat) (w : World) (H : Heap) (hH : Le H (hp w)) (h1 : SL H encItem ao1 p_m.items) (hc1 : p_m.items.length ≤ cap1) (hG : Glob H) (r : (Machine × Int)) (hm : journal_Do p_m p_x = some r) :
  Con Tryz.prog 10 [(.agg #[(.slice ao1 p_m.items.length cap1), (.int .i64 p_m.cycles)]), (.agg #[(.int .i64 p_x.kind), (mkS p_x.name), (.int .i64 p_x.count), (.int .i64 p_x.strokes)])] w H (fun v H' => ∃ (ao2 : Option Addr) (cap2 : Nat), v = (.tuple #[(.agg #[(.slice ao2 r.1.items.length cap2), (.int .i64 r.1.cycles)]), (.int .i64 r.2)]) ∧ SL H' encItem ao2 r.1.items ∧ r.1.items.length ≤ cap2) := by
 unfold journal_Do at hm
 refine con_of hH Tryz.func10 rfl 25 Tryz.ntmps10 rfl ?_
 refine WP.seq (WP.region ?_)
 refine WL.step (Runs.free rfl) rfl rfl (os_box (cs := [(.slice ao1 p_m.items.length cap1), (.int .i64 p_m.cycles)]) rfl rfl rfl (fun b1 => ?_))
 refine WL.step (Runs.free rfl) rfl rfl (os_box (cs := [(.int .i64 p_x.kind), (mkS p_x.name), (.int .i64 p_x.count), (.int .i64 p_x.strokes)]) rfl rfl rfl (fun b2 => ?_))
 refine WL.step (Runs.free rfl) rfl rfl (os_alloc (cs := [(.slice none 0 0), (.int .i64 0)]) Tryz.zeroValue36 rfl rfl (fun b3 => ?_))
 refine wq rfl rfl rfl (ov_assign rfl rfl) ?_
 refine WL.nil (then_normal (WP.seq (WP.seq (WP.region ?_))))
 refine wq rfl rfl rfl (ov_load_whole (i := 2) Tryz.isAgg36 Tryz.sizeOf36 rfl rfl rfl rfl) ?_
 obtain ⟨r1, e1, hm⟩ := bind_some hm
 refine WL.quiet (Runs.free rfl) rfl rfl (oq_con (r := (.int .i64 r1)) Tryz.call9 rfl rfl (fun w' s => ⟨_, (journal_Check_con p_m ao1 cap1  w' H s.hold h1 hc1 hG r1 e1)⟩)) ?_
 refine wq rfl rfl rfl (ov_assign rfl rfl) ?_
 refine WL.nil (then_normal (WP.seq (WP.region ?_)))
 refine wq rfl rfl rfl (ov_move rfl rfl) ?_
 refine wq rfl rfl rfl (ov_neq rfl rfl rfl) ?_
 refine WL.nil (then_normal ?_)
 refine WP.cond rfl (fun hc3 => ?_) (fun hc3 => ?_)
 ·
  replace hm := ite_t hc3 hm
  refine WP.seq (WP.region ?_)
  refine wq rfl rfl rfl (ov_build (r := (.agg #[(.slice none 0 0), (.int .i64 0)])) rfl rfl (fun _ => by kernel_rfl)) ?_
  refine wq rfl rfl rfl (ov_move rfl rfl) ?_
  refine WL.step0 (Runs.free rfl) rfl (os_store (i := 0) (vs := [(.slice none 0 0), (.int .i64 0)]) (cs' := [(.slice none 0 0), (.int .i64 0)]) Tryz.sizeOf36 rfl rfl rfl rfl rfl rfl rfl rfl rfl ?_)
  refine wq rfl rfl rfl (ov_assign rfl rfl) ?_
  refine WL.nil (then_normal (WP.ret (then_ret ?_)))
  obtain rfl := Option.some.inj hm
  refine retQ_ret Tryz.results10 (Res.cell rfl (box_loads (i := 0) Tryz.isAgg36 Tryz.sizeOf36 rfl rfl) (Res.tmp rfl Res.nil)) rfl (fun w' s => ⟨s.below, ?_⟩)
  exact ⟨none, 0, rfl, SL.nil _ _ _, Nat.le_refl _⟩
 ·
  replace hm := ite_f hc3 hm
  refine WP.skip (then_normal (WP.seq (WP.seq (WP.region ?_))))
  refine wq rfl rfl rfl (ov_load_whole (i := 1) Tryz.isAgg24 Tryz.sizeOf24 rfl rfl rfl rfl) ?_
  obtain ⟨r2, e2, hm⟩ := bind_some hm
  refine WL.quiet (Runs.free rfl) rfl rfl (oq_con (r := (.int .i64 r2)) Tryz.call20 rfl rfl (fun w' s => ⟨_, (journal_Right_con p_x  w' H s.hold hG r2 e2)⟩)) ?_
  refine wq rfl rfl rfl (ov_assign rfl rfl) ?_
  refine WL.nil (then_normal (WP.seq (WP.region ?_)))
  refine wq rfl rfl rfl (ov_move rfl rfl) ?_
  refine wq rfl rfl rfl (ov_neq rfl rfl rfl) ?_
  refine WL.nil (then_normal ?_)
  refine WP.cond rfl (fun hc4 => ?_) (fun hc4 => ?_)
  ·
   replace hm := ite_t hc4 hm
   refine WP.seq (WP.region ?_)
   refine wq rfl rfl rfl (ov_build (r := (.agg #[(.slice none 0 0), (.int .i64 0)])) rfl rfl (fun _ => by kernel_rfl)) ?_
   refine wq rfl rfl rfl (ov_move rfl rfl) ?_
   refine WL.step0 (Runs.free rfl) rfl (os_store (i := 0) (vs := [(.slice none 0 0), (.int .i64 0)]) (cs' := [(.slice none 0 0), (.int .i64 0)]) Tryz.sizeOf36 rfl rfl rfl rfl rfl rfl rfl rfl rfl ?_)
   refine wq rfl rfl rfl (ov_assign rfl rfl) ?_
   refine WL.nil (then_normal (WP.ret (then_ret ?_)))
   obtain rfl := Option.some.inj hm
   refine retQ_ret Tryz.results10 (Res.cell rfl (box_loads (i := 0) Tryz.isAgg36 Tryz.sizeOf36 rfl rfl) (Res.tmp rfl Res.nil)) rfl (fun w' s => ⟨s.below, ?_⟩)
   exact ⟨none, 0, rfl, SL.nil _ _ _, Nat.le_refl _⟩
  ·
   replace hm := ite_f hc4 hm
   refine WP.skip (then_normal (WP.seq (WP.region ?_)))
   refine wq rfl rfl rfl (ov_load_whole (i := 2) Tryz.isAgg36 Tryz.sizeOf36 rfl rfl rfl rfl) ?_
   refine wq rfl rfl rfl (ov_load_whole (i := 1) Tryz.isAgg24 Tryz.sizeOf24 rfl rfl rfl rfl) ?_
   obtain ⟨r3, e3, hm⟩ := bind_some hm
   refine WL.step (Runs.free rfl) rfl rfl (os_con Tryz.call21 rfl rfl (fun w' s => (journal_done_con p_m p_x ao1 cap1  w' H s.hold h1 hc1 hG r3 e3)) (fun rr1 H1 hle1 hR1 => ?_))
   replace h1 := h1.mono hle1
   replace hG := hG.mono hle1
   obtain ⟨ao3, cap3, rfl, h3, hc5⟩ := hR1
   refine wq rfl rfl rfl (ov_extract rfl rfl rfl) ?_
   refine wq rfl rfl rfl (ov_extract rfl rfl rfl) ?_
   refine WL.step0 (Runs.free rfl) rfl (os_store (i := 0) (vs := [(.slice ao3 r3.1.items.length cap3), (.int .i64 r3.1.cycles)]) (cs' := [(.slice ao3 r3.1.items.length cap3), (.int .i64 r3.1.cycles)]) Tryz.sizeOf36 rfl rfl rfl rfl rfl rfl rfl rfl rfl ?_)
   refine wq rfl rfl rfl (ov_assign rfl rfl) ?_
   refine WL.nil (then_normal (WP.ret ?_))
   obtain rfl := Option.some.inj hm
   refine retQ_ret Tryz.results10 (Res.cell rfl (box_loads (i := 0) Tryz.isAgg36 Tryz.sizeOf36 rfl rfl) (Res.tmp rfl Res.nil)) rfl (fun w' s => ⟨s.below, ?_⟩)
   exact ⟨ao3, cap3, rfl, h3.mono s.le_newer, hc5⟩

theorem slices_Equal_journal_Itemjournal_Item_con (p_s1 : (List Item)) (p_s2 : (List Item)) (ao1 : Option Addr) (cap1 : Nat) (ao2 : Option Addr) (cap2 : Nat) (w : World) (H : Heap) (hH : Le H (hp w)) (h1 : SL H encItem ao1 p_s1) (hc1 : p_s1.length ≤ cap1) (h2 : SL H encItem ao2 p_s2) (hc2 : p_s2.length ≤ cap2) (hG : Glob H) (r : Bool) (hm : slices_Equal_journal_Itemjournal_Item p_s1 p_s2 = some r) :
  Con Tryz.prog 24 [(.slice ao1 p_s1.length cap1), (.slice ao2 p_s2.length cap2)] w H (fun v _ => v = (.bool r)) := by
 unfold slices_Equal_journal_Itemjournal_Item at hm
 refine con_of hH Tryz.func24 rfl 26 Tryz.ntmps24 rfl ?_
 refine WP.seq (WP.region ?_)
 refine wq rfl rfl rfl (ov_assign rfl rfl) ?_
 refine WL.nil (then_normal (WP.seq (WP.seq (WP.region ?_))))
 refine wq rfl rfl rfl (ov_move rfl rfl) ?_
 refine wq rfl rfl rfl (ov_len_slice Tryz.underlying34 rfl rfl) ?_
 refine wq rfl rfl rfl (ov_move rfl rfl) ?_
 refine wq rfl rfl rfl (ov_len_slice Tryz.underlying34 rfl rfl) ?_
 refine wq rfl rfl rfl (ov_neq rfl rfl rfl) ?_
 refine WL.nil (then_normal ?_)
 refine WP.cond rfl (fun hc3 => ?_) (fun hc3 => ?_)
 ·
  replace hm := ite_t hc3 hm
  refine WP.seq (WP.region ?_)
  refine wq rfl rfl rfl (ov_assign rfl rfl) ?_
  refine WL.nil (then_normal (WP.ret (then_ret ?_)))
  obtain rfl := Option.some.inj hm
  refine retQ_ret Tryz.results24 (Res.tmp rfl Res.nil) rfl (fun w' s => ⟨s.below, ?_⟩)
  exact rfl
 ·
  replace hm := ite_f hc3 hm
  refine WP.skip (then_normal ?_)
  obtain ⟨k1, hk1, hm⟩ := joinK_some hm
  refine WP.seq_join (fun g' S' => Sub [(1000000007, (.bool false))] g' ∧ (∀ w', S' w' → St w H [] H w') ∧ k1 = some r) ?_ ?_
  ·
   skip
   refine WP.seq (WP.region ?_)
   refine wq rfl rfl rfl (ov_move rfl rfl) ?_
   refine wq rfl rfl rfl (ov_len_slice Tryz.underlying34 rfl rfl) ?_
   refine wq rfl rfl rfl (ov_move rfl rfl) ?_
   refine WL.nil (then_normal (WP.block ?_))
   refine WP.loop (fun m1 g' S' => ∃ (i1 : Int), Sub [(0, (.slice ao1 p_s1.length cap1)), (1, (.slice ao2 p_s2.length cap2)), (12, (.int .i64 (p_s1.length : Int))), (13, (.int .i64 i1)), (1000000007, (.bool false))] g' ∧ (∀ w', S' w' → St w H [] H w') ∧ slices_Equal_journal_Itemjournal_Item_loop1 p_s1 p_s2 k1 m1 i1 = some r) ((Int.toNat ((p_s1.length : Int) - 0) + 1)) ⟨0, (Sub.cons rfl (Sub.cons rfl (Sub.cons rfl (Sub.cons rfl (Sub.cons rfl (Sub.nil _)))))), fun w' s => s, hm⟩ ?_ ?_
   ·
    rintro g' S' ⟨_, _, _, hm⟩
    exact none_some hm
   ·
    rintro m1 g' S' ⟨i1, hsub1, hS1, hm⟩
    refine WP.sub hsub1 (WP.weaken hS1 ?_)
    rw [slices_Equal_journal_Itemjournal_Item_loop1] at hm
    refine WP.seq (WP.region ?_)
    refine wq rfl rfl rfl (ov_lss rfl rfl rfl) ?_
    refine WL.nil (then_normal (WP.seq ?_))
    refine WP.cond rfl (fun hc4 => ?_) (fun hc4 => ?_)
    ·
     replace hm := ite_t hc4 hm
     refine WP.skip (then_normal (WP.seq (WP.block (WP.seq (WP.region ?_)))))
     refine wq rfl rfl rfl (ov_move rfl rfl) ?_
     refine wq rfl rfl rfl (ov_assign rfl rfl) ?_
     refine WL.nil (then_normal (WP.seq ?_))
     refine WP.region_draws (by kernel_rfl) (by kernel_rfl) (fun _ s => s.drew) ?_
     refine QL.quiet (Runs.free rfl) rfl rfl (OV.quiet (ov_move rfl rfl)) ?_
     refine QL.quiet (Runs.free rfl) rfl rfl (OV.quiet (ov_move rfl rfl)) ?_
     obtain ⟨x1, e1, hm⟩ := bind_some hm
     obtain ⟨h3, h4, h5, cs1, h6, h7⟩ := h1.get e1 (by decide)
     obtain rfl : cs1 = [(mkS x1.name), (.int .i64 x1.life), (.int .i64 x1.used), (.int .i64 x1.faults), (.bool x1.faulty), (.int .i64 x1.since), (.int .i64 x1.cycles)] := h6
     refine QL.quiet (Runs.free rfl) rfl rfl (OV.quiet (ov_indexAddr Tryz.underlying34 Tryz.sizeOf61 rfl rfl rfl h3 h4 h5)) ?_
     refine QL.quiet (Runs.free rfl) rfl rfl (OV.quiet (ov_load_elems (vs := [(mkS x1.name), (.int .i64 x1.life), (.int .i64 x1.used), (.int .i64 x1.faults), (.bool x1.faulty), (.int .i64 x1.since), (.int .i64 x1.cycles)]) Tryz.isAgg61 Tryz.sizeOf61 rfl rfl rfl h7 h5)) ?_
     refine QL.quiet (Runs.free rfl) rfl rfl (OV.quiet (ov_move rfl rfl)) ?_
     refine QL.quiet (Runs.free rfl) rfl rfl (OV.quiet (ov_move rfl rfl)) ?_
     obtain ⟨x2, e2, hm⟩ := bind_some hm
     obtain ⟨h8, h9, h10, cs2, h11, h12⟩ := h2.get e2 (by decide)
     obtain rfl : cs2 = [(mkS x2.name), (.int .i64 x2.life), (.int .i64 x2.used), (.int .i64 x2.faults), (.bool x2.faulty), (.int .i64 x2.since), (.int .i64 x2.cycles)] := h11
     refine QL.quiet (Runs.free rfl) rfl rfl (OV.quiet (ov_indexAddr Tryz.underlying34 Tryz.sizeOf61 rfl rfl rfl h8 h9 h10)) ?_
     refine QL.quiet (Runs.free rfl) rfl rfl (OV.quiet (ov_load_elems (vs := [(mkS x2.name), (.int .i64 x2.life), (.int .i64 x2.used), (.int .i64 x2.faults), (.bool x2.faulty), (.int .i64 x2.since), (.int .i64 x2.cycles)]) Tryz.isAgg61 Tryz.sizeOf61 rfl rfl rfl h12 h10)) ?_
     refine QL.quiet (Runs.free rfl) rfl rfl (OV.quiet (neq_struct61 (a := x1) (b := x2) rfl rfl rfl)) ?_
     refine QL.nil ?_
     refine then_normal ?_
     refine WP.cond rfl (fun hc5 => ?_) (fun hc5 => ?_)
     ·
      replace hm := ite_t hc5 hm
      refine WP.seq (WP.region ?_)
      refine wq rfl rfl rfl (ov_assign rfl rfl) ?_
      refine WL.nil (then_normal (WP.ret (block_ret (then_ret (then_ret (block_ret (then_ret ?_)))))))
      obtain rfl := Option.some.inj hm
      refine retQ_ret Tryz.results24 (Res.tmp rfl Res.nil) rfl (fun w' s => ⟨s.below, ?_⟩)
      exact rfl
     ·
      replace hm := ite_f hc5 hm
      refine WP.skip (block_normal (then_normal (WP.region ?_)))
      refine wq rfl rfl rfl (ov_add rfl rfl rfl) ?_
      refine wq rfl rfl rfl (ov_move rfl rfl) ?_
      refine WL.nil (then_normal ?_)
      exact ⟨(IntKind.wrap .i64 (i1 + 1)), (Sub.cons rfl (Sub.cons rfl (Sub.cons rfl (Sub.cons rfl (Sub.cons rfl (Sub.nil _)))))), fun w' s => s, hm⟩
    ·
     replace hm := ite_f hc4 hm
     refine WP.exit (then_exit (then_exit (block_here (then_normal ?_))))
     exact ⟨(Sub.cons rfl (Sub.nil _)), fun w' s => s, hm⟩
  ·
   rintro g' S' ⟨hsub2, hS2, hm⟩
   refine WP.sub hsub2 (WP.weaken hS2 ?_)
   replace hm := hk1.symm.trans hm
   refine WP.seq (WP.region ?_)
   refine wq rfl rfl rfl (ov_assign rfl rfl) ?_
   refine WL.nil (then_normal (WP.ret ?_))
   obtain rfl := Option.some.inj hm
   refine retQ_ret Tryz.results24 (Res.tmp rfl Res.nil) rfl (fun w' s => ⟨s.below, ?_⟩)
   exact rfl

theorem top_runMachines_con (p_a : Machine) (p_b : Machine) (ao1 : Option Addr) (cap1 : Nat) (ao2 : Option Addr) (cap2 : Nat) (w : World) (H : Heap) (hH : Le H (hp w)) (h1 : SL H encItem ao1 p_a.items) (hc1 : p_a.items.length ≤ cap1) (h2 : SL H encItem ao2 p_b.items) (hc2 : p_b.items.length ≤ cap2) (hG : Glob H) (r : Bool) (hm : top_runMachines p_a p_b = some r) :
  Con Tryz.prog 12 [(.agg #[(.slice ao1 p_a.items.length cap1), (.int .i64 p_a.cycles)]), (.agg #[(.slice ao2 p_b.items.length cap2), (.int .i64 p_b.cycles)])] w H (fun v _ => v = (.bool r)) := by
 unfold top_runMachines at hm
 refine con_of hH Tryz.func12 rfl 17 Tryz.ntmps12 rfl ?_
 refine WP.seq (WP.region ?_)
 refine WL.step (Runs.free rfl) rfl rfl (os_box (cs := [(.slice ao1 p_a.items.length cap1), (.int .i64 p_a.cycles)]) rfl rfl rfl (fun b1 => ?_))
 refine WL.step (Runs.free rfl) rfl rfl (os_box (cs := [(.slice ao2 p_b.items.length cap2), (.int .i64 p_b.cycles)]) rfl rfl rfl (fun b2 => ?_))
 refine wq rfl rfl rfl (ov_assign rfl rfl) ?_
 refine WL.nil (then_normal (WP.seq (WP.region ?_)))
 refine wq rfl rfl rfl (ov_fieldAddr Tryz.underlying36 rfl rfl rfl Tryz.sizeOf3 rfl rfl) ?_
 refine wq rfl rfl rfl (ov_load_box (i := 1) Tryz.isAgg3 rfl rfl rfl rfl) ?_
 refine wq rfl rfl rfl (ov_fieldAddr Tryz.underlying36 rfl rfl rfl Tryz.sizeOf3 rfl rfl) ?_
 refine wq rfl rfl rfl (ov_load_box (i := 0) Tryz.isAgg3 rfl rfl rfl rfl) ?_
 refine wq rfl rfl rfl (ov_eql rfl rfl rfl) ?_
 refine wq rfl rfl rfl (ov_move rfl rfl) ?_
 obtain ⟨c1, e1, hm⟩ := bind_some hm
 refine WL.cut_bool 6 16 (x := c1) ?_ ?_
 ·
  rcases Bool.eq_false_or_eq_true (p_a.cycles == p_b.cycles) with hc3 | hc3
  ·
   skip
   replace hm := ite_t hc3 e1
   refine WL.quiet (Runs.yes rfl rfl rfl hc3) rfl rfl (OV.quiet (ov_fieldAddr Tryz.underlying36 rfl rfl rfl Tryz.sizeOf34 rfl rfl)) ?_
   refine WL.quiet (Runs.yes rfl rfl rfl hc3) rfl rfl (OV.quiet (ov_load_box (i := 1) Tryz.isAgg34 rfl rfl rfl rfl)) ?_
   refine WL.quiet (Runs.yes rfl rfl rfl hc3) rfl rfl (OV.quiet (ov_fieldAddr Tryz.underlying36 rfl rfl rfl Tryz.sizeOf34 rfl rfl)) ?_
   refine WL.quiet (Runs.yes rfl rfl rfl hc3) rfl rfl (OV.quiet (ov_load_box (i := 0) Tryz.isAgg34 rfl rfl rfl rfl)) ?_
   obtain ⟨r1, e2, hm⟩ := bind_some hm
   refine WL.quiet (Runs.yes rfl rfl rfl hc3) rfl rfl (oq_con (r := (.bool r1)) Tryz.call24 rfl rfl (fun w' s => ⟨_, (slices_Equal_journal_Itemjournal_Item_con p_a.items p_b.items ao1 cap1 ao2 cap2  w' H s.hold h1 hc1 h2 hc2 hG r1 e2)⟩)) ?_
   refine wq rfl rfl rfl (ov_pick_true rfl (guard_eq rfl hc3) rfl) ?_
   exact WL.nil ⟨Sub.cons' rfl (congrArg Value.bool (Option.some.inj hm)) (Sub.skip rfl (Sub.skip rfl (Sub.skip rfl (Sub.skip rfl (Sub.skip rfl (Sub.skip rfl (Sub.refl _))))))), fun _ s => s⟩
  ·
   skip
   replace hm := ite_f hc3 e1
   refine WL.idle (Idle.no rfl rfl rfl hc3) rfl rfl ?_
   refine WL.idle (Idle.no rfl rfl rfl hc3) rfl rfl ?_
   refine WL.idle (Idle.no rfl rfl rfl hc3) rfl rfl ?_
   refine WL.idle (Idle.no rfl rfl rfl hc3) rfl rfl ?_
   refine WL.idle (Idle.no rfl rfl rfl hc3) rfl rfl ?_
   refine wq rfl rfl rfl (ov_pick_false rfl (guard_eq rfl hc3) rfl) ?_
   exact WL.nil ⟨Sub.cons' rfl (congrArg Value.bool (Option.some.inj hm)) (Sub.skip rfl (Sub.skip rfl (Sub.skip rfl (Sub.skip rfl (Sub.skip rfl (Sub.skip rfl (Sub.refl _))))))), fun _ s => s⟩
 refine wq rfl rfl rfl (ov_assign rfl rfl) ?_
 refine WL.nil (then_normal (WP.ret ?_))
 obtain rfl := Option.some.inj hm
 refine retQ_ret Tryz.results12 (Res.tmp rfl Res.nil) rfl (fun w' s => ⟨s.below, ?_⟩)
 exact rfl

end Go.Proofs.YtpocodofhkaddaaGreatDoor.W
