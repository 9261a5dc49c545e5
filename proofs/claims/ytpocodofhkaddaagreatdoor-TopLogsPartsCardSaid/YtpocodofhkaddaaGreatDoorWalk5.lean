/- The walks. Written by our own program gen.py; Lean checks it. -/
import Derived.Test.YtpocodofhkaddaaGreatDoorPlain
import Derived.Test.YtpocodofhkaddaaGreatDoorEqs
import Derived.Test.YtpocodofhkaddaaGreatDoorProg
import Derived.Test.YtpocodofhkaddaaGreatDoorExt
import Derived.Test.YtpocodofhkaddaaGreatDoorClone
import Derived.Test.YtpocodofhkaddaaGreatDoorCloneE
import Derived.Test.YtpocodofhkaddaaGreatDoorInsert
import Derived.Test.YtpocodofhkaddaaGreatDoorBuild
import Derived.Test.YtpocodofhkaddaaGreatDoorWalk4
set_option linter.unusedVariables false
set_option maxRecDepth 100000
set_option maxHeartbeats 4000000
namespace Go.Proofs.YtpocodofhkaddaaGreatDoor.W
open Go Go.RowKit
theorem ref58_Check_con (p_m : Machine) (ao1 : Option Addr) (cap1 : Nat) (w : World) (H : Heap) (hH : Le H (hp w)) (h1 : SL H encItem ao1 p_m.items) (hc1 : p_m.items.length ≤ cap1) (hG : Glob H) (r : Int) (hm : ref58_Check p_m = some r) :
  Con Tryz.prog 34 [(.agg #[(.slice ao1 p_m.items.length cap1), (.int .i64 p_m.cycles)])] w H (fun v _ => v = (.int .i64 r)) := by
 unfold ref58_Check at hm
 refine con_of hH Tryz.func34 rfl 60 Tryz.ntmps34 rfl ?_
 refine WP.seq (WP.region ?_)
 refine WL.step (Runs.free rfl) rfl rfl (os_box (cs := [(.slice ao1 p_m.items.length cap1), (.int .i64 p_m.cycles)]) rfl rfl rfl (fun b1 => ?_))
 refine wq rfl rfl rfl (ov_assign rfl rfl) ?_
 refine WL.nil (then_normal (WP.seq (WP.seq (WP.region ?_))))
 refine wq rfl rfl rfl (ov_fieldAddr Tryz.underlying31 rfl rfl rfl Tryz.sizeOf3 rfl rfl) ?_
 refine wq rfl rfl rfl (ov_load_box (i := 0) Tryz.isAgg3 rfl rfl rfl rfl) ?_
 obtain ⟨r1, e1, hm⟩ := bind_some hm
 refine WL.quiet (Runs.free rfl) rfl rfl (oq_con (r := (.bool r1)) Tryz.call48 rfl rfl (fun w' s => ⟨_, (ref58_in_con p_m.cycles 0 1048576  w' H s.hold hG r1 e1)⟩)) ?_
 refine wq rfl rfl rfl (ov_not rfl rfl) ?_
 refine WL.nil (then_normal ?_)
 refine WP.cond rfl (fun hc2 => ?_) (fun hc2 => ?_)
 ·
  replace hm := ite_t hc2 hm
  refine WP.seq (WP.region ?_)
  refine wq rfl rfl rfl (ov_assign rfl rfl) ?_
  refine WL.nil (then_normal (WP.ret (then_ret ?_)))
  obtain rfl := Option.some.inj hm
  refine retQ_ret Tryz.results34 (Res.tmp rfl Res.nil) rfl (fun w' s => ⟨s.below, ?_⟩)
  exact rfl
 ·
  replace hm := ite_f hc2 hm
  refine WP.skip (then_normal (WP.seq (WP.seq (WP.region ?_))))
  refine wq rfl rfl rfl (ov_fieldAddr Tryz.underlying31 rfl rfl rfl Tryz.sizeOf29 rfl rfl) ?_
  refine wq rfl rfl rfl (ov_load_box (i := 0) Tryz.isAgg29 rfl rfl rfl rfl) ?_
  refine wq rfl rfl rfl (ov_len_slice Tryz.underlying29 rfl rfl) ?_
  refine wq rfl rfl rfl (ov_gtr rfl rfl rfl) ?_
  refine WL.nil (then_normal ?_)
  refine WP.cond rfl (fun hc3 => ?_) (fun hc3 => ?_)
  ·
   replace hm := ite_t hc3 hm
   refine WP.seq (WP.region ?_)
   refine wq rfl rfl rfl (ov_assign rfl rfl) ?_
   refine WL.nil (then_normal (WP.ret (then_ret ?_)))
   obtain rfl := Option.some.inj hm
   refine retQ_ret Tryz.results34 (Res.tmp rfl Res.nil) rfl (fun w' s => ⟨s.below, ?_⟩)
   exact rfl
  ·
   replace hm := ite_f hc3 hm
   refine WP.skip (then_normal ?_)
   obtain ⟨k1, hk1, hm⟩ := joinK_some hm
   refine WP.seq_join (fun g' S' => Sub [(1000000007, (.bool false))] g' ∧ (∀ w', S' w' → St w H [] H w') ∧ k1 = some r) ?_ ?_
   ·
    skip
    refine WP.seq (WP.region ?_)
    refine wq rfl rfl rfl (ov_assign rfl rfl) ?_
    refine WL.nil (then_normal (WP.block ?_))
    refine WP.loop (fun m1 g' S' => ∃ (i1 : Int), Sub [(1, (pB b1 0)), (3, (.int .i64 i1)), (1000000007, (.bool false))] g' ∧ (∀ w', S' w' → St w H [.blk b1 31 [(.slice ao1 p_m.items.length cap1), (.int .i64 p_m.cycles)]] H w') ∧ ref58_Check_loop1 p_m k1 m1 i1 = some r) ((Int.toNat ((p_m.items.length : Int) - 0) + 1)) ⟨0, (Sub.cons rfl (Sub.cons rfl (Sub.cons rfl (Sub.nil _)))), fun w' s => s, hm⟩ ?_ ?_
    ·
     rintro g' S' ⟨_, _, _, hm⟩
     exact none_some hm
    ·
     rintro m1 g' S' ⟨i1, hsub1, hS1, hm⟩
     refine WP.sub hsub1 (WP.weaken hS1 ?_)
     rw [ref58_Check_loop1] at hm
     refine WP.seq (WP.seq (WP.region ?_))
     refine wq rfl rfl rfl (ov_move rfl rfl) ?_
     refine wq rfl rfl rfl (ov_fieldAddr Tryz.underlying31 rfl rfl rfl Tryz.sizeOf29 rfl rfl) ?_
     refine wq rfl rfl rfl (ov_load_box (i := 0) Tryz.isAgg29 rfl rfl rfl rfl) ?_
     refine wq rfl rfl rfl (ov_len_slice Tryz.underlying29 rfl rfl) ?_
     refine wq rfl rfl rfl (ov_lss rfl rfl rfl) ?_
     refine WL.nil (then_normal ?_)
     refine WP.cond rfl (fun hc4 => ?_) (fun hc4 => ?_)
     ·
      replace hm := ite_t hc4 hm
      refine WP.skip (then_normal (WP.seq (WP.block (WP.seq (WP.seq (WP.region ?_))))))
      refine wq rfl rfl rfl (ov_fieldAddr Tryz.underlying31 rfl rfl rfl Tryz.sizeOf29 rfl rfl) ?_
      refine wq rfl rfl rfl (ov_load_box (i := 0) Tryz.isAgg29 rfl rfl rfl rfl) ?_
      refine wq rfl rfl rfl (ov_move rfl rfl) ?_
      obtain ⟨x1, e2, hm⟩ := bind_some hm
      obtain ⟨h2, h3, h4, cs1, h5, h6⟩ := h1.get e2 (by decide)
      obtain rfl : cs1 = [(mkS x1.name), (.int .i64 x1.life), (.int .i64 x1.used), (.int .i64 x1.faults), (.bool x1.faulty), (.int .i64 x1.since), (.int .i64 x1.cycles)] := h5
      refine wq rfl rfl rfl (ov_indexAddr Tryz.underlying29 Tryz.sizeOf103 rfl rfl rfl h2 h3 h4) ?_
      refine wq rfl rfl rfl (ov_fieldAddrE Tryz.underlying103 rfl rfl rfl Tryz.sizeOf9 rfl rfl) ?_
      refine wq rfl rfl rfl (ov_load_elem (v := (mkS x1.name)) Tryz.isAgg9 rfl rfl (h6.one (off := 0) rfl)) ?_
      obtain ⟨r2, e3, hm⟩ := bind_some hm
      refine WL.quiet (Runs.free rfl) rfl rfl (oq_con (r := (.int .i64 r2)) Tryz.call49 rfl rfl (fun w' s => ⟨_, (ref12_Word_con x1.name  w' H s.hold hG r2 e3)⟩)) ?_
      refine wq rfl rfl rfl (ov_assign rfl rfl) ?_
      refine WL.nil (then_normal (WP.seq (WP.region ?_)))
      refine wq rfl rfl rfl (ov_move rfl rfl) ?_
      refine wq rfl rfl rfl (ov_neq rfl rfl rfl) ?_
      refine WL.nil (then_normal ?_)
      refine WP.cond rfl (fun hc5 => ?_) (fun hc5 => ?_)
      ·
       replace hm := ite_t hc5 hm
       refine WP.seq (WP.region ?_)
       refine wq rfl rfl rfl (ov_move rfl rfl) ?_
       refine wq rfl rfl rfl (ov_assign rfl rfl) ?_
       refine WL.nil (then_normal (WP.ret (then_ret (block_ret (then_ret (then_ret (block_ret (then_ret ?_))))))))
       obtain rfl := Option.some.inj hm
       refine retQ_ret Tryz.results34 (Res.tmp rfl Res.nil) rfl (fun w' s => ⟨s.below, ?_⟩)
       exact rfl
      ·
       replace hm := ite_f hc5 hm
       refine WP.skip (then_normal (WP.seq (WP.seq ?_)))
       refine WP.region_draws (by kernel_rfl) (by kernel_rfl) (fun _ s => s.drew) ?_
       refine QL.quiet (Runs.free rfl) rfl rfl (OV.quiet (ov_move rfl rfl)) ?_
       refine QL.quiet (Runs.free rfl) rfl rfl (OV.quiet (ov_gtr rfl rfl rfl)) ?_
       refine QL.quiet (Runs.free rfl) rfl rfl (OV.quiet (ov_move rfl rfl)) ?_
       obtain ⟨c1, e4, hm⟩ := bind_some hm
       refine QL.part_bool 15 48 (x := c1) ?_ ?_
       ·
        rcases Bool.eq_false_or_eq_true (decide (i1 > 0)) with hc6 | hc6
        ·
         skip
         replace hm := ite_t hc6 e4
         refine QL.quiet (Runs.yes rfl rfl rfl hc6) rfl rfl (OV.quiet (ov_fieldAddr Tryz.underlying31 rfl rfl rfl Tryz.sizeOf29 rfl rfl)) ?_
         refine QL.quiet (Runs.yes rfl rfl rfl hc6) rfl rfl (OV.quiet (ov_load_box (i := 0) Tryz.isAgg29 rfl rfl rfl rfl)) ?_
         refine QL.quiet (Runs.yes rfl rfl rfl hc6) rfl rfl (OV.quiet (ov_move rfl rfl)) ?_
         obtain ⟨x2, e5, hm⟩ := bind_some hm
         obtain ⟨h7, h8, h9, cs2, h10, h11⟩ := h1.get e5 (by decide)
         obtain rfl : cs2 = [(mkS x2.name), (.int .i64 x2.life), (.int .i64 x2.used), (.int .i64 x2.faults), (.bool x2.faulty), (.int .i64 x2.since), (.int .i64 x2.cycles)] := h10
         refine QL.quiet (Runs.yes rfl rfl rfl hc6) rfl rfl (OV.quiet (ov_indexAddr Tryz.underlying29 Tryz.sizeOf103 rfl rfl rfl h7 h8 h9)) ?_
         refine QL.quiet (Runs.yes rfl rfl rfl hc6) rfl rfl (OV.quiet (ov_fieldAddrE Tryz.underlying103 rfl rfl rfl Tryz.sizeOf9 rfl rfl)) ?_
         refine QL.quiet (Runs.yes rfl rfl rfl hc6) rfl rfl (OV.quiet (ov_load_elem (v := (mkS x2.name)) Tryz.isAgg9 rfl rfl (h11.one (off := 0) rfl))) ?_
         refine QL.quiet (Runs.yes rfl rfl rfl hc6) rfl rfl (OV.quiet (ov_fieldAddr Tryz.underlying31 rfl rfl rfl Tryz.sizeOf29 rfl rfl)) ?_
         refine QL.quiet (Runs.yes rfl rfl rfl hc6) rfl rfl (OV.quiet (ov_load_box (i := 0) Tryz.isAgg29 rfl rfl rfl rfl)) ?_
         refine QL.quiet (Runs.yes rfl rfl rfl hc6) rfl rfl (OV.quiet (ov_move rfl rfl)) ?_
         refine QL.quiet (Runs.yes rfl rfl rfl hc6) rfl rfl (OV.quiet (ov_sub rfl rfl rfl)) ?_
         obtain ⟨x3, e6, hm⟩ := bind_some hm
         obtain ⟨h12, h13, h14, cs3, h15, h16⟩ := h1.get e6 (by decide)
         obtain rfl : cs3 = [(mkS x3.name), (.int .i64 x3.life), (.int .i64 x3.used), (.int .i64 x3.faults), (.bool x3.faulty), (.int .i64 x3.since), (.int .i64 x3.cycles)] := h15
         refine QL.quiet (Runs.yes rfl rfl rfl hc6) rfl rfl (OV.quiet (ov_indexAddr Tryz.underlying29 Tryz.sizeOf103 rfl rfl rfl h12 h13 h14)) ?_
         refine QL.quiet (Runs.yes rfl rfl rfl hc6) rfl rfl (OV.quiet (ov_fieldAddrE Tryz.underlying103 rfl rfl rfl Tryz.sizeOf9 rfl rfl)) ?_
         refine QL.quiet (Runs.yes rfl rfl rfl hc6) rfl rfl (OV.quiet (ov_load_elem (v := (mkS x3.name)) Tryz.isAgg9 rfl rfl (h16.one (off := 0) rfl))) ?_
         refine QL.quiet (Runs.yes rfl rfl rfl hc6) rfl rfl (OV.quiet (ov_sleq rfl rfl rfl)) ?_
         refine QL.quiet (Runs.free rfl) rfl rfl (OV.quiet (ov_pick_true rfl (guard_eq rfl hc6) rfl)) ?_
         exact QL.nil (Sub.cons' rfl (congrArg Value.bool (Option.some.inj hm)) (Sub.skip rfl (Sub.skip rfl (Sub.skip rfl (Sub.skip rfl (Sub.skip rfl (Sub.skip rfl (Sub.skip rfl (Sub.skip rfl (Sub.skip rfl (Sub.skip rfl (Sub.skip rfl (Sub.skip rfl (Sub.skip rfl (Sub.skip rfl (Sub.skip rfl (Sub.refl _)))))))))))))))))
        ·
         skip
         replace hm := ite_f hc6 e4
         refine QL.idle (Idle.no rfl rfl rfl hc6) rfl rfl ?_
         refine QL.idle (Idle.no rfl rfl rfl hc6) rfl rfl ?_
         refine QL.idle (Idle.no rfl rfl rfl hc6) rfl rfl ?_
         refine QL.idle (Idle.no rfl rfl rfl hc6) rfl rfl ?_
         refine QL.idle (Idle.no rfl rfl rfl hc6) rfl rfl ?_
         refine QL.idle (Idle.no rfl rfl rfl hc6) rfl rfl ?_
         refine QL.idle (Idle.no rfl rfl rfl hc6) rfl rfl ?_
         refine QL.idle (Idle.no rfl rfl rfl hc6) rfl rfl ?_
         refine QL.idle (Idle.no rfl rfl rfl hc6) rfl rfl ?_
         refine QL.idle (Idle.no rfl rfl rfl hc6) rfl rfl ?_
         refine QL.idle (Idle.no rfl rfl rfl hc6) rfl rfl ?_
         refine QL.idle (Idle.no rfl rfl rfl hc6) rfl rfl ?_
         refine QL.idle (Idle.no rfl rfl rfl hc6) rfl rfl ?_
         refine QL.idle (Idle.no rfl rfl rfl hc6) rfl rfl ?_
         refine QL.quiet (Runs.free rfl) rfl rfl (OV.quiet (ov_pick_false rfl (guard_eq rfl hc6) rfl)) ?_
         exact QL.nil (Sub.cons' rfl (congrArg Value.bool (Option.some.inj hm)) (Sub.skip rfl (Sub.skip rfl (Sub.skip rfl (Sub.skip rfl (Sub.skip rfl (Sub.skip rfl (Sub.skip rfl (Sub.skip rfl (Sub.skip rfl (Sub.skip rfl (Sub.skip rfl (Sub.skip rfl (Sub.skip rfl (Sub.skip rfl (Sub.skip rfl (Sub.refl _)))))))))))))))))
       refine QL.nil ?_
       refine then_normal ?_
       refine WP.cond rfl (fun hc7 => ?_) (fun hc7 => ?_)
       ·
        replace hm := ite_t hc7 hm
        refine WP.seq (WP.region ?_)
        refine wq rfl rfl rfl (ov_assign rfl rfl) ?_
        refine WL.nil (then_normal (WP.ret (then_ret (block_ret (then_ret (then_ret (block_ret (then_ret ?_))))))))
        obtain rfl := Option.some.inj hm
        refine retQ_ret Tryz.results34 (Res.tmp rfl Res.nil) rfl (fun w' s => ⟨s.below, ?_⟩)
        exact rfl
       ·
        replace hm := ite_f hc7 hm
        refine WP.skip (then_normal (WP.seq ?_))
        refine WP.region_draws (by kernel_rfl) (by kernel_rfl) (fun _ s => s.drew) ?_
        refine QL.quiet (Runs.free rfl) rfl rfl (OV.quiet (ov_fieldAddr Tryz.underlying31 rfl rfl rfl Tryz.sizeOf29 rfl rfl)) ?_
        refine QL.quiet (Runs.free rfl) rfl rfl (OV.quiet (ov_load_box (i := 0) Tryz.isAgg29 rfl rfl rfl rfl)) ?_
        refine QL.quiet (Runs.free rfl) rfl rfl (OV.quiet (ov_move rfl rfl)) ?_
        obtain ⟨x4, e7, hm⟩ := bind_some hm
        obtain ⟨h17, h18, h19, cs4, h20, h21⟩ := h1.get e7 (by decide)
        obtain rfl : cs4 = [(mkS x4.name), (.int .i64 x4.life), (.int .i64 x4.used), (.int .i64 x4.faults), (.bool x4.faulty), (.int .i64 x4.since), (.int .i64 x4.cycles)] := h20
        refine QL.quiet (Runs.free rfl) rfl rfl (OV.quiet (ov_indexAddr Tryz.underlying29 Tryz.sizeOf103 rfl rfl rfl h17 h18 h19)) ?_
        refine QL.quiet (Runs.free rfl) rfl rfl (OV.quiet (ov_load_elems (vs := [(mkS x4.name), (.int .i64 x4.life), (.int .i64 x4.used), (.int .i64 x4.faults), (.bool x4.faulty), (.int .i64 x4.since), (.int .i64 x4.cycles)]) Tryz.isAgg103 Tryz.sizeOf103 rfl rfl rfl h21 h19)) ?_
        refine QL.quiet (Runs.free rfl) rfl rfl (OV.quiet (ov_fieldAddr Tryz.underlying31 rfl rfl rfl Tryz.sizeOf3 rfl rfl)) ?_
        refine QL.quiet (Runs.free rfl) rfl rfl (OV.quiet (ov_load_box (i := 0) Tryz.isAgg3 rfl rfl rfl rfl)) ?_
        obtain ⟨r3, e8, hm⟩ := bind_some hm
        refine QL.quiet (Runs.free rfl) rfl rfl (oq_con (r := (.int .i64 r3)) Tryz.call50 rfl rfl (fun w' s => ⟨_, (ref58_item_con x4 p_m.cycles  w' H s.hold hG r3 e8)⟩)) ?_
        refine QL.quiet (Runs.free rfl) rfl rfl (OV.quiet (ov_assign rfl rfl)) ?_
        refine QL.nil ?_
        refine then_normal (WP.seq (WP.region ?_))
        refine wq rfl rfl rfl (ov_move rfl rfl) ?_
        refine wq rfl rfl rfl (ov_neq rfl rfl rfl) ?_
        refine WL.nil (then_normal ?_)
        refine WP.cond rfl (fun hc8 => ?_) (fun hc8 => ?_)
        ·
         replace hm := ite_t hc8 hm
         refine WP.seq (WP.region ?_)
         refine wq rfl rfl rfl (ov_move rfl rfl) ?_
         refine wq rfl rfl rfl (ov_assign rfl rfl) ?_
         refine WL.nil (then_normal (WP.ret (block_ret (then_ret (then_ret (block_ret (then_ret ?_)))))))
         obtain rfl := Option.some.inj hm
         refine retQ_ret Tryz.results34 (Res.tmp rfl Res.nil) rfl (fun w' s => ⟨s.below, ?_⟩)
         exact rfl
        ·
         replace hm := ite_f hc8 hm
         refine WP.skip (block_normal (then_normal (WP.region ?_)))
         refine wq rfl rfl rfl (ov_move rfl rfl) ?_
         refine wq rfl rfl rfl (ov_add rfl rfl rfl) ?_
         refine wq rfl rfl rfl (ov_assign rfl rfl) ?_
         refine WL.nil (then_normal ?_)
         exact ⟨(IntKind.wrap .i64 (i1 + 1)), (Sub.cons rfl (Sub.cons rfl (Sub.cons rfl (Sub.nil _)))), fun w' s => s, hm⟩
     ·
      replace hm := ite_f hc4 hm
      refine WP.exit (then_exit (then_exit (block_here (then_normal ?_))))
      exact ⟨(Sub.cons rfl (Sub.nil _)), fun w' s => (s.select [] (by decide) rfl), hm⟩
   ·
    rintro g' S' ⟨hsub2, hS2, hm⟩
    refine WP.sub hsub2 (WP.weaken hS2 ?_)
    replace hm := hk1.symm.trans hm
    refine WP.seq (WP.region ?_)
    refine wq rfl rfl rfl (ov_assign rfl rfl) ?_
    refine WL.nil (then_normal (WP.ret ?_))
    obtain rfl := Option.some.inj hm
    refine retQ_ret Tryz.results34 (Res.tmp rfl Res.nil) rfl (fun w' s => ⟨s.below, ?_⟩)
    exact rfl

theorem ref58_counted_con (p_kind : Int) (w : World) (H : Heap) (hH : Le H (hp w)) (hG : Glob H) (r : Bool) (hm : ref58_counted p_kind = some r) :
  Con Tryz.prog 51 [(.int .i64 p_kind)] w H (fun v _ => v = (.bool r)) := by
 unfold ref58_counted at hm
 refine con_of hH Tryz.func51 rfl 13 Tryz.ntmps51 rfl ?_
 refine WP.seq (WP.region ?_)
 refine wq rfl rfl rfl (ov_assign rfl rfl) ?_
 refine WL.nil (then_normal (WP.seq (WP.region ?_)))
 refine wq rfl rfl rfl (ov_move rfl rfl) ?_
 refine wq rfl rfl rfl (ov_eql rfl rfl rfl) ?_
 refine wq rfl rfl rfl (ov_move rfl rfl) ?_
 refine WL.cut_bool 3 8 (x := ((p_kind == 0) || (p_kind == 1))) ?_ ?_
 ·
  rcases Bool.eq_false_or_eq_true (p_kind == 0) with hc1 | hc1
  ·
   skip
   refine WL.idle (Idle.no rfl rfl rfl hc1) rfl rfl ?_
   refine WL.idle (Idle.no rfl rfl rfl hc1) rfl rfl ?_
   refine wq rfl rfl rfl (ov_pick_true rfl (guard_eq rfl hc1) rfl) ?_
   exact WL.nil ⟨Sub.cons' rfl (congrArg Value.bool (orT hc1)) (Sub.skip rfl (Sub.skip rfl (Sub.skip rfl (Sub.refl _)))), fun _ s => s⟩
  ·
   skip
   refine WL.quiet (Runs.yes rfl rfl rfl hc1) rfl rfl (OV.quiet (ov_move rfl rfl)) ?_
   refine WL.quiet (Runs.yes rfl rfl rfl hc1) rfl rfl (OV.quiet (ov_eql rfl rfl rfl)) ?_
   refine wq rfl rfl rfl (ov_pick_false rfl (guard_eq rfl hc1) rfl) ?_
   exact WL.nil ⟨Sub.cons' rfl (congrArg Value.bool (orF hc1)) (Sub.skip rfl (Sub.skip rfl (Sub.skip rfl (Sub.refl _)))), fun _ s => s⟩
 refine wq rfl rfl rfl (ov_move rfl rfl) ?_
 refine WL.cut_bool 3 12 (x := (((p_kind == 0) || (p_kind == 1)) || (p_kind == 4))) ?_ ?_
 ·
  rcases Bool.eq_false_or_eq_true ((p_kind == 0) || (p_kind == 1)) with hc2 | hc2
  ·
   skip
   refine WL.idle (Idle.no rfl rfl rfl hc2) rfl rfl ?_
   refine WL.idle (Idle.no rfl rfl rfl hc2) rfl rfl ?_
   refine wq rfl rfl rfl (ov_pick_true rfl (guard_eq rfl hc2) rfl) ?_
   exact WL.nil ⟨Sub.cons' rfl (congrArg Value.bool (orT hc2)) (Sub.skip rfl (Sub.skip rfl (Sub.skip rfl (Sub.refl _)))), fun _ s => s⟩
  ·
   skip
   refine WL.quiet (Runs.yes rfl rfl rfl hc2) rfl rfl (OV.quiet (ov_move rfl rfl)) ?_
   refine WL.quiet (Runs.yes rfl rfl rfl hc2) rfl rfl (OV.quiet (ov_eql rfl rfl rfl)) ?_
   refine wq rfl rfl rfl (ov_pick_false rfl (guard_eq rfl hc2) rfl) ?_
   exact WL.nil ⟨Sub.cons' rfl (congrArg Value.bool (orF hc2)) (Sub.skip rfl (Sub.skip rfl (Sub.skip rfl (Sub.refl _)))), fun _ s => s⟩
 refine wq rfl rfl rfl (ov_assign rfl rfl) ?_
 refine WL.nil (then_normal (WP.ret ?_))
 obtain rfl := Option.some.inj hm
 refine retQ_ret Tryz.results51 (Res.tmp rfl Res.nil) rfl (fun w' s => ⟨s.below, ?_⟩)
 exact rfl

theorem ref58_Right_con (p_x : Entry) (w : World) (H : Heap) (hH : Le H (hp w)) (hG : Glob H) (r : Int) (hm : ref58_Right p_x = some r) :
  Con Tryz.prog 35 [(.agg #[(.int .i64 p_x.kind), (mkS p_x.name), (.int .i64 p_x.count), (.int .i64 p_x.strokes)])] w H (fun v _ => v = (.int .i64 r)) := by
 unfold ref58_Right at hm
 refine con_of hH Tryz.func35 rfl 53 Tryz.ntmps35 rfl ?_
 refine WP.seq (WP.region ?_)
 refine WL.step (Runs.free rfl) rfl rfl (os_box (cs := [(.int .i64 p_x.kind), (mkS p_x.name), (.int .i64 p_x.count), (.int .i64 p_x.strokes)]) rfl rfl rfl (fun b1 => ?_))
 refine wq rfl rfl rfl (ov_assign rfl rfl) ?_
 refine WL.nil (then_normal (WP.seq (WP.seq (WP.region ?_))))
 refine wq rfl rfl rfl (ov_fieldAddr Tryz.underlying51 rfl rfl rfl Tryz.sizeOf3 rfl rfl) ?_
 refine wq rfl rfl rfl (ov_load_box (i := 0) Tryz.isAgg3 rfl rfl rfl rfl) ?_
 obtain ⟨r1, e1, hm⟩ := bind_some hm
 refine WL.quiet (Runs.free rfl) rfl rfl (oq_con (r := (.bool r1)) Tryz.call48 rfl rfl (fun w' s => ⟨_, (ref58_in_con p_x.kind 0 5  w' H s.hold hG r1 e1)⟩)) ?_
 refine wq rfl rfl rfl (ov_not rfl rfl) ?_
 refine WL.nil (then_normal ?_)
 refine WP.cond rfl (fun hc1 => ?_) (fun hc1 => ?_)
 ·
  replace hm := ite_t hc1 hm
  refine WP.seq (WP.region ?_)
  refine wq rfl rfl rfl (ov_assign rfl rfl) ?_
  refine WL.nil (then_normal (WP.ret (then_ret ?_)))
  obtain rfl := Option.some.inj hm
  refine retQ_ret Tryz.results35 (Res.tmp rfl Res.nil) rfl (fun w' s => ⟨s.below, ?_⟩)
  exact rfl
 ·
  replace hm := ite_f hc1 hm
  refine WP.skip (then_normal (WP.seq (WP.seq (WP.region ?_))))
  refine wq rfl rfl rfl (ov_fieldAddr Tryz.underlying51 rfl rfl rfl Tryz.sizeOf9 rfl rfl) ?_
  refine wq rfl rfl rfl (ov_load_box (i := 0) Tryz.isAgg9 rfl rfl rfl rfl) ?_
  obtain ⟨r2, e2, hm⟩ := bind_some hm
  refine WL.quiet (Runs.free rfl) rfl rfl (oq_con (r := (.int .i64 r2)) Tryz.call49 rfl rfl (fun w' s => ⟨_, (ref12_Word_con p_x.name  w' H s.hold hG r2 e2)⟩)) ?_
  refine wq rfl rfl rfl (ov_assign rfl rfl) ?_
  refine WL.nil (then_normal (WP.seq (WP.region ?_)))
  refine wq rfl rfl rfl (ov_move rfl rfl) ?_
  refine wq rfl rfl rfl (ov_neq rfl rfl rfl) ?_
  refine WL.nil (then_normal ?_)
  refine WP.cond rfl (fun hc2 => ?_) (fun hc2 => ?_)
  ·
   replace hm := ite_t hc2 hm
   refine WP.seq (WP.region ?_)
   refine wq rfl rfl rfl (ov_move rfl rfl) ?_
   refine wq rfl rfl rfl (ov_assign rfl rfl) ?_
   refine WL.nil (then_normal (WP.ret (then_ret ?_)))
   obtain rfl := Option.some.inj hm
   refine retQ_ret Tryz.results35 (Res.tmp rfl Res.nil) rfl (fun w' s => ⟨s.below, ?_⟩)
   exact rfl
  ·
   replace hm := ite_f hc2 hm
   refine WP.skip (then_normal (WP.seq (WP.seq (WP.region ?_))))
   refine wq rfl rfl rfl (ov_fieldAddr Tryz.underlying51 rfl rfl rfl Tryz.sizeOf3 rfl rfl) ?_
   refine wq rfl rfl rfl (ov_load_box (i := 0) Tryz.isAgg3 rfl rfl rfl rfl) ?_
   obtain ⟨r3, e3, hm⟩ := bind_some hm
   refine WL.quiet (Runs.free rfl) rfl rfl (oq_con (r := (.bool r3)) Tryz.call51 rfl rfl (fun w' s => ⟨_, (ref58_counted_con p_x.kind  w' H s.hold hG r3 e3)⟩)) ?_
   refine wq rfl rfl rfl (ov_move rfl rfl) ?_
   obtain ⟨c1, e4, hm⟩ := bind_some hm
   refine WL.cut_bool 5 22 (x := c1) ?_ ?_
   ·
    rcases Bool.eq_false_or_eq_true r3 with hc3 | hc3
    ·
     skip
     replace hm := ite_t hc3 e4
     refine WL.quiet (Runs.yes rfl rfl rfl hc3) rfl rfl (OV.quiet (ov_fieldAddr Tryz.underlying51 rfl rfl rfl Tryz.sizeOf3 rfl rfl)) ?_
     refine WL.quiet (Runs.yes rfl rfl rfl hc3) rfl rfl (OV.quiet (ov_load_box (i := 0) Tryz.isAgg3 rfl rfl rfl rfl)) ?_
     obtain ⟨r4, e5, hm⟩ := bind_some hm
     refine WL.quiet (Runs.yes rfl rfl rfl hc3) rfl rfl (oq_con (r := (.bool r4)) Tryz.call48 rfl rfl (fun w' s => ⟨_, (ref58_in_con p_x.count 1 1048576  w' H s.hold hG r4 e5)⟩)) ?_
     refine WL.quiet (Runs.yes rfl rfl rfl hc3) rfl rfl (OV.quiet (ov_not rfl rfl)) ?_
     refine wq rfl rfl rfl (ov_pick_true rfl (guard_eq rfl hc3) rfl) ?_
     exact WL.nil ⟨Sub.cons' rfl (congrArg Value.bool (Option.some.inj hm)) (Sub.skip rfl (Sub.skip rfl (Sub.skip rfl (Sub.skip rfl (Sub.skip rfl (Sub.refl _)))))), fun _ s => s⟩
    ·
     skip
     replace hm := ite_f hc3 e4
     refine WL.idle (Idle.no rfl rfl rfl hc3) rfl rfl ?_
     refine WL.idle (Idle.no rfl rfl rfl hc3) rfl rfl ?_
     refine WL.idle (Idle.no rfl rfl rfl hc3) rfl rfl ?_
     refine WL.idle (Idle.no rfl rfl rfl hc3) rfl rfl ?_
     refine wq rfl rfl rfl (ov_pick_false rfl (guard_eq rfl hc3) rfl) ?_
     exact WL.nil ⟨Sub.cons' rfl (congrArg Value.bool (Option.some.inj hm)) (Sub.skip rfl (Sub.skip rfl (Sub.skip rfl (Sub.skip rfl (Sub.skip rfl (Sub.refl _)))))), fun _ s => s⟩
   refine wq rfl rfl rfl (ov_move rfl rfl) ?_
   obtain ⟨c2, e6, hm⟩ := bind_some hm
   refine WL.cut_bool 10 33 (x := c2) ?_ ?_
   ·
    rcases Bool.eq_false_or_eq_true c1 with hc4 | hc4
    ·
     skip
     replace hm := ite_t hc4 e6
     refine WL.idle (Idle.no rfl rfl rfl hc4) rfl rfl ?_
     refine WL.idle (Idle.no rfl rfl rfl hc4) rfl rfl ?_
     refine WL.idle (Idle.no rfl rfl rfl hc4) rfl rfl ?_
     refine WL.idle (Idle.no rfl rfl rfl hc4) rfl rfl ?_
     refine WL.idle (Idle.no rfl rfl rfl hc4) rfl rfl ?_
     refine WL.idle (Idle.undef rfl rfl rfl) rfl rfl ?_
     refine WL.idle (Idle.undef rfl rfl rfl) rfl rfl ?_
     refine WL.idle (Idle.undef rfl rfl rfl) rfl rfl ?_
     refine WL.idle (Idle.no rfl rfl rfl hc4) rfl rfl ?_
     refine wq rfl rfl rfl (ov_pick_true rfl (guard_eq rfl hc4) rfl) ?_
     exact WL.nil ⟨Sub.cons' rfl (congrArg Value.bool (Option.some.inj hm)) (Sub.skip rfl (Sub.skip rfl (Sub.skip rfl (Sub.skip rfl (Sub.skip rfl (Sub.skip rfl (Sub.skip rfl (Sub.skip rfl (Sub.skip rfl (Sub.skip rfl (Sub.refl _))))))))))), fun _ s => s⟩
    ·
     skip
     replace hm := ite_f hc4 e6
     refine WL.quiet (Runs.yes rfl rfl rfl hc4) rfl rfl (OV.quiet (ov_fieldAddr Tryz.underlying51 rfl rfl rfl Tryz.sizeOf3 rfl rfl)) ?_
     refine WL.quiet (Runs.yes rfl rfl rfl hc4) rfl rfl (OV.quiet (ov_load_box (i := 0) Tryz.isAgg3 rfl rfl rfl rfl)) ?_
     obtain ⟨r5, e7, hm⟩ := bind_some hm
     refine WL.quiet (Runs.yes rfl rfl rfl hc4) rfl rfl (oq_con (r := (.bool r5)) Tryz.call51 rfl rfl (fun w' s => ⟨_, (ref58_counted_con p_x.kind  w' H s.hold hG r5 e7)⟩)) ?_
     refine WL.quiet (Runs.yes rfl rfl rfl hc4) rfl rfl (OV.quiet (ov_not rfl rfl)) ?_
     refine WL.quiet (Runs.yes rfl rfl rfl hc4) rfl rfl (OV.quiet (ov_move rfl rfl)) ?_
     refine WL.cut_bool 4 32 (x := ((!r5) && (p_x.count != 0))) ?_ ?_
     ·
      rcases Bool.eq_false_or_eq_true (!r5) with hc5 | hc5
      ·
       skip
       refine WL.quiet (Runs.yes rfl rfl rfl hc5) rfl rfl (OV.quiet (ov_fieldAddr Tryz.underlying51 rfl rfl rfl Tryz.sizeOf3 rfl rfl)) ?_
       refine WL.quiet (Runs.yes rfl rfl rfl hc5) rfl rfl (OV.quiet (ov_load_box (i := 0) Tryz.isAgg3 rfl rfl rfl rfl)) ?_
       refine WL.quiet (Runs.yes rfl rfl rfl hc5) rfl rfl (OV.quiet (ov_neq rfl rfl rfl)) ?_
       refine WL.quiet (Runs.yes rfl rfl rfl hc4) rfl rfl (OV.quiet (ov_pick_true rfl (guard_eq rfl hc5) rfl)) ?_
       exact WL.nil ⟨Sub.cons' rfl (congrArg Value.bool (andT hc5)) (Sub.skip rfl (Sub.skip rfl (Sub.skip rfl (Sub.skip rfl (Sub.refl _))))), fun _ s => s⟩
      ·
       skip
       refine WL.idle (Idle.no rfl rfl rfl hc5) rfl rfl ?_
       refine WL.idle (Idle.no rfl rfl rfl hc5) rfl rfl ?_
       refine WL.idle (Idle.no rfl rfl rfl hc5) rfl rfl ?_
       refine WL.quiet (Runs.yes rfl rfl rfl hc4) rfl rfl (OV.quiet (ov_pick_false rfl (guard_eq rfl hc5) rfl)) ?_
       exact WL.nil ⟨Sub.cons' rfl (congrArg Value.bool (andF hc5)) (Sub.skip rfl (Sub.skip rfl (Sub.skip rfl (Sub.skip rfl (Sub.refl _))))), fun _ s => s⟩
     refine wq rfl rfl rfl (ov_pick_false rfl (guard_eq rfl hc4) rfl) ?_
     exact WL.nil ⟨Sub.cons' rfl (congrArg Value.bool (Option.some.inj hm)) (Sub.skip rfl (Sub.skip rfl (Sub.skip rfl (Sub.skip rfl (Sub.skip rfl (Sub.skip rfl (Sub.skip rfl (Sub.refl _)))))))), fun _ s => s⟩
   refine WL.nil (then_normal ?_)
   refine WP.cond rfl (fun hc6 => ?_) (fun hc6 => ?_)
   ·
    replace hm := ite_t hc6 hm
    refine WP.seq (WP.region ?_)
    refine wq rfl rfl rfl (ov_assign rfl rfl) ?_
    refine WL.nil (then_normal (WP.ret (then_ret ?_)))
    obtain rfl := Option.some.inj hm
    refine retQ_ret Tryz.results35 (Res.tmp rfl Res.nil) rfl (fun w' s => ⟨s.below, ?_⟩)
    exact rfl
   ·
    replace hm := ite_f hc6 hm
    refine WP.skip (then_normal (WP.seq (WP.seq (WP.region ?_))))
    refine wq rfl rfl rfl (ov_fieldAddr Tryz.underlying51 rfl rfl rfl Tryz.sizeOf3 rfl rfl) ?_
    refine wq rfl rfl rfl (ov_load_box (i := 0) Tryz.isAgg3 rfl rfl rfl rfl) ?_
    refine wq rfl rfl rfl (ov_eql rfl rfl rfl) ?_
    refine wq rfl rfl rfl (ov_move rfl rfl) ?_
    obtain ⟨c3, e8, hm⟩ := bind_some hm
    refine WL.cut_bool 5 42 (x := c3) ?_ ?_
    ·
     rcases Bool.eq_false_or_eq_true (p_x.kind == 1) with hc7 | hc7
     ·
      skip
      replace hm := ite_t hc7 e8
      refine WL.quiet (Runs.yes rfl rfl rfl hc7) rfl rfl (OV.quiet (ov_fieldAddr Tryz.underlying51 rfl rfl rfl Tryz.sizeOf3 rfl rfl)) ?_
      refine WL.quiet (Runs.yes rfl rfl rfl hc7) rfl rfl (OV.quiet (ov_load_box (i := 0) Tryz.isAgg3 rfl rfl rfl rfl)) ?_
      obtain ⟨r6, e9, hm⟩ := bind_some hm
      refine WL.quiet (Runs.yes rfl rfl rfl hc7) rfl rfl (oq_con (r := (.bool r6)) Tryz.call48 rfl rfl (fun w' s => ⟨_, (ref58_in_con p_x.strokes 0 1048576  w' H s.hold hG r6 e9)⟩)) ?_
      refine WL.quiet (Runs.yes rfl rfl rfl hc7) rfl rfl (OV.quiet (ov_not rfl rfl)) ?_
      refine wq rfl rfl rfl (ov_pick_true rfl (guard_eq rfl hc7) rfl) ?_
      exact WL.nil ⟨Sub.cons' rfl (congrArg Value.bool (Option.some.inj hm)) (Sub.skip rfl (Sub.skip rfl (Sub.skip rfl (Sub.skip rfl (Sub.skip rfl (Sub.refl _)))))), fun _ s => s⟩
     ·
      skip
      replace hm := ite_f hc7 e8
      refine WL.idle (Idle.no rfl rfl rfl hc7) rfl rfl ?_
      refine WL.idle (Idle.no rfl rfl rfl hc7) rfl rfl ?_
      refine WL.idle (Idle.no rfl rfl rfl hc7) rfl rfl ?_
      refine WL.idle (Idle.no rfl rfl rfl hc7) rfl rfl ?_
      refine wq rfl rfl rfl (ov_pick_false rfl (guard_eq rfl hc7) rfl) ?_
      exact WL.nil ⟨Sub.cons' rfl (congrArg Value.bool (Option.some.inj hm)) (Sub.skip rfl (Sub.skip rfl (Sub.skip rfl (Sub.skip rfl (Sub.skip rfl (Sub.refl _)))))), fun _ s => s⟩
    refine wq rfl rfl rfl (ov_move rfl rfl) ?_
    refine WL.cut_bool 9 52 (x := (c3 || ((p_x.kind != 1) && (p_x.strokes != 0)))) ?_ ?_
    ·
     rcases Bool.eq_false_or_eq_true c3 with hc8 | hc8
     ·
      skip
      refine WL.idle (Idle.no rfl rfl rfl hc8) rfl rfl ?_
      refine WL.idle (Idle.no rfl rfl rfl hc8) rfl rfl ?_
      refine WL.idle (Idle.no rfl rfl rfl hc8) rfl rfl ?_
      refine WL.idle (Idle.no rfl rfl rfl hc8) rfl rfl ?_
      refine WL.idle (Idle.undef rfl rfl rfl) rfl rfl ?_
      refine WL.idle (Idle.undef rfl rfl rfl) rfl rfl ?_
      refine WL.idle (Idle.undef rfl rfl rfl) rfl rfl ?_
      refine WL.idle (Idle.no rfl rfl rfl hc8) rfl rfl ?_
      refine wq rfl rfl rfl (ov_pick_true rfl (guard_eq rfl hc8) rfl) ?_
      exact WL.nil ⟨Sub.cons' rfl (congrArg Value.bool (orT hc8)) (Sub.skip rfl (Sub.skip rfl (Sub.skip rfl (Sub.skip rfl (Sub.skip rfl (Sub.skip rfl (Sub.skip rfl (Sub.skip rfl (Sub.skip rfl (Sub.refl _)))))))))), fun _ s => s⟩
     ·
      skip
      refine WL.quiet (Runs.yes rfl rfl rfl hc8) rfl rfl (OV.quiet (ov_fieldAddr Tryz.underlying51 rfl rfl rfl Tryz.sizeOf3 rfl rfl)) ?_
      refine WL.quiet (Runs.yes rfl rfl rfl hc8) rfl rfl (OV.quiet (ov_load_box (i := 0) Tryz.isAgg3 rfl rfl rfl rfl)) ?_
      refine WL.quiet (Runs.yes rfl rfl rfl hc8) rfl rfl (OV.quiet (ov_neq rfl rfl rfl)) ?_
      refine WL.quiet (Runs.yes rfl rfl rfl hc8) rfl rfl (OV.quiet (ov_move rfl rfl)) ?_
      refine WL.cut_bool 4 51 (x := ((p_x.kind != 1) && (p_x.strokes != 0))) ?_ ?_
      ·
       rcases Bool.eq_false_or_eq_true (p_x.kind != 1) with hc9 | hc9
       ·
        skip
        refine WL.quiet (Runs.yes rfl rfl rfl hc9) rfl rfl (OV.quiet (ov_fieldAddr Tryz.underlying51 rfl rfl rfl Tryz.sizeOf3 rfl rfl)) ?_
        refine WL.quiet (Runs.yes rfl rfl rfl hc9) rfl rfl (OV.quiet (ov_load_box (i := 0) Tryz.isAgg3 rfl rfl rfl rfl)) ?_
        refine WL.quiet (Runs.yes rfl rfl rfl hc9) rfl rfl (OV.quiet (ov_neq rfl rfl rfl)) ?_
        refine WL.quiet (Runs.yes rfl rfl rfl hc8) rfl rfl (OV.quiet (ov_pick_true rfl (guard_eq rfl hc9) rfl)) ?_
        exact WL.nil ⟨Sub.cons' rfl (congrArg Value.bool (andT hc9)) (Sub.skip rfl (Sub.skip rfl (Sub.skip rfl (Sub.skip rfl (Sub.refl _))))), fun _ s => s⟩
       ·
        skip
        refine WL.idle (Idle.no rfl rfl rfl hc9) rfl rfl ?_
        refine WL.idle (Idle.no rfl rfl rfl hc9) rfl rfl ?_
        refine WL.idle (Idle.no rfl rfl rfl hc9) rfl rfl ?_
        refine WL.quiet (Runs.yes rfl rfl rfl hc8) rfl rfl (OV.quiet (ov_pick_false rfl (guard_eq rfl hc9) rfl)) ?_
        exact WL.nil ⟨Sub.cons' rfl (congrArg Value.bool (andF hc9)) (Sub.skip rfl (Sub.skip rfl (Sub.skip rfl (Sub.skip rfl (Sub.refl _))))), fun _ s => s⟩
      refine wq rfl rfl rfl (ov_pick_false rfl (guard_eq rfl hc8) rfl) ?_
      exact WL.nil ⟨Sub.cons' rfl (congrArg Value.bool (orF hc8)) (Sub.skip rfl (Sub.skip rfl (Sub.skip rfl (Sub.skip rfl (Sub.skip rfl (Sub.skip rfl (Sub.refl _))))))), fun _ s => s⟩
    refine WL.nil (then_normal ?_)
    refine WP.cond rfl (fun hc10 => ?_) (fun hc10 => ?_)
    ·
     replace hm := ite_t hc10 hm
     refine WP.seq (WP.region ?_)
     refine wq rfl rfl rfl (ov_assign rfl rfl) ?_
     refine WL.nil (then_normal (WP.ret (then_ret ?_)))
     obtain rfl := Option.some.inj hm
     refine retQ_ret Tryz.results35 (Res.tmp rfl Res.nil) rfl (fun w' s => ⟨s.below, ?_⟩)
     exact rfl
    ·
     replace hm := ite_f hc10 hm
     refine WP.skip (then_normal (WP.seq (WP.region ?_)))
     refine wq rfl rfl rfl (ov_assign rfl rfl) ?_
     refine WL.nil (then_normal (WP.ret ?_))
     obtain rfl := Option.some.inj hm
     refine retQ_ret Tryz.results35 (Res.tmp rfl Res.nil) rfl (fun w' s => ⟨s.below, ?_⟩)
     exact rfl

theorem ref58_Place_con (p_m : Machine) (p_name : (List UInt8)) (ao1 : Option Addr) (cap1 : Nat) (w : World) (H : Heap) (hH : Le H (hp w)) (h1 : SL H encItem ao1 p_m.items) (hc1 : p_m.items.length ≤ cap1) (hG : Glob H) (r : Int) (hm : ref58_Place p_m p_name = some r) :
  Con Tryz.prog 53 [(.agg #[(.slice ao1 p_m.items.length cap1), (.int .i64 p_m.cycles)]), (mkS p_name)] w H (fun v _ => v = (.int .i64 r)) := by
 unfold ref58_Place at hm
 refine con_of hH Tryz.func53 rfl 22 Tryz.ntmps53 rfl ?_
 refine WP.seq (WP.region ?_)
 refine WL.step (Runs.free rfl) rfl rfl (os_box (cs := [(.slice ao1 p_m.items.length cap1), (.int .i64 p_m.cycles)]) rfl rfl rfl (fun b1 => ?_))
 refine wq rfl rfl rfl (ov_assign rfl rfl) ?_
 refine WL.nil (then_normal ?_)
 obtain ⟨k1, hk1, hm⟩ := joinK_some hm
 refine WP.seq_join (fun g' S' => Sub [(1000000007, (.bool false))] g' ∧ (∀ w', S' w' → St w H [] H w') ∧ k1 = some r) ?_ ?_
 ·
  skip
  refine WP.seq (WP.region ?_)
  refine wq rfl rfl rfl (ov_assign rfl rfl) ?_
  refine WL.nil (then_normal (WP.block ?_))
  refine WP.loop (fun m1 g' S' => ∃ (i1 : Int), Sub [(1, (mkS p_name)), (2, (pB b1 0)), (5, (.int .i64 i1)), (1000000007, (.bool false))] g' ∧ (∀ w', S' w' → St w H [.blk b1 31 [(.slice ao1 p_m.items.length cap1), (.int .i64 p_m.cycles)]] H w') ∧ ref58_Place_loop1 p_m p_name k1 m1 i1 = some r) ((Int.toNat ((p_m.items.length : Int) - 0) + 1)) ⟨0, (Sub.cons rfl (Sub.cons rfl (Sub.cons rfl (Sub.cons rfl (Sub.nil _))))), fun w' s => s, hm⟩ ?_ ?_
  ·
   rintro g' S' ⟨_, _, _, hm⟩
   exact none_some hm
  ·
   rintro m1 g' S' ⟨i1, hsub1, hS1, hm⟩
   refine WP.sub hsub1 (WP.weaken hS1 ?_)
   rw [ref58_Place_loop1] at hm
   refine WP.seq (WP.seq (WP.region ?_))
   refine wq rfl rfl rfl (ov_move rfl rfl) ?_
   refine wq rfl rfl rfl (ov_fieldAddr Tryz.underlying31 rfl rfl rfl Tryz.sizeOf29 rfl rfl) ?_
   refine wq rfl rfl rfl (ov_load_box (i := 0) Tryz.isAgg29 rfl rfl rfl rfl) ?_
   refine wq rfl rfl rfl (ov_len_slice Tryz.underlying29 rfl rfl) ?_
   refine wq rfl rfl rfl (ov_lss rfl rfl rfl) ?_
   refine WL.nil (then_normal ?_)
   refine WP.cond rfl (fun hc2 => ?_) (fun hc2 => ?_)
   ·
    replace hm := ite_t hc2 hm
    refine WP.skip (then_normal (WP.seq (WP.block (WP.seq (WP.region ?_)))))
    refine wq rfl rfl rfl (ov_fieldAddr Tryz.underlying31 rfl rfl rfl Tryz.sizeOf29 rfl rfl) ?_
    refine wq rfl rfl rfl (ov_load_box (i := 0) Tryz.isAgg29 rfl rfl rfl rfl) ?_
    refine wq rfl rfl rfl (ov_move rfl rfl) ?_
    obtain ⟨x1, e1, hm⟩ := bind_some hm
    obtain ⟨h2, h3, h4, cs1, h5, h6⟩ := h1.get e1 (by decide)
    obtain rfl : cs1 = [(mkS x1.name), (.int .i64 x1.life), (.int .i64 x1.used), (.int .i64 x1.faults), (.bool x1.faulty), (.int .i64 x1.since), (.int .i64 x1.cycles)] := h5
    refine wq rfl rfl rfl (ov_indexAddr Tryz.underlying29 Tryz.sizeOf103 rfl rfl rfl h2 h3 h4) ?_
    refine wq rfl rfl rfl (ov_fieldAddrE Tryz.underlying103 rfl rfl rfl Tryz.sizeOf9 rfl rfl) ?_
    refine wq rfl rfl rfl (ov_load_elem (v := (mkS x1.name)) Tryz.isAgg9 rfl rfl (h6.one (off := 0) rfl)) ?_
    refine wq rfl rfl rfl (ov_move rfl rfl) ?_
    refine wq rfl rfl rfl (ov_seql rfl rfl rfl) ?_
    refine WL.nil (then_normal ?_)
    refine WP.cond rfl (fun hc3 => ?_) (fun hc3 => ?_)
    ·
     replace hm := ite_t hc3 hm
     refine WP.seq (WP.region ?_)
     refine wq rfl rfl rfl (ov_move rfl rfl) ?_
     refine wq rfl rfl rfl (ov_assign rfl rfl) ?_
     refine WL.nil (then_normal (WP.ret (block_ret (then_ret (then_ret (block_ret (then_ret ?_)))))))
     obtain rfl := Option.some.inj hm
     refine retQ_ret Tryz.results53 (Res.tmp rfl Res.nil) rfl (fun w' s => ⟨s.below, ?_⟩)
     exact rfl
    ·
     replace hm := ite_f hc3 hm
     refine WP.skip (block_normal (then_normal (WP.region ?_)))
     refine wq rfl rfl rfl (ov_move rfl rfl) ?_
     refine wq rfl rfl rfl (ov_add rfl rfl rfl) ?_
     refine wq rfl rfl rfl (ov_assign rfl rfl) ?_
     refine WL.nil (then_normal ?_)
     exact ⟨(IntKind.wrap .i64 (i1 + 1)), (Sub.cons rfl (Sub.cons rfl (Sub.cons rfl (Sub.cons rfl (Sub.nil _))))), fun w' s => s, hm⟩
   ·
    replace hm := ite_f hc2 hm
    refine WP.exit (then_exit (then_exit (block_here (then_normal ?_))))
    exact ⟨(Sub.cons rfl (Sub.nil _)), fun w' s => (s.select [] (by decide) rfl), hm⟩
 ·
  rintro g' S' ⟨hsub2, hS2, hm⟩
  refine WP.sub hsub2 (WP.weaken hS2 ?_)
  replace hm := hk1.symm.trans hm
  refine WP.seq (WP.region ?_)
  refine wq rfl rfl rfl (ov_assign rfl rfl) ?_
  refine WL.nil (then_normal (WP.ret ?_))
  obtain rfl := Option.some.inj hm
  refine retQ_ret Tryz.results53 (Res.tmp rfl Res.nil) rfl (fun w' s => ⟨s.below, ?_⟩)
  exact rfl

theorem ref58_added_con (p_m : Machine) (p_x : Entry) (ao1 : Option Addr) (cap1 : Nat) (w : World) (H : Heap) (hH : Le H (hp w)) (h1 : SL H encItem ao1 p_m.items) (hc1 : p_m.items.length ≤ cap1) (hG : Glob H) (r : (Machine × Int)) (hm : ref58_added p_m p_x = some r) :
  Con Tryz.prog 52 [(.agg #[(.slice ao1 p_m.items.length cap1), (.int .i64 p_m.cycles)]), (.agg #[(.int .i64 p_x.kind), (mkS p_x.name), (.int .i64 p_x.count), (.int .i64 p_x.strokes)])] w H (fun v H' => ∃ (ao2 : Option Addr) (cap2 : Nat), v = (.tuple #[(.agg #[(.slice ao2 r.1.items.length cap2), (.int .i64 r.1.cycles)]), (.int .i64 r.2)]) ∧ SL H' encItem ao2 r.1.items ∧ r.1.items.length ≤ cap2) := by
 unfold ref58_added at hm
 refine con_of hH Tryz.func52 rfl 80 Tryz.ntmps52 rfl ?_
 refine WP.seq (WP.region ?_)
 refine WL.step (Runs.free rfl) rfl rfl (os_box (cs := [(.slice ao1 p_m.items.length cap1), (.int .i64 p_m.cycles)]) rfl rfl rfl (fun b1 => ?_))
 refine WL.step (Runs.free rfl) rfl rfl (os_box (cs := [(.int .i64 p_x.kind), (mkS p_x.name), (.int .i64 p_x.count), (.int .i64 p_x.strokes)]) rfl rfl rfl (fun b2 => ?_))
 refine WL.step (Runs.free rfl) rfl rfl (os_alloc (cs := [(.slice none 0 0), (.int .i64 0)]) Tryz.zeroValue31 rfl rfl (fun b3 => ?_))
 refine wq rfl rfl rfl (ov_assign rfl rfl) ?_
 refine WL.nil (then_normal (WP.seq (WP.seq (WP.region ?_))))
 refine wq rfl rfl rfl (ov_load_whole (i := 2) Tryz.isAgg31 Tryz.sizeOf31 rfl rfl rfl rfl) ?_
 refine wq rfl rfl rfl (ov_fieldAddr Tryz.underlying51 rfl rfl rfl Tryz.sizeOf9 rfl rfl) ?_
 refine wq rfl rfl rfl (ov_load_box (i := 1) Tryz.isAgg9 rfl rfl rfl rfl) ?_
 obtain ⟨r1, e1, hm⟩ := bind_some hm
 refine WL.quiet (Runs.free rfl) rfl rfl (oq_con (r := (.int .i64 r1)) Tryz.call53 rfl rfl (fun w' s => ⟨_, (ref58_Place_con p_m p_x.name ao1 cap1  w' H s.hold h1 hc1 hG r1 e1)⟩)) ?_
 refine wq rfl rfl rfl (ov_geq rfl rfl rfl) ?_
 refine WL.nil (then_normal ?_)
 refine WP.cond rfl (fun hc3 => ?_) (fun hc3 => ?_)
 ·
  replace hm := ite_t hc3 hm
  refine WP.seq (WP.region ?_)
  refine wq rfl rfl rfl (ov_build (r := (.agg #[(.slice none 0 0), (.int .i64 0)])) rfl rfl (fun _ => by kernel_rfl)) ?_
  refine WL.step0 (Runs.free rfl) rfl (os_store (i := 0) (vs := [(.slice none 0 0), (.int .i64 0)]) (cs' := [(.slice none 0 0), (.int .i64 0)]) Tryz.sizeOf31 rfl rfl rfl rfl rfl rfl rfl rfl rfl ?_)
  refine wq rfl rfl rfl (ov_assign rfl rfl) ?_
  refine WL.nil (then_normal (WP.ret (then_ret ?_)))
  obtain rfl := Option.some.inj hm
  refine retQ_ret Tryz.results52 (Res.cell rfl (box_loads (i := 0) Tryz.isAgg31 Tryz.sizeOf31 rfl rfl) (Res.tmp rfl Res.nil)) rfl (fun w' s => ⟨s.below, ?_⟩)
  exact ⟨none, 0, rfl, SL.nil _ _ _, Nat.le_refl _⟩
 ·
  replace hm := ite_f hc3 hm
  refine WP.skip (then_normal (WP.seq (WP.seq (WP.region ?_))))
  refine wq rfl rfl rfl (ov_fieldAddr Tryz.underlying31 rfl rfl rfl Tryz.sizeOf29 rfl rfl) ?_
  refine wq rfl rfl rfl (ov_load_box (i := 2) Tryz.isAgg29 rfl rfl rfl rfl) ?_
  refine wq rfl rfl rfl (ov_len_slice Tryz.underlying29 rfl rfl) ?_
  refine wq rfl rfl rfl (ov_eql rfl rfl rfl) ?_
  refine WL.nil (then_normal ?_)
  refine WP.cond rfl (fun hc4 => ?_) (fun hc4 => ?_)
  ·
   replace hm := ite_t hc4 hm
   refine WP.seq (WP.region ?_)
   refine wq rfl rfl rfl (ov_build (r := (.agg #[(.slice none 0 0), (.int .i64 0)])) rfl rfl (fun _ => by kernel_rfl)) ?_
   refine WL.step0 (Runs.free rfl) rfl (os_store (i := 0) (vs := [(.slice none 0 0), (.int .i64 0)]) (cs' := [(.slice none 0 0), (.int .i64 0)]) Tryz.sizeOf31 rfl rfl rfl rfl rfl rfl rfl rfl rfl ?_)
   refine wq rfl rfl rfl (ov_assign rfl rfl) ?_
   refine WL.nil (then_normal (WP.ret (then_ret ?_)))
   obtain rfl := Option.some.inj hm
   refine retQ_ret Tryz.results52 (Res.cell rfl (box_loads (i := 0) Tryz.isAgg31 Tryz.sizeOf31 rfl rfl) (Res.tmp rfl Res.nil)) rfl (fun w' s => ⟨s.below, ?_⟩)
   exact ⟨none, 0, rfl, SL.nil _ _ _, Nat.le_refl _⟩
  ·
   replace hm := ite_f hc4 hm
   refine WP.skip (then_normal (WP.seq (WP.region ?_)))
   refine wq rfl rfl rfl (ov_fieldAddr Tryz.underlying31 rfl rfl rfl Tryz.sizeOf3 rfl rfl) ?_
   refine wq rfl rfl rfl (ov_load_box (i := 2) Tryz.isAgg3 rfl rfl rfl rfl) ?_
   refine wq rfl rfl rfl (ov_build (r := (.agg #[(.slice none 0 0), (.int .i64 p_m.cycles)])) rfl rfl (fun _ => by kernel_rfl)) ?_
   refine WL.step (Runs.free rfl) rfl rfl (os_alloc (cs := [(.slice none 0 0), (.int .i64 0)]) Tryz.zeroValue31 rfl rfl (fun b4 => ?_))
   refine WL.step0 (Runs.free rfl) rfl (os_store (i := 0) (vs := [(.slice none 0 0), (.int .i64 p_m.cycles)]) (cs' := [(.slice none 0 0), (.int .i64 p_m.cycles)]) Tryz.sizeOf31 rfl rfl rfl rfl rfl rfl rfl rfl rfl ?_)
   refine WL.nil (then_normal (WP.seq (WP.region ?_)))
   refine wq rfl rfl rfl (ov_assign rfl rfl) ?_
   refine WL.nil (then_normal ?_)
   obtain ⟨k1, hk1, hm⟩ := joinK_some hm
   refine WP.seq_join (fun g' S' => ∃ (c4 : Bool) (l6 : (List Item)) (ao8 : Option Addr) (cap8 : Nat) (xs3 : List Value), RL H encItem l6 xs3 ∧ Sub [(2, (pB b1 0)), (3, (pB b2 0)), (4, (pB b3 0)), (6, (pB b4 0)), (7, (.bool c4)), (1000000007, (.bool false))] g' ∧ (∀ w', S' w' → St w H [.row 103 (encItem).size l6.length (.slice ao8 l6.length cap8) xs3, .blk b4 31 [(.slice ao8 l6.length cap8), (.int .i64 p_m.cycles)], .blk b3 31 [(.slice none 0 0), (.int .i64 0)], .blk b2 51 [(.int .i64 p_x.kind), (mkS p_x.name), (.int .i64 p_x.count), (.int .i64 p_x.strokes)], .blk b1 31 [(.slice ao1 p_m.items.length cap1), (.int .i64 p_m.cycles)]] H w') ∧ k1 c4 l6 = some r) ?_ ?_
   ·
    skip
    refine WP.seq (WP.region ?_)
    refine wq rfl rfl rfl (ov_assign rfl rfl) ?_
    refine WL.nil (then_normal (WP.block ?_))
    have rl1 := RL.nil (α := Item) H encItem
    refine WP.weaken (fun _ s => s.nilrow 103 (encItem).size) ?_
    refine WP.loop (fun m1 g' S' => ∃ (c1 : Bool) (i1 : Int) (l1 : (List Item)) (ao3 : Option Addr) (cap3 : Nat) (xs1 : List Value), RL H encItem l1 xs1 ∧ Sub [(2, (pB b1 0)), (3, (pB b2 0)), (4, (pB b3 0)), (6, (pB b4 0)), (7, (.bool c1)), (8, (.int .i64 i1)), (1000000007, (.bool false))] g' ∧ (∀ w', S' w' → St w H [.row 103 (encItem).size l1.length (.slice ao3 l1.length cap3) xs1, .blk b4 31 [(.slice ao3 l1.length cap3), (.int .i64 p_m.cycles)], .blk b3 31 [(.slice none 0 0), (.int .i64 0)], .blk b2 51 [(.int .i64 p_x.kind), (mkS p_x.name), (.int .i64 p_x.count), (.int .i64 p_x.strokes)], .blk b1 31 [(.slice ao1 p_m.items.length cap1), (.int .i64 p_m.cycles)]] H w') ∧ ref58_added_loop1 p_m p_x k1 m1 c1 i1 l1 = some r) ((Int.toNat ((p_m.items.length : Int) - 0) + 1)) ⟨false, 0, ([] : List Item), none, 0, [], rl1, (Sub.cons rfl (Sub.cons rfl (Sub.cons rfl (Sub.cons rfl (Sub.cons rfl (Sub.cons rfl (Sub.cons rfl (Sub.nil _)))))))), fun w' s => s, hm⟩ ?_ ?_
    ·
     rintro g' S' ⟨_, _, _, _, _, _, _, _, _, hm⟩
     exact none_some hm
    ·
     rintro m1 g' S' ⟨c1, i1, l1, ao3, cap3, xs1, rl2, hsub1, hS1, hm⟩
     refine WP.sub hsub1 (WP.weaken hS1 ?_)
     rw [ref58_added_loop1] at hm
     refine WP.seq (WP.seq (WP.region ?_))
     refine wq rfl rfl rfl (ov_move rfl rfl) ?_
     refine wq rfl rfl rfl (ov_fieldAddr Tryz.underlying31 rfl rfl rfl Tryz.sizeOf29 rfl rfl) ?_
     refine wq rfl rfl rfl (ov_load_box (i := 4) Tryz.isAgg29 rfl rfl rfl rfl) ?_
     refine wq rfl rfl rfl (ov_len_slice Tryz.underlying29 rfl rfl) ?_
     refine wq rfl rfl rfl (ov_lss rfl rfl rfl) ?_
     refine WL.nil (then_normal ?_)
     refine WP.cond rfl (fun hc5 => ?_) (fun hc5 => ?_)
     ·
      replace hm := ite_t hc5 hm
      refine WP.skip (then_normal (WP.seq (WP.block ?_)))
      obtain ⟨k2, hk2, hm⟩ := joinK_some hm
      refine WP.seq_join (fun g' S' => ∃ (c3 : Bool) (l3 : (List Item)) (ao5 : Option Addr) (cap5 : Nat) (xs2 : List Value), RL H encItem l3 xs2 ∧ Sub [(2, (pB b1 0)), (3, (pB b2 0)), (4, (pB b3 0)), (6, (pB b4 0)), (7, (.bool c3)), (8, (.int .i64 i1)), (1000000007, (.bool false))] g' ∧ (∀ w', S' w' → St w H [.row 103 (encItem).size l3.length (.slice ao5 l3.length cap5) xs2, .blk b4 31 [(.slice ao5 l3.length cap5), (.int .i64 p_m.cycles)], .blk b3 31 [(.slice none 0 0), (.int .i64 0)], .blk b2 51 [(.int .i64 p_x.kind), (mkS p_x.name), (.int .i64 p_x.count), (.int .i64 p_x.strokes)], .blk b1 31 [(.slice ao1 p_m.items.length cap1), (.int .i64 p_m.cycles)]] H w') ∧ k2 c3 l3 = some r) ?_ ?_
      ·
       skip
       refine WP.seq ?_
       refine WP.region_draws (by kernel_rfl) (by kernel_rfl) (fun _ s => s.drew) ?_
       refine QL.quiet (Runs.free rfl) rfl rfl (OV.quiet (ov_move rfl rfl)) ?_
       refine QL.quiet (Runs.free rfl) rfl rfl (OV.quiet (ov_not rfl rfl)) ?_
       refine QL.quiet (Runs.free rfl) rfl rfl (OV.quiet (ov_move rfl rfl)) ?_
       obtain ⟨c2, e2, hm⟩ := bind_some hm
       refine QL.part_bool 10 42 (x := c2) ?_ ?_
       ·
        rcases Bool.eq_false_or_eq_true (!c1) with hc6 | hc6
        ·
         skip
         replace hm := ite_t hc6 e2
         refine QL.quiet (Runs.yes rfl rfl rfl hc6) rfl rfl (OV.quiet (ov_fieldAddr Tryz.underlying31 rfl rfl rfl Tryz.sizeOf29 rfl rfl)) ?_
         refine QL.quiet (Runs.yes rfl rfl rfl hc6) rfl rfl (OV.quiet (ov_load_box (i := 4) Tryz.isAgg29 rfl rfl rfl rfl)) ?_
         refine QL.quiet (Runs.yes rfl rfl rfl hc6) rfl rfl (OV.quiet (ov_move rfl rfl)) ?_
         obtain ⟨x1, e3, hm⟩ := bind_some hm
         obtain ⟨h3, h4, h5, cs1, h6, h7⟩ := h1.get e3 (by decide)
         obtain rfl : cs1 = [(mkS x1.name), (.int .i64 x1.life), (.int .i64 x1.used), (.int .i64 x1.faults), (.bool x1.faulty), (.int .i64 x1.since), (.int .i64 x1.cycles)] := h6
         refine QL.quiet (Runs.yes rfl rfl rfl hc6) rfl rfl (OV.quiet (ov_indexAddr Tryz.underlying29 Tryz.sizeOf103 rfl rfl rfl h3 h4 h5)) ?_
         refine QL.quiet (Runs.yes rfl rfl rfl hc6) rfl rfl (OV.quiet (ov_fieldAddrE Tryz.underlying103 rfl rfl rfl Tryz.sizeOf9 rfl rfl)) ?_
         refine QL.quiet (Runs.yes rfl rfl rfl hc6) rfl rfl (OV.quiet (ov_load_elem (v := (mkS x1.name)) Tryz.isAgg9 rfl rfl (h7.one (off := 0) rfl))) ?_
         refine QL.quiet (Runs.yes rfl rfl rfl hc6) rfl rfl (OV.quiet (ov_fieldAddr Tryz.underlying51 rfl rfl rfl Tryz.sizeOf9 rfl rfl)) ?_
         refine QL.quiet (Runs.yes rfl rfl rfl hc6) rfl rfl (OV.quiet (ov_load_box (i := 3) Tryz.isAgg9 rfl rfl rfl rfl)) ?_
         refine QL.quiet (Runs.yes rfl rfl rfl hc6) rfl rfl (OV.quiet (ov_sgtr rfl rfl rfl)) ?_
         refine QL.quiet (Runs.free rfl) rfl rfl (OV.quiet (ov_pick_true rfl (guard_eq rfl hc6) rfl)) ?_
         exact QL.nil (Sub.cons' rfl (congrArg Value.bool (Option.some.inj hm)) (Sub.skip rfl (Sub.skip rfl (Sub.skip rfl (Sub.skip rfl (Sub.skip rfl (Sub.skip rfl (Sub.skip rfl (Sub.skip rfl (Sub.skip rfl (Sub.skip rfl (Sub.refl _))))))))))))
        ·
         skip
         replace hm := ite_f hc6 e2
         refine QL.idle (Idle.no rfl rfl rfl hc6) rfl rfl ?_
         refine QL.idle (Idle.no rfl rfl rfl hc6) rfl rfl ?_
         refine QL.idle (Idle.no rfl rfl rfl hc6) rfl rfl ?_
         refine QL.idle (Idle.no rfl rfl rfl hc6) rfl rfl ?_
         refine QL.idle (Idle.no rfl rfl rfl hc6) rfl rfl ?_
         refine QL.idle (Idle.no rfl rfl rfl hc6) rfl rfl ?_
         refine QL.idle (Idle.no rfl rfl rfl hc6) rfl rfl ?_
         refine QL.idle (Idle.no rfl rfl rfl hc6) rfl rfl ?_
         refine QL.idle (Idle.no rfl rfl rfl hc6) rfl rfl ?_
         refine QL.quiet (Runs.free rfl) rfl rfl (OV.quiet (ov_pick_false rfl (guard_eq rfl hc6) rfl)) ?_
         exact QL.nil (Sub.cons' rfl (congrArg Value.bool (Option.some.inj hm)) (Sub.skip rfl (Sub.skip rfl (Sub.skip rfl (Sub.skip rfl (Sub.skip rfl (Sub.skip rfl (Sub.skip rfl (Sub.skip rfl (Sub.skip rfl (Sub.skip rfl (Sub.refl _))))))))))))
       refine QL.nil ?_
       refine then_normal ?_
       refine WP.cond rfl (fun hc7 => ?_) (fun hc7 => ?_)
       ·
        replace hm := ite_t hc7 hm
        refine WP.seq (WP.region ?_)
        refine wq rfl rfl rfl (ov_fieldAddr Tryz.underlying31 rfl rfl rfl Tryz.sizeOf29 rfl rfl) ?_
        refine wq rfl rfl rfl (ov_load_box (i := 1) Tryz.isAgg29 rfl rfl rfl rfl) ?_
        refine wq rfl rfl rfl (ov_fieldAddr Tryz.underlying51 rfl rfl rfl Tryz.sizeOf9 rfl rfl) ?_
        refine wq rfl rfl rfl (ov_load_box (i := 3) Tryz.isAgg9 rfl rfl rfl rfl) ?_
        refine wq rfl rfl rfl (ov_fieldAddr Tryz.underlying51 rfl rfl rfl Tryz.sizeOf3 rfl rfl) ?_
        refine wq rfl rfl rfl (ov_load_box (i := 3) Tryz.isAgg3 rfl rfl rfl rfl) ?_
        refine wq rfl rfl rfl (ov_fieldAddr Tryz.underlying31 rfl rfl rfl Tryz.sizeOf3 rfl rfl) ?_
        refine wq rfl rfl rfl (ov_load_box (i := 4) Tryz.isAgg3 rfl rfl rfl rfl) ?_
        refine wq rfl rfl rfl (ov_build (r := (.agg #[(mkS p_x.name), (.int .i64 p_x.count), (.int .i64 0), (.int .i64 0), (.bool false), (.int .i64 p_m.cycles), (.int .i64 0)])) rfl rfl (fun _ => by kernel_rfl)) ?_
        have rl3 : RL H encItem ([(Item.mk p_x.name p_x.count 0 0 false p_m.cycles 0)] : List Item) [(mkS p_x.name), (.int .i64 p_x.count), (.int .i64 0), (.int .i64 0), (.bool false), (.int .i64 p_m.cycles), (.int .i64 0)] := RL.cons (cs := [(mkS p_x.name), (.int .i64 p_x.count), (.int .i64 0), (.int .i64 0), (.bool false), (.int .i64 p_m.cycles), (.int .i64 0)]) (xs := []) rfl (RL.nil _ _)
        refine WL.step (Runs.free rfl) rfl rfl (os_buildSlice (cs := [(mkS p_x.name), (.int .i64 p_x.count), (.int .i64 0), (.int .i64 0), (.bool false), (.int .i64 p_m.cycles), (.int .i64 0)]) (E := 103) (sz := 7) rfl rfl (fun _ => by kernel_rfl) rfl (by decide) (fun b5 => ?_))
        obtain ⟨l2, e4, hm⟩ := bind_some hm
        refine WL.step (Runs.free rfl) rfl rfl (os_app (i := 1) (j := 0) (En := encItem) (xs := xs1) (ys := [(mkS p_x.name), (.int .i64 p_x.count), (.int .i64 0), (.int .i64 0), (.bool false), (.int .i64 p_m.cycles), (.int .i64 0)]) Tryz.underlying29 (by kernel_rfl : (Tryz.prog.info? 103).map (fun i => (i.zero, i.size, i.bytes)) = some (some (.agg #[(mkS []), (.int .i64 0), (.int .i64 0), (.int .i64 0), (.bool false), (.int .i64 0), (.int .i64 0)]), (encItem).size, 64)) rfl (by decide) rfl rfl rfl rfl rfl rfl rl2 rl3 e4 (fun ao4 cap4 rl4 => ?_))
        refine wq rfl rfl rfl (ov_fieldAddr Tryz.underlying31 rfl rfl rfl Tryz.sizeOf29 rfl rfl) ?_
        refine WL.step0 (Runs.free rfl) rfl (os_store (i := 2) (vs := [(.slice ao4 (l1 ++ ([(Item.mk p_x.name p_x.count 0 0 false p_m.cycles 0)] : List Item)).length cap4)]) (cs' := [(.slice ao4 (l1 ++ ([(Item.mk p_x.name p_x.count 0 0 false p_m.cycles 0)] : List Item)).length cap4), (.int .i64 p_m.cycles)]) Tryz.sizeOf29 rfl rfl rfl rfl rfl rfl rfl rfl rfl ?_)
        refine WL.nil (then_normal (WP.region ?_))
        refine wq rfl rfl rfl (ov_assign rfl rfl) ?_
        refine WL.nil (then_normal ?_)
        exact ⟨true, (l1 ++ ([(Item.mk p_x.name p_x.count 0 0 false p_m.cycles 0)] : List Item)), ao4, cap4, (xs1 ++ [(mkS p_x.name), (.int .i64 p_x.count), (.int .i64 0), (.int .i64 0), (.bool false), (.int .i64 p_m.cycles), (.int .i64 0)]), rl4, (Sub.cons rfl (Sub.cons rfl (Sub.cons rfl (Sub.cons rfl (Sub.cons rfl (Sub.cons rfl (Sub.cons rfl (Sub.nil _)))))))), fun w' s => (s.select [1, 2, 3, 4, 5] (by decide) rfl), hm⟩
       ·
        replace hm := ite_f hc7 hm
        refine WP.skip (then_normal ?_)
        exact ⟨c1, l1, ao3, cap3, xs1, rl2, (Sub.cons rfl (Sub.cons rfl (Sub.cons rfl (Sub.cons rfl (Sub.cons rfl (Sub.cons rfl (Sub.cons rfl (Sub.nil _)))))))), fun w' s => s, hm⟩
      ·
       rintro g' S' ⟨c3, l3, ao5, cap5, xs2, rl5, hsub2, hS2, hm⟩
       refine WP.sub hsub2 (WP.weaken hS2 ?_)
       replace hm := (congrFun (congrFun hk2 c3) l3).symm.trans hm
       refine WP.region_any (S₀ := St w H [.blk b3 31 [(.slice none 0 0), (.int .i64 0)], .blk b2 51 [(.int .i64 p_x.kind), (mkS p_x.name), (.int .i64 p_x.count), (.int .i64 p_x.strokes)], .blk b1 31 [(.slice ao1 p_m.items.length cap1), (.int .i64 p_m.cycles)]] H) 11 rfl (by kernel_rfl) (fun w' s => (s.select [2, 3, 4] (by decide) rfl)) (fun _ s => s.drew) ?_
       refine tq (i := 0) rfl (by kernel_rfl) rfl rfl rfl (ov_fieldAddr Tryz.underlying31 rfl rfl rfl Tryz.sizeOf29 rfl rfl) ?_
       refine tq (i := 2) rfl (by kernel_rfl) rfl rfl rfl (ov_fieldAddr Tryz.underlying31 rfl rfl rfl Tryz.sizeOf29 rfl rfl) ?_
       refine tq (i := 3) rfl (by kernel_rfl) rfl rfl rfl (ov_load_box (i := 2) Tryz.isAgg29 rfl rfl rfl rfl) ?_
       refine tq (i := 4) rfl (by kernel_rfl) rfl rfl rfl (ov_move rfl rfl) ?_
       obtain ⟨x2, e5, hm⟩ := bind_some hm
       obtain ⟨h8, h9, h10, cs2, h11, h12⟩ := h1.get e5 (by decide)
       obtain rfl : cs2 = [(mkS x2.name), (.int .i64 x2.life), (.int .i64 x2.used), (.int .i64 x2.faults), (.bool x2.faulty), (.int .i64 x2.since), (.int .i64 x2.cycles)] := h11
       refine tq (i := 5) rfl (by kernel_rfl) rfl rfl rfl (ov_indexAddr Tryz.underlying29 Tryz.sizeOf103 rfl rfl rfl h8 h9 h10) ?_
       refine tq (i := 6) rfl (by kernel_rfl) rfl rfl rfl (ov_load_elems (vs := [(mkS x2.name), (.int .i64 x2.life), (.int .i64 x2.used), (.int .i64 x2.faults), (.bool x2.faulty), (.int .i64 x2.since), (.int .i64 x2.cycles)]) Tryz.isAgg103 Tryz.sizeOf103 rfl rfl rfl h12 h10) ?_
       refine AL.any (rs := [1, 7]) (by kernel_rfl) (by decide) ?_
       refine ALs.cons (i := 1) rfl (Runs.free rfl) rfl rfl ?_ ?_
       ·
        skip
        refine OQ.step (OV.quiet (ov_load_box (i := 1) Tryz.isAgg29 rfl rfl rfl rfl)) ?_
        refine ⟨fun w' s => (s.select [2, 3, 4] (by decide) rfl), ?_⟩
        refine AL.any (rs := [7]) (by kernel_rfl) (by decide) ?_
        refine ALs.cons (i := 7) rfl (Runs.free rfl) rfl rfl ?_ ?_
        ·
         skip
         have rl6 : RL H encItem ([x2] : List Item) [(mkS x2.name), (.int .i64 x2.life), (.int .i64 x2.used), (.int .i64 x2.faults), (.bool x2.faulty), (.int .i64 x2.since), (.int .i64 x2.cycles)] := RL.cons (cs := [(mkS x2.name), (.int .i64 x2.life), (.int .i64 x2.used), (.int .i64 x2.faults), (.bool x2.faulty), (.int .i64 x2.since), (.int .i64 x2.cycles)]) (xs := []) rfl (RL.nil _ _)
         refine os_buildSlice (cs := [(mkS x2.name), (.int .i64 x2.life), (.int .i64 x2.used), (.int .i64 x2.faults), (.bool x2.faulty), (.int .i64 x2.since), (.int .i64 x2.cycles)]) (E := 103) (sz := 7) rfl rfl (fun _ => by kernel_rfl) rfl (by decide) (fun b6 => ?_)
         refine ⟨fun w' s => (s.select [3, 4, 5] (by decide) rfl), ?_⟩
         refine AL.any (rs := [8]) (by kernel_rfl) (by decide) ?_
         refine ALs.cons (i := 8) rfl (Runs.free rfl) rfl rfl ?_ ?_
         ·
          skip
          obtain ⟨l4, e6, hm⟩ := bind_some hm
          refine os_app (i := 1) (j := 0) (En := encItem) (xs := xs2) (ys := [(mkS x2.name), (.int .i64 x2.life), (.int .i64 x2.used), (.int .i64 x2.faults), (.bool x2.faulty), (.int .i64 x2.since), (.int .i64 x2.cycles)]) Tryz.underlying29 (by kernel_rfl : (Tryz.prog.info? 103).map (fun i => (i.zero, i.size, i.bytes)) = some (some (.agg #[(mkS []), (.int .i64 0), (.int .i64 0), (.int .i64 0), (.bool false), (.int .i64 0), (.int .i64 0)]), (encItem).size, 64)) rfl (by decide) rfl rfl rfl rfl rfl rfl rl5 rl6 e6 (fun ao6 cap6 rl7 => ?_)
          refine ⟨fun w' s => (s.select [3, 4, 5] (by decide) rfl), ?_⟩
          refine tq (i := 9) rfl (by kernel_rfl) rfl rfl rfl (ov_fieldAddr Tryz.underlying31 rfl rfl rfl Tryz.sizeOf29 rfl rfl) ?_
          refine AL.any (rs := [10]) (by kernel_rfl) (by decide) ?_
          refine ALs.cons0 (i := 10) rfl (Runs.free rfl) rfl ?_ ?_
          ·
           skip
           refine os_store (i := 2) (vs := [(.slice ao6 (l3 ++ ([x2] : List Item)).length cap6)]) (cs' := [(.slice ao6 (l3 ++ ([x2] : List Item)).length cap6), (.int .i64 p_m.cycles)]) Tryz.sizeOf29 rfl rfl rfl rfl rfl rfl rfl rfl rfl ?_
           refine ⟨fun w' s => (s.select [3, 4, 5] (by decide) rfl), ?_⟩
           refine AL.done (by kernel_rfl) ?_
           refine block_normal (then_normal (WP.region ?_))
           refine wq rfl rfl rfl (ov_move rfl rfl) ?_
           refine wq rfl rfl rfl (ov_add rfl rfl rfl) ?_
           refine wq rfl rfl rfl (ov_assign rfl rfl) ?_
           refine WL.nil (then_normal ?_)
           exact ⟨c3, (IntKind.wrap .i64 (i1 + 1)), (l3 ++ ([x2] : List Item)), ao6, cap6, (xs2 ++ [(mkS x2.name), (.int .i64 x2.life), (.int .i64 x2.used), (.int .i64 x2.faults), (.bool x2.faulty), (.int .i64 x2.since), (.int .i64 x2.cycles)]), rl7, (Sub.cons rfl (Sub.cons rfl (Sub.cons rfl (Sub.cons rfl (Sub.cons rfl (Sub.cons rfl (Sub.cons rfl (Sub.nil _)))))))), fun w' s => (s.select [1, 2, 3, 4, 5] (by decide) rfl), hm⟩
          exact ALs.nil
         exact ALs.nil
        exact ALs.nil
       refine ALs.cons (i := 7) rfl (Runs.free rfl) rfl rfl ?_ ?_
       ·
        skip
        have rl8 : RL H encItem ([x2] : List Item) [(mkS x2.name), (.int .i64 x2.life), (.int .i64 x2.used), (.int .i64 x2.faults), (.bool x2.faulty), (.int .i64 x2.since), (.int .i64 x2.cycles)] := RL.cons (cs := [(mkS x2.name), (.int .i64 x2.life), (.int .i64 x2.used), (.int .i64 x2.faults), (.bool x2.faulty), (.int .i64 x2.since), (.int .i64 x2.cycles)]) (xs := []) rfl (RL.nil _ _)
        refine os_buildSlice (cs := [(mkS x2.name), (.int .i64 x2.life), (.int .i64 x2.used), (.int .i64 x2.faults), (.bool x2.faulty), (.int .i64 x2.since), (.int .i64 x2.cycles)]) (E := 103) (sz := 7) rfl rfl (fun _ => by kernel_rfl) rfl (by decide) (fun b7 => ?_)
        refine ⟨fun w' s => (s.select [3, 4, 5] (by decide) rfl), ?_⟩
        refine AL.any (rs := [1]) (by kernel_rfl) (by decide) ?_
        refine ALs.cons (i := 1) rfl (Runs.free rfl) rfl rfl ?_ ?_
        ·
         skip
         refine OQ.step (OV.quiet (ov_load_box (i := 2) Tryz.isAgg29 rfl rfl rfl rfl)) ?_
         refine ⟨fun w' s => (s.select [3, 4, 5] (by decide) rfl), ?_⟩
         refine AL.any (rs := [8]) (by kernel_rfl) (by decide) ?_
         refine ALs.cons (i := 8) rfl (Runs.free rfl) rfl rfl ?_ ?_
         ·
          skip
          obtain ⟨l5, e7, hm⟩ := bind_some hm
          refine os_app (i := 1) (j := 0) (En := encItem) (xs := xs2) (ys := [(mkS x2.name), (.int .i64 x2.life), (.int .i64 x2.used), (.int .i64 x2.faults), (.bool x2.faulty), (.int .i64 x2.since), (.int .i64 x2.cycles)]) Tryz.underlying29 (by kernel_rfl : (Tryz.prog.info? 103).map (fun i => (i.zero, i.size, i.bytes)) = some (some (.agg #[(mkS []), (.int .i64 0), (.int .i64 0), (.int .i64 0), (.bool false), (.int .i64 0), (.int .i64 0)]), (encItem).size, 64)) rfl (by decide) rfl rfl rfl rfl rfl rfl rl5 rl8 e7 (fun ao7 cap7 rl9 => ?_)
          refine ⟨fun w' s => (s.select [3, 4, 5] (by decide) rfl), ?_⟩
          refine tq (i := 9) rfl (by kernel_rfl) rfl rfl rfl (ov_fieldAddr Tryz.underlying31 rfl rfl rfl Tryz.sizeOf29 rfl rfl) ?_
          refine AL.any (rs := [10]) (by kernel_rfl) (by decide) ?_
          refine ALs.cons0 (i := 10) rfl (Runs.free rfl) rfl ?_ ?_
          ·
           skip
           refine os_store (i := 2) (vs := [(.slice ao7 (l3 ++ ([x2] : List Item)).length cap7)]) (cs' := [(.slice ao7 (l3 ++ ([x2] : List Item)).length cap7), (.int .i64 p_m.cycles)]) Tryz.sizeOf29 rfl rfl rfl rfl rfl rfl rfl rfl rfl ?_
           refine ⟨fun w' s => (s.select [3, 4, 5] (by decide) rfl), ?_⟩
           refine AL.done (by kernel_rfl) ?_
           refine block_normal (then_normal (WP.region ?_))
           refine wq rfl rfl rfl (ov_move rfl rfl) ?_
           refine wq rfl rfl rfl (ov_add rfl rfl rfl) ?_
           refine wq rfl rfl rfl (ov_assign rfl rfl) ?_
           refine WL.nil (then_normal ?_)
           exact ⟨c3, (IntKind.wrap .i64 (i1 + 1)), (l3 ++ ([x2] : List Item)), ao7, cap7, (xs2 ++ [(mkS x2.name), (.int .i64 x2.life), (.int .i64 x2.used), (.int .i64 x2.faults), (.bool x2.faulty), (.int .i64 x2.since), (.int .i64 x2.cycles)]), rl9, (Sub.cons rfl (Sub.cons rfl (Sub.cons rfl (Sub.cons rfl (Sub.cons rfl (Sub.cons rfl (Sub.cons rfl (Sub.nil _)))))))), fun w' s => (s.select [1, 2, 3, 4, 5] (by decide) rfl), hm⟩
          exact ALs.nil
         exact ALs.nil
        exact ALs.nil
       exact ALs.nil
     ·
      replace hm := ite_f hc5 hm
      refine WP.exit (then_exit (then_exit (block_here (then_normal ?_))))
      exact ⟨c1, l1, ao3, cap3, xs1, rl2, (Sub.cons rfl (Sub.cons rfl (Sub.cons rfl (Sub.cons rfl (Sub.cons rfl (Sub.cons rfl (Sub.nil _))))))), fun w' s => s, hm⟩
   ·
    rintro g' S' ⟨c4, l6, ao8, cap8, xs3, rl10, hsub3, hS3, hm⟩
    refine WP.sub hsub3 (WP.weaken hS3 ?_)
    replace hm := (congrFun (congrFun hk1 c4) l6).symm.trans hm
    obtain ⟨k3, hk3, hm⟩ := joinK_some hm
    refine WP.seq_join (fun g' S' => ∃ (l8 : (List Item)) (ao10 : Option Addr) (cap10 : Nat) (xs4 : List Value), RL H encItem l8 xs4 ∧ Sub [(4, (pB b3 0)), (6, (pB b4 0)), (1000000007, (.bool false))] g' ∧ (∀ w', S' w' → St w H [.row 103 (encItem).size l8.length (.slice ao10 l8.length cap10) xs4, .blk b4 31 [(.slice ao10 l8.length cap10), (.int .i64 p_m.cycles)], .blk b3 31 [(.slice none 0 0), (.int .i64 0)]] H w') ∧ k3 l8 = some r) ?_ ?_
    ·
     skip
     refine WP.seq (WP.region ?_)
     refine wq rfl rfl rfl (ov_move rfl rfl) ?_
     refine wq rfl rfl rfl (ov_not rfl rfl) ?_
     refine WL.nil (then_normal ?_)
     refine WP.cond rfl (fun hc8 => ?_) (fun hc8 => ?_)
     ·
      replace hm := ite_t hc8 hm
      refine WP.region ?_
      refine wq rfl rfl rfl (ov_fieldAddr Tryz.underlying31 rfl rfl rfl Tryz.sizeOf29 rfl rfl) ?_
      refine wq rfl rfl rfl (ov_load_box (i := 1) Tryz.isAgg29 rfl rfl rfl rfl) ?_
      refine wq rfl rfl rfl (ov_fieldAddr Tryz.underlying51 rfl rfl rfl Tryz.sizeOf9 rfl rfl) ?_
      refine wq rfl rfl rfl (ov_load_box (i := 3) Tryz.isAgg9 rfl rfl rfl rfl) ?_
      refine wq rfl rfl rfl (ov_fieldAddr Tryz.underlying51 rfl rfl rfl Tryz.sizeOf3 rfl rfl) ?_
      refine wq rfl rfl rfl (ov_load_box (i := 3) Tryz.isAgg3 rfl rfl rfl rfl) ?_
      refine wq rfl rfl rfl (ov_fieldAddr Tryz.underlying31 rfl rfl rfl Tryz.sizeOf3 rfl rfl) ?_
      refine wq rfl rfl rfl (ov_load_box (i := 4) Tryz.isAgg3 rfl rfl rfl rfl) ?_
      refine wq rfl rfl rfl (ov_build (r := (.agg #[(mkS p_x.name), (.int .i64 p_x.count), (.int .i64 0), (.int .i64 0), (.bool false), (.int .i64 p_m.cycles), (.int .i64 0)])) rfl rfl (fun _ => by kernel_rfl)) ?_
      have rl11 : RL H encItem ([(Item.mk p_x.name p_x.count 0 0 false p_m.cycles 0)] : List Item) [(mkS p_x.name), (.int .i64 p_x.count), (.int .i64 0), (.int .i64 0), (.bool false), (.int .i64 p_m.cycles), (.int .i64 0)] := RL.cons (cs := [(mkS p_x.name), (.int .i64 p_x.count), (.int .i64 0), (.int .i64 0), (.bool false), (.int .i64 p_m.cycles), (.int .i64 0)]) (xs := []) rfl (RL.nil _ _)
      refine WL.step (Runs.free rfl) rfl rfl (os_buildSlice (cs := [(mkS p_x.name), (.int .i64 p_x.count), (.int .i64 0), (.int .i64 0), (.bool false), (.int .i64 p_m.cycles), (.int .i64 0)]) (E := 103) (sz := 7) rfl rfl (fun _ => by kernel_rfl) rfl (by decide) (fun b8 => ?_))
      obtain ⟨l7, e8, hm⟩ := bind_some hm
      refine WL.step (Runs.free rfl) rfl rfl (os_app (i := 1) (j := 0) (En := encItem) (xs := xs3) (ys := [(mkS p_x.name), (.int .i64 p_x.count), (.int .i64 0), (.int .i64 0), (.bool false), (.int .i64 p_m.cycles), (.int .i64 0)]) Tryz.underlying29 (by kernel_rfl : (Tryz.prog.info? 103).map (fun i => (i.zero, i.size, i.bytes)) = some (some (.agg #[(mkS []), (.int .i64 0), (.int .i64 0), (.int .i64 0), (.bool false), (.int .i64 0), (.int .i64 0)]), (encItem).size, 64)) rfl (by decide) rfl rfl rfl rfl rfl rfl rl10 rl11 e8 (fun ao9 cap9 rl12 => ?_))
      refine wq rfl rfl rfl (ov_fieldAddr Tryz.underlying31 rfl rfl rfl Tryz.sizeOf29 rfl rfl) ?_
      refine WL.step0 (Runs.free rfl) rfl (os_store (i := 2) (vs := [(.slice ao9 (l6 ++ ([(Item.mk p_x.name p_x.count 0 0 false p_m.cycles 0)] : List Item)).length cap9)]) (cs' := [(.slice ao9 (l6 ++ ([(Item.mk p_x.name p_x.count 0 0 false p_m.cycles 0)] : List Item)).length cap9), (.int .i64 p_m.cycles)]) Tryz.sizeOf29 rfl rfl rfl rfl rfl rfl rfl rfl rfl ?_)
      refine WL.nil (then_normal ?_)
      exact ⟨(l6 ++ ([(Item.mk p_x.name p_x.count 0 0 false p_m.cycles 0)] : List Item)), ao9, cap9, (xs3 ++ [(mkS p_x.name), (.int .i64 p_x.count), (.int .i64 0), (.int .i64 0), (.bool false), (.int .i64 p_m.cycles), (.int .i64 0)]), rl12, (Sub.cons rfl (Sub.cons rfl (Sub.cons rfl (Sub.nil _)))), fun w' s => (s.select [1, 2, 3] (by decide) rfl), hm⟩
     ·
      replace hm := ite_f hc8 hm
      refine WP.skip (then_normal ?_)
      exact ⟨l6, ao8, cap8, xs3, rl10, (Sub.cons rfl (Sub.cons rfl (Sub.cons rfl (Sub.nil _)))), fun w' s => (s.select [0, 1, 2] (by decide) rfl), hm⟩
    ·
     rintro g' S' ⟨l8, ao10, cap10, xs4, rl13, hsub4, hS4, hm⟩
     refine WP.sub hsub4 (WP.weaken hS4 ?_)
     replace hm := (congrFun hk3 l8).symm.trans hm
     refine WP.seq (WP.region ?_)
     refine wq rfl rfl rfl (ov_load_whole (i := 1) Tryz.isAgg31 Tryz.sizeOf31 rfl rfl rfl rfl) ?_
     refine WL.step0 (Runs.free rfl) rfl (os_store (i := 2) (vs := [(.slice ao10 l8.length cap10), (.int .i64 p_m.cycles)]) (cs' := [(.slice ao10 l8.length cap10), (.int .i64 p_m.cycles)]) Tryz.sizeOf31 rfl rfl rfl rfl rfl rfl rfl rfl rfl ?_)
     refine wq rfl rfl rfl (ov_assign rfl rfl) ?_
     refine WL.nil (then_normal (WP.ret ?_))
     obtain rfl := Option.some.inj hm
     refine retQ_ret Tryz.results52 (Res.cell rfl (box_loads (i := 2) Tryz.isAgg31 Tryz.sizeOf31 rfl rfl) (Res.tmp rfl Res.nil)) rfl (fun w' s => ⟨s.below, ?_⟩)
     obtain ⟨h13, hc9⟩ := s.ret_row (i := 0) rfl rl13
     exact ⟨ao10, cap10, rfl, h13, hc9⟩

theorem ref58_Done_con (p_m : Machine) (p_x : Entry) (ao1 : Option Addr) (cap1 : Nat) (w : World) (H : Heap) (hH : Le H (hp w)) (h1 : SL H encItem ao1 p_m.items) (hc1 : p_m.items.length ≤ cap1) (hG : Glob H) (r : (Machine × Int)) (hm : ref58_Done p_m p_x = some r) :
  Con Tryz.prog 36 [(.agg #[(.slice ao1 p_m.items.length cap1), (.int .i64 p_m.cycles)]), (.agg #[(.int .i64 p_x.kind), (mkS p_x.name), (.int .i64 p_x.count), (.int .i64 p_x.strokes)])] w H (fun v H' => ∃ (ao2 : Option Addr) (cap2 : Nat), v = (.tuple #[(.agg #[(.slice ao2 r.1.items.length cap2), (.int .i64 r.1.cycles)]), (.int .i64 r.2)]) ∧ SL H' encItem ao2 r.1.items ∧ r.1.items.length ≤ cap2) := by
 unfold ref58_Done at hm
 refine con_of hH Tryz.func36 rfl 134 Tryz.ntmps36 rfl ?_
 refine WP.seq (WP.region ?_)
 refine WL.step (Runs.free rfl) rfl rfl (os_box (cs := [(.slice ao1 p_m.items.length cap1), (.int .i64 p_m.cycles)]) rfl rfl rfl (fun b1 => ?_))
 refine WL.step (Runs.free rfl) rfl rfl (os_box (cs := [(.int .i64 p_x.kind), (mkS p_x.name), (.int .i64 p_x.count), (.int .i64 p_x.strokes)]) rfl rfl rfl (fun b2 => ?_))
 refine WL.step (Runs.free rfl) rfl rfl (os_alloc (cs := [(.slice none 0 0), (.int .i64 0)]) Tryz.zeroValue31 rfl rfl (fun b3 => ?_))
 refine wq rfl rfl rfl (ov_assign rfl rfl) ?_
 refine WL.nil (then_normal (WP.seq (WP.seq (WP.region ?_))))
 refine wq rfl rfl rfl (ov_fieldAddr Tryz.underlying51 rfl rfl rfl Tryz.sizeOf3 rfl rfl) ?_
 refine wq rfl rfl rfl (ov_load_box (i := 1) Tryz.isAgg3 rfl rfl rfl rfl) ?_
 refine wq rfl rfl rfl (ov_eql rfl rfl rfl) ?_
 refine WL.nil (then_normal ?_)
 refine WP.cond rfl (fun hc3 => ?_) (fun hc3 => ?_)
 ·
  replace hm := ite_t hc3 hm
  refine WP.seq (WP.region ?_)
  refine wq rfl rfl rfl (ov_load_whole (i := 2) Tryz.isAgg31 Tryz.sizeOf31 rfl rfl rfl rfl) ?_
  refine wq rfl rfl rfl (ov_load_whole (i := 1) Tryz.isAgg51 Tryz.sizeOf51 rfl rfl rfl rfl) ?_
  obtain ⟨r1, e1, hm⟩ := bind_some hm
  refine WL.step (Runs.free rfl) rfl rfl (os_con Tryz.call52 rfl rfl (fun w' s => (ref58_added_con p_m p_x ao1 cap1  w' H s.hold h1 hc1 hG r1 e1)) (fun rr1 H1 hle1 hR1 => ?_))
  replace h1 := h1.mono hle1
  replace hG := hG.mono hle1
  obtain ⟨ao3, cap3, rfl, h3, hc4⟩ := hR1
  refine wq rfl rfl rfl (ov_extract rfl rfl rfl) ?_
  refine wq rfl rfl rfl (ov_extract rfl rfl rfl) ?_
  refine WL.step0 (Runs.free rfl) rfl (os_store (i := 0) (vs := [(.slice ao3 r1.1.items.length cap3), (.int .i64 r1.1.cycles)]) (cs' := [(.slice ao3 r1.1.items.length cap3), (.int .i64 r1.1.cycles)]) Tryz.sizeOf31 rfl rfl rfl rfl rfl rfl rfl rfl rfl ?_)
  refine wq rfl rfl rfl (ov_assign rfl rfl) ?_
  refine WL.nil (then_normal (WP.ret (then_ret ?_)))
  obtain rfl := Option.some.inj hm
  refine retQ_ret Tryz.results36 (Res.cell rfl (box_loads (i := 0) Tryz.isAgg31 Tryz.sizeOf31 rfl rfl) (Res.tmp rfl Res.nil)) rfl (fun w' s => ⟨s.below, ?_⟩)
  exact ⟨ao3, cap3, rfl, h3.mono s.le_newer, hc4⟩
 ·
  replace hm := ite_f hc3 hm
  refine WP.skip (then_normal (WP.seq (WP.region ?_)))
  refine wq rfl rfl rfl (ov_load_whole (i := 2) Tryz.isAgg31 Tryz.sizeOf31 rfl rfl rfl rfl) ?_
  refine wq rfl rfl rfl (ov_fieldAddr Tryz.underlying51 rfl rfl rfl Tryz.sizeOf9 rfl rfl) ?_
  refine wq rfl rfl rfl (ov_load_box (i := 1) Tryz.isAgg9 rfl rfl rfl rfl) ?_
  obtain ⟨r2, e2, hm⟩ := bind_some hm
  refine WL.quiet (Runs.free rfl) rfl rfl (oq_con (r := (.int .i64 r2)) Tryz.call53 rfl rfl (fun w' s => ⟨_, (ref58_Place_con p_m p_x.name ao1 cap1  w' H s.hold h1 hc1 hG r2 e2)⟩)) ?_
  refine wq rfl rfl rfl (ov_assign rfl rfl) ?_
  refine WL.nil (then_normal (WP.seq (WP.seq (WP.region ?_))))
  refine wq rfl rfl rfl (ov_move rfl rfl) ?_
  refine wq rfl rfl rfl (ov_lss rfl rfl rfl) ?_
  refine WL.nil (then_normal ?_)
  refine WP.cond rfl (fun hc5 => ?_) (fun hc5 => ?_)
  ·
   replace hm := ite_t hc5 hm
   refine WP.seq (WP.region ?_)
   refine wq rfl rfl rfl (ov_build (r := (.agg #[(.slice none 0 0), (.int .i64 0)])) rfl rfl (fun _ => by kernel_rfl)) ?_
   refine WL.step0 (Runs.free rfl) rfl (os_store (i := 0) (vs := [(.slice none 0 0), (.int .i64 0)]) (cs' := [(.slice none 0 0), (.int .i64 0)]) Tryz.sizeOf31 rfl rfl rfl rfl rfl rfl rfl rfl rfl ?_)
   refine wq rfl rfl rfl (ov_assign rfl rfl) ?_
   refine WL.nil (then_normal (WP.ret (then_ret ?_)))
   obtain rfl := Option.some.inj hm
   refine retQ_ret Tryz.results36 (Res.cell rfl (box_loads (i := 0) Tryz.isAgg31 Tryz.sizeOf31 rfl rfl) (Res.tmp rfl Res.nil)) rfl (fun w' s => ⟨s.below, ?_⟩)
   exact ⟨none, 0, rfl, SL.nil _ _ _, Nat.le_refl _⟩
  ·
   replace hm := ite_f hc5 hm
   refine WP.skip (then_normal ?_)
   obtain ⟨k1, hk1, hm⟩ := joinK_some hm
   refine WP.seq_join (fun g' S' => ∃ (b9 : Nat) (l4 : (List Item)) (ao7 : Option Addr) (cap7 : Nat) (xs1 : List Value), RL H encItem l4 xs1 ∧ Sub [(2, (pB b1 0)), (3, (pB b2 0)), (4, (pB b3 0)), (6, (.int .i64 r2)), (7, (pB b9 0)), (1000000007, (.bool false))] g' ∧ (∀ w', S' w' → St w H [.blk b9 31 [(.slice ao7 l4.length cap7), (.int .i64 p_m.cycles)], .row 103 (encItem).size l4.length (.slice ao7 l4.length cap7) xs1, .blk b3 31 [(.slice none 0 0), (.int .i64 0)], .blk b2 51 [(.int .i64 p_x.kind), (mkS p_x.name), (.int .i64 p_x.count), (.int .i64 p_x.strokes)], .blk b1 31 [(.slice ao1 p_m.items.length cap1), (.int .i64 p_m.cycles)]] H w') ∧ k1 l4 = some r) ?_ ?_
   ·
    skip
    refine WP.region_any (S₀ := St w H [.blk b3 31 [(.slice none 0 0), (.int .i64 0)], .blk b2 51 [(.int .i64 p_x.kind), (mkS p_x.name), (.int .i64 p_x.count), (.int .i64 p_x.strokes)], .blk b1 31 [(.slice ao1 p_m.items.length cap1), (.int .i64 p_m.cycles)]] H) 9 rfl (by kernel_rfl) (fun w' s => s) (fun _ s => s.drew) ?_
    refine tq (i := 1) rfl (by kernel_rfl) rfl rfl rfl (ov_fieldAddr Tryz.underlying31 rfl rfl rfl Tryz.sizeOf29 rfl rfl) ?_
    refine tq (i := 2) rfl (by kernel_rfl) rfl rfl rfl (ov_load_box (i := 2) Tryz.isAgg29 rfl rfl rfl rfl) ?_
    refine tq (i := 4) rfl (by kernel_rfl) rfl rfl rfl (ov_fieldAddr Tryz.underlying31 rfl rfl rfl Tryz.sizeOf3 rfl rfl) ?_
    refine tq (i := 5) rfl (by kernel_rfl) rfl rfl rfl (ov_load_box (i := 2) Tryz.isAgg3 rfl rfl rfl rfl) ?_
    refine AL.any (rs := [0, 7]) (by kernel_rfl) (by decide) ?_
    refine ALs.cons (i := 0) rfl (Runs.free rfl) rfl rfl ?_ ?_
    ·
     skip
     have rl1 : RL H encItem ([] : List Item) [] := RL.nil _ _
     refine os_buildSlice (cs := []) (E := 103) (sz := 7) rfl rfl (fun _ => by kernel_rfl) rfl (by decide) (fun b4 => ?_)
     refine ⟨fun w' s => (s.select [1, 2, 3] (by decide) rfl), ?_⟩
     refine AL.any (rs := [3, 7]) (by kernel_rfl) (by decide) ?_
     refine ALs.cons (i := 3) rfl (Runs.free rfl) rfl rfl ?_ ?_
     ·
      skip
      obtain ⟨l1, e3, hm⟩ := bind_some hm
      refine os_app_sl (i := 0) (En := encItem) (xs := []) Tryz.underlying29 (by kernel_rfl : (Tryz.prog.info? 103).map (fun i => (i.zero, i.size, i.bytes)) = some (some (.agg #[(mkS []), (.int .i64 0), (.int .i64 0), (.int .i64 0), (.bool false), (.int .i64 0), (.int .i64 0)]), (encItem).size, 64)) rfl (by decide) one_encItem rfl rfl rfl rfl h1 hc1 rl1 e3 (fun ao4 cap4 ys1 rl2 => ?_)
      refine ⟨fun w' s => (s.select [1, 2, 3] (by decide) rfl), ?_⟩
      refine tq (i := 6) rfl (by kernel_rfl) rfl rfl rfl (ov_build (r := (.agg #[(.slice ao4 (([] : List Item) ++ p_m.items).length cap4), (.int .i64 p_m.cycles)])) rfl rfl (fun _ => by kernel_rfl)) ?_
      refine AL.any (rs := [7]) (by kernel_rfl) (by decide) ?_
      refine ALs.cons (i := 7) rfl (Runs.free rfl) rfl rfl ?_ ?_
      ·
       skip
       refine os_alloc (cs := [(.slice none 0 0), (.int .i64 0)]) Tryz.zeroValue31 rfl rfl (fun b5 => ?_)
       refine ⟨fun w' s => (s.select [2, 3, 4] (by decide) rfl), ?_⟩
       refine AL.any (rs := [8]) (by kernel_rfl) (by decide) ?_
       refine ALs.cons0 (i := 8) rfl (Runs.free rfl) rfl ?_ ?_
       ·
        skip
        refine os_store (i := 0) (vs := [(.slice ao4 (([] : List Item) ++ p_m.items).length cap4), (.int .i64 p_m.cycles)]) (cs' := [(.slice ao4 (([] : List Item) ++ p_m.items).length cap4), (.int .i64 p_m.cycles)]) Tryz.sizeOf31 rfl rfl rfl rfl rfl rfl rfl rfl rfl ?_
        refine ⟨fun w' s => (s.select [2, 3, 4] (by decide) rfl), ?_⟩
        refine AL.done (by kernel_rfl) ?_
        refine then_normal ?_
        exact ⟨b5, (([] : List Item) ++ p_m.items), ao4, cap4, ([] ++ ys1), rl2, (Sub.cons rfl (Sub.cons rfl (Sub.cons rfl (Sub.cons rfl (Sub.cons rfl (Sub.cons rfl (Sub.nil _))))))), fun w' s => s, hm⟩
       exact ALs.nil
      exact ALs.nil
     refine ALs.cons (i := 7) rfl (Runs.free rfl) rfl rfl ?_ ?_
     ·
      skip
      refine os_alloc (cs := [(.slice none 0 0), (.int .i64 0)]) Tryz.zeroValue31 rfl rfl (fun b6 => ?_)
      refine ⟨fun w' s => (s.select [2, 3, 4] (by decide) rfl), ?_⟩
      refine AL.any (rs := [3]) (by kernel_rfl) (by decide) ?_
      refine ALs.cons (i := 3) rfl (Runs.free rfl) rfl rfl ?_ ?_
      ·
       skip
       obtain ⟨l2, e4, hm⟩ := bind_some hm
       refine os_app_sl (i := 1) (En := encItem) (xs := []) Tryz.underlying29 (by kernel_rfl : (Tryz.prog.info? 103).map (fun i => (i.zero, i.size, i.bytes)) = some (some (.agg #[(mkS []), (.int .i64 0), (.int .i64 0), (.int .i64 0), (.bool false), (.int .i64 0), (.int .i64 0)]), (encItem).size, 64)) rfl (by decide) one_encItem rfl rfl rfl rfl h1 hc1 rl1 e4 (fun ao5 cap5 ys2 rl3 => ?_)
       refine ⟨fun w' s => (s.select [2, 3, 4] (by decide) rfl), ?_⟩
       refine tq (i := 6) rfl (by kernel_rfl) rfl rfl rfl (ov_build (r := (.agg #[(.slice ao5 (([] : List Item) ++ p_m.items).length cap5), (.int .i64 p_m.cycles)])) rfl rfl (fun _ => by kernel_rfl)) ?_
       refine AL.any (rs := [8]) (by kernel_rfl) (by decide) ?_
       refine ALs.cons0 (i := 8) rfl (Runs.free rfl) rfl ?_ ?_
       ·
        skip
        refine os_store (i := 0) (vs := [(.slice ao5 (([] : List Item) ++ p_m.items).length cap5), (.int .i64 p_m.cycles)]) (cs' := [(.slice ao5 (([] : List Item) ++ p_m.items).length cap5), (.int .i64 p_m.cycles)]) Tryz.sizeOf31 rfl rfl rfl rfl rfl rfl rfl rfl rfl ?_
        refine ⟨fun w' s => (s.select [2, 3, 4] (by decide) rfl), ?_⟩
        refine AL.done (by kernel_rfl) ?_
        refine then_normal ?_
        exact ⟨b6, (([] : List Item) ++ p_m.items), ao5, cap5, ([] ++ ys2), rl3, (Sub.cons rfl (Sub.cons rfl (Sub.cons rfl (Sub.cons rfl (Sub.cons rfl (Sub.cons rfl (Sub.nil _))))))), fun w' s => s, hm⟩
       exact ALs.nil
      exact ALs.nil
     exact ALs.nil
    refine ALs.cons (i := 7) rfl (Runs.free rfl) rfl rfl ?_ ?_
    ·
     skip
     refine os_alloc (cs := [(.slice none 0 0), (.int .i64 0)]) Tryz.zeroValue31 rfl rfl (fun b7 => ?_)
     refine ⟨fun w' s => (s.select [1, 2, 3] (by decide) rfl), ?_⟩
     refine AL.any (rs := [0]) (by kernel_rfl) (by decide) ?_
     refine ALs.cons (i := 0) rfl (Runs.free rfl) rfl rfl ?_ ?_
     ·
      skip
      have rl4 : RL H encItem ([] : List Item) [] := RL.nil _ _
      refine os_buildSlice (cs := []) (E := 103) (sz := 7) rfl rfl (fun _ => by kernel_rfl) rfl (by decide) (fun b8 => ?_)
      refine ⟨fun w' s => (s.select [2, 3, 4] (by decide) rfl), ?_⟩
      refine AL.any (rs := [3]) (by kernel_rfl) (by decide) ?_
      refine ALs.cons (i := 3) rfl (Runs.free rfl) rfl rfl ?_ ?_
      ·
       skip
       obtain ⟨l3, e5, hm⟩ := bind_some hm
       refine os_app_sl (i := 0) (En := encItem) (xs := []) Tryz.underlying29 (by kernel_rfl : (Tryz.prog.info? 103).map (fun i => (i.zero, i.size, i.bytes)) = some (some (.agg #[(mkS []), (.int .i64 0), (.int .i64 0), (.int .i64 0), (.bool false), (.int .i64 0), (.int .i64 0)]), (encItem).size, 64)) rfl (by decide) one_encItem rfl rfl rfl rfl h1 hc1 rl4 e5 (fun ao6 cap6 ys3 rl5 => ?_)
       refine ⟨fun w' s => (s.select [2, 3, 4] (by decide) rfl), ?_⟩
       refine tq (i := 6) rfl (by kernel_rfl) rfl rfl rfl (ov_build (r := (.agg #[(.slice ao6 (([] : List Item) ++ p_m.items).length cap6), (.int .i64 p_m.cycles)])) rfl rfl (fun _ => by kernel_rfl)) ?_
       refine AL.any (rs := [8]) (by kernel_rfl) (by decide) ?_
       refine ALs.cons0 (i := 8) rfl (Runs.free rfl) rfl ?_ ?_
       ·
        skip
        refine os_store (i := 1) (vs := [(.slice ao6 (([] : List Item) ++ p_m.items).length cap6), (.int .i64 p_m.cycles)]) (cs' := [(.slice ao6 (([] : List Item) ++ p_m.items).length cap6), (.int .i64 p_m.cycles)]) Tryz.sizeOf31 rfl rfl rfl rfl rfl rfl rfl rfl rfl ?_
        refine ⟨fun w' s => (s.select [2, 3, 4] (by decide) rfl), ?_⟩
        refine AL.done (by kernel_rfl) ?_
        refine then_normal ?_
        exact ⟨b7, (([] : List Item) ++ p_m.items), ao6, cap6, ([] ++ ys3), rl5, (Sub.cons rfl (Sub.cons rfl (Sub.cons rfl (Sub.cons rfl (Sub.cons rfl (Sub.cons rfl (Sub.nil _))))))), fun w' s => (s.select [1, 0, 2, 3, 4] (by decide) rfl), hm⟩
       exact ALs.nil
      exact ALs.nil
     exact ALs.nil
    exact ALs.nil
   ·
    rintro g' S' ⟨b9, l4, ao7, cap7, xs1, rl6, hsub1, hS1, hm⟩
    refine WP.sub hsub1 (WP.weaken hS1 ?_)
    replace hm := (congrFun hk1 l4).symm.trans hm
    refine WP.seq (WP.region ?_)
    refine wq rfl rfl rfl (ov_fieldAddr Tryz.underlying31 rfl rfl rfl Tryz.sizeOf29 rfl rfl) ?_
    refine wq rfl rfl rfl (ov_load_box (i := 4) Tryz.isAgg29 rfl rfl rfl rfl) ?_
    refine wq rfl rfl rfl (ov_move rfl rfl) ?_
    obtain ⟨x1, e6, hm⟩ := bind_some hm
    obtain ⟨h4, h5, h6, cs1, h7, h8⟩ := h1.get e6 (by decide)
    obtain rfl : cs1 = [(mkS x1.name), (.int .i64 x1.life), (.int .i64 x1.used), (.int .i64 x1.faults), (.bool x1.faulty), (.int .i64 x1.since), (.int .i64 x1.cycles)] := h7
    refine wq rfl rfl rfl (ov_indexAddr Tryz.underlying29 Tryz.sizeOf103 rfl rfl rfl h4 h5 h6) ?_
    refine wq rfl rfl rfl (ov_load_elems (vs := [(mkS x1.name), (.int .i64 x1.life), (.int .i64 x1.used), (.int .i64 x1.faults), (.bool x1.faulty), (.int .i64 x1.since), (.int .i64 x1.cycles)]) Tryz.isAgg103 Tryz.sizeOf103 rfl rfl rfl h8 h6) ?_
    refine WL.step (Runs.free rfl) rfl rfl (os_alloc (cs := [(mkS []), (.int .i64 0), (.int .i64 0), (.int .i64 0), (.bool false), (.int .i64 0), (.int .i64 0)]) Tryz.zeroValue103 rfl rfl (fun b10 => ?_))
    refine WL.step0 (Runs.free rfl) rfl (os_store (i := 0) (vs := [(mkS x1.name), (.int .i64 x1.life), (.int .i64 x1.used), (.int .i64 x1.faults), (.bool x1.faulty), (.int .i64 x1.since), (.int .i64 x1.cycles)]) (cs' := [(mkS x1.name), (.int .i64 x1.life), (.int .i64 x1.used), (.int .i64 x1.faults), (.bool x1.faulty), (.int .i64 x1.since), (.int .i64 x1.cycles)]) Tryz.sizeOf103 rfl rfl rfl rfl rfl rfl rfl rfl rfl ?_)
    refine WL.nil (then_normal ?_)
    obtain ⟨k2, hk2, hm⟩ := joinK_some hm
    refine WP.seq_join (fun g' S' => ∃ (i1 : Int) (s1 : (List UInt8)) (i2 : Int) (i3 : Int) (i4 : Int) (c1 : Bool) (i5 : Int) (i6 : Int), Sub [(4, (pB b3 0)), (6, (.int .i64 r2)), (7, (pB b9 0)), (8, (pB b10 0)), (1000000007, (.bool false))] g' ∧ (∀ w', S' w' → St w H [.blk b10 103 [(mkS s1), (.int .i64 i2), (.int .i64 i3), (.int .i64 i4), (.bool c1), (.int .i64 i5), (.int .i64 i6)], .blk b9 31 [(.slice ao7 l4.length cap7), (.int .i64 i1)], .row 103 (encItem).size l4.length (.slice ao7 l4.length cap7) xs1, .blk b3 31 [(.slice none 0 0), (.int .i64 0)]] H w') ∧ k2 i1 s1 i2 i3 i4 c1 i5 i6 = some r) ?_ ?_
    ·
     skip
     refine WP.seq (WP.region ?_)
     refine wq rfl rfl rfl (ov_fieldAddr Tryz.underlying51 rfl rfl rfl Tryz.sizeOf3 rfl rfl) ?_
     refine wq rfl rfl rfl (ov_load_box (i := 4) Tryz.isAgg3 rfl rfl rfl rfl) ?_
     refine WL.nil (then_normal (WP.block (WP.seq (WP.region ?_))))
     refine wq rfl rfl rfl (ov_eql rfl rfl rfl) ?_
     refine wq rfl rfl rfl (ov_assign rfl rfl) ?_
     refine WL.nil (then_normal ?_)
     refine WP.cond rfl (fun hc6 => ?_) (fun hc6 => ?_)
     ·
      replace hm := ite_t hc6 hm
      refine WP.seq (WP.seq (WP.region ?_))
      refine wq rfl rfl rfl (ov_fieldAddr Tryz.underlying103 rfl rfl rfl Tryz.sizeOf4 rfl rfl) ?_
      refine wq rfl rfl rfl (ov_load_box (i := 0) Tryz.isAgg4 rfl rfl rfl rfl) ?_
      refine WL.nil (then_normal ?_)
      refine WP.cond rfl (fun hc7 => ?_) (fun hc7 => ?_)
      ·
       replace hm := ite_t hc7 hm
       refine WP.seq (WP.region ?_)
       refine wq rfl rfl rfl (ov_build (r := (.agg #[(.slice none 0 0), (.int .i64 0)])) rfl rfl (fun _ => by kernel_rfl)) ?_
       refine WL.step0 (Runs.free rfl) rfl (os_store (i := 3) (vs := [(.slice none 0 0), (.int .i64 0)]) (cs' := [(.slice none 0 0), (.int .i64 0)]) Tryz.sizeOf31 rfl rfl rfl rfl rfl rfl rfl rfl rfl ?_)
       refine wq rfl rfl rfl (ov_assign rfl rfl) ?_
       refine WL.nil (then_normal (WP.ret (then_ret (block_ret (then_ret ?_)))))
       obtain rfl := Option.some.inj hm
       refine retQ_ret Tryz.results36 (Res.cell rfl (box_loads (i := 3) Tryz.isAgg31 Tryz.sizeOf31 rfl rfl) (Res.tmp rfl Res.nil)) rfl (fun w' s => ⟨s.below, ?_⟩)
       exact ⟨none, 0, rfl, SL.nil _ _ _, Nat.le_refl _⟩
      ·
       replace hm := ite_f hc7 hm
       refine WP.skip (then_normal (WP.seq (WP.seq (WP.region ?_))))
       refine wq rfl rfl rfl (ov_fieldAddr Tryz.underlying31 rfl rfl rfl Tryz.sizeOf3 rfl rfl) ?_
       refine wq rfl rfl rfl (ov_load_box (i := 5) Tryz.isAgg3 rfl rfl rfl rfl) ?_
       refine wq rfl rfl rfl (ov_fieldAddr Tryz.underlying51 rfl rfl rfl Tryz.sizeOf3 rfl rfl) ?_
       refine wq rfl rfl rfl (ov_load_box (i := 4) Tryz.isAgg3 rfl rfl rfl rfl) ?_
       refine wq rfl rfl rfl (ov_add rfl rfl rfl) ?_
       refine wq rfl rfl rfl (ov_gtr rfl rfl rfl) ?_
       refine wq rfl rfl rfl (ov_move rfl rfl) ?_
       refine WL.cut_bool 10 59 (x := ((decide ((IntKind.wrap .i64 (p_m.cycles + p_x.count)) > 1048576)) || (decide ((IntKind.wrap .i64 (x1.used + (IntKind.wrap .i64 (p_x.count * p_x.strokes)))) > 1048576)))) ?_ ?_
       ·
        rcases Bool.eq_false_or_eq_true (decide ((IntKind.wrap .i64 (p_m.cycles + p_x.count)) > 1048576)) with hc8 | hc8
        ·
         skip
         refine WL.idle (Idle.no rfl rfl rfl hc8) rfl rfl ?_
         refine WL.idle (Idle.no rfl rfl rfl hc8) rfl rfl ?_
         refine WL.idle (Idle.no rfl rfl rfl hc8) rfl rfl ?_
         refine WL.idle (Idle.no rfl rfl rfl hc8) rfl rfl ?_
         refine WL.idle (Idle.no rfl rfl rfl hc8) rfl rfl ?_
         refine WL.idle (Idle.no rfl rfl rfl hc8) rfl rfl ?_
         refine WL.idle (Idle.no rfl rfl rfl hc8) rfl rfl ?_
         refine WL.idle (Idle.no rfl rfl rfl hc8) rfl rfl ?_
         refine WL.idle (Idle.no rfl rfl rfl hc8) rfl rfl ?_
         refine wq rfl rfl rfl (ov_pick_true rfl (guard_eq rfl hc8) rfl) ?_
         exact WL.nil ⟨Sub.cons' rfl (congrArg Value.bool (orT hc8)) (Sub.skip rfl (Sub.skip rfl (Sub.skip rfl (Sub.skip rfl (Sub.skip rfl (Sub.skip rfl (Sub.skip rfl (Sub.skip rfl (Sub.skip rfl (Sub.skip rfl (Sub.refl _))))))))))), fun _ s => s⟩
        ·
         skip
         refine WL.quiet (Runs.yes rfl rfl rfl hc8) rfl rfl (OV.quiet (ov_fieldAddr Tryz.underlying103 rfl rfl rfl Tryz.sizeOf3 rfl rfl)) ?_
         refine WL.quiet (Runs.yes rfl rfl rfl hc8) rfl rfl (OV.quiet (ov_load_box (i := 0) Tryz.isAgg3 rfl rfl rfl rfl)) ?_
         refine WL.quiet (Runs.yes rfl rfl rfl hc8) rfl rfl (OV.quiet (ov_fieldAddr Tryz.underlying51 rfl rfl rfl Tryz.sizeOf3 rfl rfl)) ?_
         refine WL.quiet (Runs.yes rfl rfl rfl hc8) rfl rfl (OV.quiet (ov_load_box (i := 4) Tryz.isAgg3 rfl rfl rfl rfl)) ?_
         refine WL.quiet (Runs.yes rfl rfl rfl hc8) rfl rfl (OV.quiet (ov_fieldAddr Tryz.underlying51 rfl rfl rfl Tryz.sizeOf3 rfl rfl)) ?_
         refine WL.quiet (Runs.yes rfl rfl rfl hc8) rfl rfl (OV.quiet (ov_load_box (i := 4) Tryz.isAgg3 rfl rfl rfl rfl)) ?_
         refine WL.quiet (Runs.yes rfl rfl rfl hc8) rfl rfl (OV.quiet (ov_mul rfl rfl rfl)) ?_
         refine WL.quiet (Runs.yes rfl rfl rfl hc8) rfl rfl (OV.quiet (ov_add rfl rfl rfl)) ?_
         refine WL.quiet (Runs.yes rfl rfl rfl hc8) rfl rfl (OV.quiet (ov_gtr rfl rfl rfl)) ?_
         refine wq rfl rfl rfl (ov_pick_false rfl (guard_eq rfl hc8) rfl) ?_
         exact WL.nil ⟨Sub.cons' rfl (congrArg Value.bool (orF hc8)) (Sub.skip rfl (Sub.skip rfl (Sub.skip rfl (Sub.skip rfl (Sub.skip rfl (Sub.skip rfl (Sub.skip rfl (Sub.skip rfl (Sub.skip rfl (Sub.skip rfl (Sub.refl _))))))))))), fun _ s => s⟩
       refine WL.nil (then_normal ?_)
       refine WP.cond rfl (fun hc9 => ?_) (fun hc9 => ?_)
       ·
        replace hm := ite_t hc9 hm
        refine WP.seq (WP.region ?_)
        refine wq rfl rfl rfl (ov_build (r := (.agg #[(.slice none 0 0), (.int .i64 0)])) rfl rfl (fun _ => by kernel_rfl)) ?_
        refine WL.step0 (Runs.free rfl) rfl (os_store (i := 3) (vs := [(.slice none 0 0), (.int .i64 0)]) (cs' := [(.slice none 0 0), (.int .i64 0)]) Tryz.sizeOf31 rfl rfl rfl rfl rfl rfl rfl rfl rfl ?_)
        refine wq rfl rfl rfl (ov_assign rfl rfl) ?_
        refine WL.nil (then_normal (WP.ret (then_ret (block_ret (then_ret ?_)))))
        obtain rfl := Option.some.inj hm
        refine retQ_ret Tryz.results36 (Res.cell rfl (box_loads (i := 3) Tryz.isAgg31 Tryz.sizeOf31 rfl rfl) (Res.tmp rfl Res.nil)) rfl (fun w' s => ⟨s.below, ?_⟩)
        exact ⟨none, 0, rfl, SL.nil _ _ _, Nat.le_refl _⟩
       ·
        replace hm := ite_f hc9 hm
        refine WP.skip (then_normal (WP.seq (WP.region ?_)))
        refine wq rfl rfl rfl (ov_fieldAddr Tryz.underlying31 rfl rfl rfl Tryz.sizeOf3 rfl rfl) ?_
        refine wq rfl rfl rfl (ov_load_box (i := 1) Tryz.isAgg3 rfl rfl rfl rfl) ?_
        refine wq rfl rfl rfl (ov_fieldAddr Tryz.underlying51 rfl rfl rfl Tryz.sizeOf3 rfl rfl) ?_
        refine wq rfl rfl rfl (ov_load_box (i := 4) Tryz.isAgg3 rfl rfl rfl rfl) ?_
        refine wq rfl rfl rfl (ov_add rfl rfl rfl) ?_
        refine wq rfl rfl rfl (ov_fieldAddr Tryz.underlying31 rfl rfl rfl Tryz.sizeOf3 rfl rfl) ?_
        refine WL.step0 (Runs.free rfl) rfl (os_store (i := 1) (vs := [(.int .i64 (IntKind.wrap .i64 (p_m.cycles + p_x.count)))]) (cs' := [(.slice ao7 l4.length cap7), (.int .i64 (IntKind.wrap .i64 (p_m.cycles + p_x.count)))]) Tryz.sizeOf3 rfl rfl rfl rfl rfl rfl rfl rfl rfl ?_)
        refine WL.nil (then_normal ?_)
        refine WP.region_any (S₀ := St w H [.blk b9 31 [(.slice ao7 l4.length cap7), (.int .i64 (IntKind.wrap .i64 (p_m.cycles + p_x.count)))], .row 103 (encItem).size l4.length (.slice ao7 l4.length cap7) xs1, .blk b3 31 [(.slice none 0 0), (.int .i64 0)], .blk b2 51 [(.int .i64 p_x.kind), (mkS p_x.name), (.int .i64 p_x.count), (.int .i64 p_x.strokes)], .blk b1 31 [(.slice ao1 p_m.items.length cap1), (.int .i64 p_m.cycles)]] H) 17 rfl (by kernel_rfl) (fun w' s => (s.select [1, 2, 3, 4, 5] (by decide) rfl)) (fun _ s => s.drew) ?_
        refine tq (i := 0) rfl (by kernel_rfl) rfl rfl rfl (ov_fieldAddr Tryz.underlying103 rfl rfl rfl Tryz.sizeOf3 rfl rfl) ?_
        refine tq (i := 2) rfl (by kernel_rfl) rfl rfl rfl (ov_fieldAddr Tryz.underlying51 rfl rfl rfl Tryz.sizeOf3 rfl rfl) ?_
        refine tq (i := 3) rfl (by kernel_rfl) rfl rfl rfl (ov_load_box (i := 3) Tryz.isAgg3 rfl rfl rfl rfl) ?_
        refine tq (i := 5) rfl (by kernel_rfl) rfl rfl rfl (ov_fieldAddr Tryz.underlying103 rfl rfl rfl Tryz.sizeOf3 rfl rfl) ?_
        refine tq (i := 7) rfl (by kernel_rfl) rfl rfl rfl (ov_fieldAddr Tryz.underlying51 rfl rfl rfl Tryz.sizeOf3 rfl rfl) ?_
        refine tq (i := 8) rfl (by kernel_rfl) rfl rfl rfl (ov_load_box (i := 3) Tryz.isAgg3 rfl rfl rfl rfl) ?_
        refine tq (i := 9) rfl (by kernel_rfl) rfl rfl rfl (ov_fieldAddr Tryz.underlying51 rfl rfl rfl Tryz.sizeOf3 rfl rfl) ?_
        refine tq (i := 10) rfl (by kernel_rfl) rfl rfl rfl (ov_load_box (i := 3) Tryz.isAgg3 rfl rfl rfl rfl) ?_
        refine tq (i := 11) rfl (by kernel_rfl) rfl rfl rfl (ov_mul rfl rfl rfl) ?_
        refine AL.any (rs := [1, 6]) (by kernel_rfl) (by decide) ?_
        refine ALs.cons (i := 1) rfl (Runs.free rfl) rfl rfl ?_ ?_
        ·
         skip
         refine OQ.step (OV.quiet (ov_load_box (i := 0) Tryz.isAgg3 rfl rfl rfl rfl)) ?_
         refine ⟨fun w' s => (s.select [1, 2, 3, 4, 5] (by decide) rfl), ?_⟩
         refine tq (i := 4) rfl (by kernel_rfl) rfl rfl rfl (ov_add rfl rfl rfl) ?_
         refine AL.any (rs := [6]) (by kernel_rfl) (by decide) ?_
         refine ALs.cons (i := 6) rfl (Runs.free rfl) rfl rfl ?_ ?_
         ·
          skip
          refine OQ.step (OV.quiet (ov_load_box (i := 0) Tryz.isAgg3 rfl rfl rfl rfl)) ?_
          refine ⟨fun w' s => (s.select [1, 2, 3, 4, 5] (by decide) rfl), ?_⟩
          refine tq (i := 12) rfl (by kernel_rfl) rfl rfl rfl (ov_add rfl rfl rfl) ?_
          refine tq (i := 13) rfl (by kernel_rfl) rfl rfl rfl (ov_fieldAddr Tryz.underlying103 rfl rfl rfl Tryz.sizeOf3 rfl rfl) ?_
          refine AL.any (rs := [14]) (by kernel_rfl) (by decide) ?_
          refine ALs.cons0 (i := 14) rfl (Runs.free rfl) rfl ?_ ?_
          ·
           skip
           refine os_store (i := 0) (vs := [(.int .i64 (IntKind.wrap .i64 (x1.cycles + p_x.count)))]) (cs' := [(mkS x1.name), (.int .i64 x1.life), (.int .i64 x1.used), (.int .i64 x1.faults), (.bool x1.faulty), (.int .i64 x1.since), (.int .i64 (IntKind.wrap .i64 (x1.cycles + p_x.count)))]) Tryz.sizeOf3 rfl rfl rfl rfl rfl rfl rfl rfl rfl ?_
           refine ⟨fun w' s => (s.select [1, 2, 3, 4, 5] (by decide) rfl), ?_⟩
           refine tq (i := 15) rfl (by kernel_rfl) rfl rfl rfl (ov_fieldAddr Tryz.underlying103 rfl rfl rfl Tryz.sizeOf3 rfl rfl) ?_
           refine AL.any (rs := [16]) (by kernel_rfl) (by decide) ?_
           refine ALs.cons0 (i := 16) rfl (Runs.free rfl) rfl ?_ ?_
           ·
            skip
            refine os_store (i := 0) (vs := [(.int .i64 (IntKind.wrap .i64 (x1.used + (IntKind.wrap .i64 (p_x.count * p_x.strokes)))))]) (cs' := [(mkS x1.name), (.int .i64 x1.life), (.int .i64 (IntKind.wrap .i64 (x1.used + (IntKind.wrap .i64 (p_x.count * p_x.strokes))))), (.int .i64 x1.faults), (.bool x1.faulty), (.int .i64 x1.since), (.int .i64 (IntKind.wrap .i64 (x1.cycles + p_x.count)))]) Tryz.sizeOf3 rfl rfl rfl rfl rfl rfl rfl rfl rfl ?_
            refine ⟨fun w' s => (s.select [1, 2, 3, 4, 5] (by decide) rfl), ?_⟩
            refine AL.done (by kernel_rfl) ?_
            refine block_normal (then_normal ?_)
            exact ⟨(IntKind.wrap .i64 (p_m.cycles + p_x.count)), x1.name, x1.life, (IntKind.wrap .i64 (x1.used + (IntKind.wrap .i64 (p_x.count * p_x.strokes)))), x1.faults, x1.faulty, x1.since, (IntKind.wrap .i64 (x1.cycles + p_x.count)), (Sub.cons rfl (Sub.cons rfl (Sub.cons rfl (Sub.cons rfl (Sub.cons rfl (Sub.nil _)))))), fun w' s => (s.select [0, 1, 2, 3] (by decide) rfl), hm⟩
           exact ALs.nil
          exact ALs.nil
         exact ALs.nil
        refine ALs.cons (i := 6) rfl (Runs.free rfl) rfl rfl ?_ ?_
        ·
         skip
         refine OQ.step (OV.quiet (ov_load_box (i := 0) Tryz.isAgg3 rfl rfl rfl rfl)) ?_
         refine ⟨fun w' s => (s.select [1, 2, 3, 4, 5] (by decide) rfl), ?_⟩
         refine tq (i := 12) rfl (by kernel_rfl) rfl rfl rfl (ov_add rfl rfl rfl) ?_
         refine AL.any (rs := [1]) (by kernel_rfl) (by decide) ?_
         refine ALs.cons (i := 1) rfl (Runs.free rfl) rfl rfl ?_ ?_
         ·
          skip
          refine OQ.step (OV.quiet (ov_load_box (i := 0) Tryz.isAgg3 rfl rfl rfl rfl)) ?_
          refine ⟨fun w' s => (s.select [1, 2, 3, 4, 5] (by decide) rfl), ?_⟩
          refine tq (i := 4) rfl (by kernel_rfl) rfl rfl rfl (ov_add rfl rfl rfl) ?_
          refine tq (i := 13) rfl (by kernel_rfl) rfl rfl rfl (ov_fieldAddr Tryz.underlying103 rfl rfl rfl Tryz.sizeOf3 rfl rfl) ?_
          refine AL.any (rs := [14]) (by kernel_rfl) (by decide) ?_
          refine ALs.cons0 (i := 14) rfl (Runs.free rfl) rfl ?_ ?_
          ·
           skip
           refine os_store (i := 0) (vs := [(.int .i64 (IntKind.wrap .i64 (x1.cycles + p_x.count)))]) (cs' := [(mkS x1.name), (.int .i64 x1.life), (.int .i64 x1.used), (.int .i64 x1.faults), (.bool x1.faulty), (.int .i64 x1.since), (.int .i64 (IntKind.wrap .i64 (x1.cycles + p_x.count)))]) Tryz.sizeOf3 rfl rfl rfl rfl rfl rfl rfl rfl rfl ?_
           refine ⟨fun w' s => (s.select [1, 2, 3, 4, 5] (by decide) rfl), ?_⟩
           refine tq (i := 15) rfl (by kernel_rfl) rfl rfl rfl (ov_fieldAddr Tryz.underlying103 rfl rfl rfl Tryz.sizeOf3 rfl rfl) ?_
           refine AL.any (rs := [16]) (by kernel_rfl) (by decide) ?_
           refine ALs.cons0 (i := 16) rfl (Runs.free rfl) rfl ?_ ?_
           ·
            skip
            refine os_store (i := 0) (vs := [(.int .i64 (IntKind.wrap .i64 (x1.used + (IntKind.wrap .i64 (p_x.count * p_x.strokes)))))]) (cs' := [(mkS x1.name), (.int .i64 x1.life), (.int .i64 (IntKind.wrap .i64 (x1.used + (IntKind.wrap .i64 (p_x.count * p_x.strokes))))), (.int .i64 x1.faults), (.bool x1.faulty), (.int .i64 x1.since), (.int .i64 (IntKind.wrap .i64 (x1.cycles + p_x.count)))]) Tryz.sizeOf3 rfl rfl rfl rfl rfl rfl rfl rfl rfl ?_
            refine ⟨fun w' s => (s.select [1, 2, 3, 4, 5] (by decide) rfl), ?_⟩
            refine AL.done (by kernel_rfl) ?_
            refine block_normal (then_normal ?_)
            exact ⟨(IntKind.wrap .i64 (p_m.cycles + p_x.count)), x1.name, x1.life, (IntKind.wrap .i64 (x1.used + (IntKind.wrap .i64 (p_x.count * p_x.strokes)))), x1.faults, x1.faulty, x1.since, (IntKind.wrap .i64 (x1.cycles + p_x.count)), (Sub.cons rfl (Sub.cons rfl (Sub.cons rfl (Sub.cons rfl (Sub.cons rfl (Sub.nil _)))))), fun w' s => (s.select [0, 1, 2, 3] (by decide) rfl), hm⟩
           exact ALs.nil
          exact ALs.nil
         exact ALs.nil
        exact ALs.nil
     ·
      replace hm := ite_f hc6 hm
      refine WP.seq (WP.region ?_)
      refine wq rfl rfl rfl (ov_eql rfl rfl rfl) ?_
      refine wq rfl rfl rfl (ov_assign rfl rfl) ?_
      refine WL.nil (then_normal ?_)
      refine WP.cond rfl (fun hc10 => ?_) (fun hc10 => ?_)
      ·
       replace hm := ite_t hc10 hm
       refine WP.seq (WP.seq (WP.region ?_))
       refine wq rfl rfl rfl (ov_fieldAddr Tryz.underlying103 rfl rfl rfl Tryz.sizeOf4 rfl rfl) ?_
       refine wq rfl rfl rfl (ov_load_box (i := 0) Tryz.isAgg4 rfl rfl rfl rfl) ?_
       refine WL.nil (then_normal ?_)
       refine WP.cond rfl (fun hc11 => ?_) (fun hc11 => ?_)
       ·
        replace hm := ite_t hc11 hm
        refine WP.seq (WP.region ?_)
        refine wq rfl rfl rfl (ov_build (r := (.agg #[(.slice none 0 0), (.int .i64 0)])) rfl rfl (fun _ => by kernel_rfl)) ?_
        refine WL.step0 (Runs.free rfl) rfl (os_store (i := 3) (vs := [(.slice none 0 0), (.int .i64 0)]) (cs' := [(.slice none 0 0), (.int .i64 0)]) Tryz.sizeOf31 rfl rfl rfl rfl rfl rfl rfl rfl rfl ?_)
        refine wq rfl rfl rfl (ov_assign rfl rfl) ?_
        refine WL.nil (then_normal (WP.ret (then_ret (block_ret (then_ret ?_)))))
        obtain rfl := Option.some.inj hm
        refine retQ_ret Tryz.results36 (Res.cell rfl (box_loads (i := 3) Tryz.isAgg31 Tryz.sizeOf31 rfl rfl) (Res.tmp rfl Res.nil)) rfl (fun w' s => ⟨s.below, ?_⟩)
        exact ⟨none, 0, rfl, SL.nil _ _ _, Nat.le_refl _⟩
       ·
        replace hm := ite_f hc11 hm
        refine WP.skip (then_normal (WP.seq (WP.seq (WP.region ?_))))
        refine wq rfl rfl rfl (ov_fieldAddr Tryz.underlying103 rfl rfl rfl Tryz.sizeOf3 rfl rfl) ?_
        refine wq rfl rfl rfl (ov_load_box (i := 0) Tryz.isAgg3 rfl rfl rfl rfl) ?_
        refine wq rfl rfl rfl (ov_eql rfl rfl rfl) ?_
        refine WL.nil (then_normal ?_)
        refine WP.cond rfl (fun hc12 => ?_) (fun hc12 => ?_)
        ·
         replace hm := ite_t hc12 hm
         refine WP.seq (WP.region ?_)
         refine wq rfl rfl rfl (ov_build (r := (.agg #[(.slice none 0 0), (.int .i64 0)])) rfl rfl (fun _ => by kernel_rfl)) ?_
         refine WL.step0 (Runs.free rfl) rfl (os_store (i := 3) (vs := [(.slice none 0 0), (.int .i64 0)]) (cs' := [(.slice none 0 0), (.int .i64 0)]) Tryz.sizeOf31 rfl rfl rfl rfl rfl rfl rfl rfl rfl ?_)
         refine wq rfl rfl rfl (ov_assign rfl rfl) ?_
         refine WL.nil (then_normal (WP.ret (then_ret (block_ret (then_ret ?_)))))
         obtain rfl := Option.some.inj hm
         refine retQ_ret Tryz.results36 (Res.cell rfl (box_loads (i := 3) Tryz.isAgg31 Tryz.sizeOf31 rfl rfl) (Res.tmp rfl Res.nil)) rfl (fun w' s => ⟨s.below, ?_⟩)
         exact ⟨none, 0, rfl, SL.nil _ _ _, Nat.le_refl _⟩
        ·
         replace hm := ite_f hc12 hm
         refine WP.skip (then_normal (WP.region ?_))
         refine wq rfl rfl rfl (ov_fieldAddr Tryz.underlying103 rfl rfl rfl Tryz.sizeOf3 rfl rfl) ?_
         refine wq rfl rfl rfl (ov_load_box (i := 0) Tryz.isAgg3 rfl rfl rfl rfl) ?_
         refine wq rfl rfl rfl (ov_add rfl rfl rfl) ?_
         refine wq rfl rfl rfl (ov_fieldAddr Tryz.underlying103 rfl rfl rfl Tryz.sizeOf4 rfl rfl) ?_
         refine WL.step0 (Runs.free rfl) rfl (os_store (i := 0) (vs := [(.bool true)]) (cs' := [(mkS x1.name), (.int .i64 x1.life), (.int .i64 x1.used), (.int .i64 x1.faults), (.bool true), (.int .i64 x1.since), (.int .i64 x1.cycles)]) Tryz.sizeOf4 rfl rfl rfl rfl rfl rfl rfl rfl rfl ?_)
         refine wq rfl rfl rfl (ov_fieldAddr Tryz.underlying103 rfl rfl rfl Tryz.sizeOf3 rfl rfl) ?_
         refine WL.step0 (Runs.free rfl) rfl (os_store (i := 0) (vs := [(.int .i64 (IntKind.wrap .i64 (x1.faults + 1)))]) (cs' := [(mkS x1.name), (.int .i64 x1.life), (.int .i64 x1.used), (.int .i64 (IntKind.wrap .i64 (x1.faults + 1))), (.bool true), (.int .i64 x1.since), (.int .i64 x1.cycles)]) Tryz.sizeOf3 rfl rfl rfl rfl rfl rfl rfl rfl rfl ?_)
         refine WL.nil (block_normal (then_normal ?_))
         exact ⟨p_m.cycles, x1.name, x1.life, x1.used, (IntKind.wrap .i64 (x1.faults + 1)), true, x1.since, x1.cycles, (Sub.cons rfl (Sub.cons rfl (Sub.cons rfl (Sub.cons rfl (Sub.cons rfl (Sub.nil _)))))), fun w' s => (s.select [0, 1, 2, 3] (by decide) rfl), hm⟩
      ·
       replace hm := ite_f hc10 hm
       refine WP.seq (WP.region ?_)
       refine wq rfl rfl rfl (ov_eql rfl rfl rfl) ?_
       refine wq rfl rfl rfl (ov_assign rfl rfl) ?_
       refine WL.nil (then_normal ?_)
       refine WP.cond rfl (fun hc13 => ?_) (fun hc13 => ?_)
       ·
        replace hm := ite_t hc13 hm
        refine WP.seq (WP.seq (WP.region ?_))
        refine wq rfl rfl rfl (ov_fieldAddr Tryz.underlying103 rfl rfl rfl Tryz.sizeOf4 rfl rfl) ?_
        refine wq rfl rfl rfl (ov_load_box (i := 0) Tryz.isAgg4 rfl rfl rfl rfl) ?_
        refine wq rfl rfl rfl (ov_not rfl rfl) ?_
        refine WL.nil (then_normal ?_)
        refine WP.cond rfl (fun hc14 => ?_) (fun hc14 => ?_)
        ·
         replace hm := ite_t hc14 hm
         refine WP.seq (WP.region ?_)
         refine wq rfl rfl rfl (ov_build (r := (.agg #[(.slice none 0 0), (.int .i64 0)])) rfl rfl (fun _ => by kernel_rfl)) ?_
         refine WL.step0 (Runs.free rfl) rfl (os_store (i := 3) (vs := [(.slice none 0 0), (.int .i64 0)]) (cs' := [(.slice none 0 0), (.int .i64 0)]) Tryz.sizeOf31 rfl rfl rfl rfl rfl rfl rfl rfl rfl ?_)
         refine wq rfl rfl rfl (ov_assign rfl rfl) ?_
         refine WL.nil (then_normal (WP.ret (then_ret (block_ret (then_ret ?_)))))
         obtain rfl := Option.some.inj hm
         refine retQ_ret Tryz.results36 (Res.cell rfl (box_loads (i := 3) Tryz.isAgg31 Tryz.sizeOf31 rfl rfl) (Res.tmp rfl Res.nil)) rfl (fun w' s => ⟨s.below, ?_⟩)
         exact ⟨none, 0, rfl, SL.nil _ _ _, Nat.le_refl _⟩
        ·
         replace hm := ite_f hc14 hm
         refine WP.skip (then_normal (WP.region ?_))
         refine wq rfl rfl rfl (ov_fieldAddr Tryz.underlying103 rfl rfl rfl Tryz.sizeOf4 rfl rfl) ?_
         refine WL.step0 (Runs.free rfl) rfl (os_store (i := 0) (vs := [(.bool false)]) (cs' := [(mkS x1.name), (.int .i64 x1.life), (.int .i64 x1.used), (.int .i64 x1.faults), (.bool false), (.int .i64 x1.since), (.int .i64 x1.cycles)]) Tryz.sizeOf4 rfl rfl rfl rfl rfl rfl rfl rfl rfl ?_)
         refine WL.nil (block_normal (then_normal ?_))
         exact ⟨p_m.cycles, x1.name, x1.life, x1.used, x1.faults, false, x1.since, x1.cycles, (Sub.cons rfl (Sub.cons rfl (Sub.cons rfl (Sub.cons rfl (Sub.cons rfl (Sub.nil _)))))), fun w' s => (s.select [0, 1, 2, 3] (by decide) rfl), hm⟩
       ·
        replace hm := ite_f hc13 hm
        refine WP.seq (WP.region ?_)
        refine wq rfl rfl rfl (ov_eql rfl rfl rfl) ?_
        refine wq rfl rfl rfl (ov_assign rfl rfl) ?_
        refine WL.nil (then_normal ?_)
        refine WP.cond rfl (fun hc15 => ?_) (fun hc15 => ?_)
        ·
         replace hm := ite_t hc15 hm
         refine WP.region ?_
         refine wq rfl rfl rfl (ov_fieldAddr Tryz.underlying51 rfl rfl rfl Tryz.sizeOf9 rfl rfl) ?_
         refine wq rfl rfl rfl (ov_load_box (i := 4) Tryz.isAgg9 rfl rfl rfl rfl) ?_
         refine wq rfl rfl rfl (ov_fieldAddr Tryz.underlying51 rfl rfl rfl Tryz.sizeOf3 rfl rfl) ?_
         refine wq rfl rfl rfl (ov_load_box (i := 4) Tryz.isAgg3 rfl rfl rfl rfl) ?_
         refine wq rfl rfl rfl (ov_fieldAddr Tryz.underlying31 rfl rfl rfl Tryz.sizeOf3 rfl rfl) ?_
         refine wq rfl rfl rfl (ov_load_box (i := 5) Tryz.isAgg3 rfl rfl rfl rfl) ?_
         refine wq rfl rfl rfl (ov_build (r := (.agg #[(mkS p_x.name), (.int .i64 p_x.count), (.int .i64 0), (.int .i64 0), (.bool false), (.int .i64 p_m.cycles), (.int .i64 0)])) rfl rfl (fun _ => by kernel_rfl)) ?_
         refine WL.step0 (Runs.free rfl) rfl (os_store (i := 0) (vs := [(mkS p_x.name), (.int .i64 p_x.count), (.int .i64 0), (.int .i64 0), (.bool false), (.int .i64 p_m.cycles), (.int .i64 0)]) (cs' := [(mkS p_x.name), (.int .i64 p_x.count), (.int .i64 0), (.int .i64 0), (.bool false), (.int .i64 p_m.cycles), (.int .i64 0)]) Tryz.sizeOf103 rfl rfl rfl rfl rfl rfl rfl rfl rfl ?_)
         refine WL.nil (block_normal (then_normal ?_))
         exact ⟨p_m.cycles, p_x.name, p_x.count, 0, 0, false, p_m.cycles, 0, (Sub.cons rfl (Sub.cons rfl (Sub.cons rfl (Sub.cons rfl (Sub.cons rfl (Sub.nil _)))))), fun w' s => (s.select [0, 1, 2, 3] (by decide) rfl), hm⟩
        ·
         replace hm := ite_f hc15 hm
         refine WP.seq (WP.region ?_)
         refine wq rfl rfl rfl (ov_eql rfl rfl rfl) ?_
         refine wq rfl rfl rfl (ov_assign rfl rfl) ?_
         refine WL.nil (then_normal ?_)
         refine WP.cond rfl (fun hc16 => ?_) (fun hc16 => ?_)
         ·
          replace hm := ite_t hc16 hm
          refine WP.seq ?_
          refine WP.region_any (S₀ := St w H [.blk b10 103 [(mkS x1.name), (.int .i64 x1.life), (.int .i64 x1.used), (.int .i64 x1.faults), (.bool x1.faulty), (.int .i64 x1.since), (.int .i64 x1.cycles)], .row 103 (encItem).size l4.length (.slice ao7 l4.length cap7) xs1, .blk b3 31 [(.slice none 0 0), (.int .i64 0)], .blk b2 51 [(.int .i64 p_x.kind), (mkS p_x.name), (.int .i64 p_x.count), (.int .i64 p_x.strokes)], .blk b1 31 [(.slice ao1 p_m.items.length cap1), (.int .i64 p_m.cycles)]] H) 14 rfl (by kernel_rfl) (fun w' s => (s.select [0, 2, 3, 4, 5] (by decide) rfl)) (fun _ s => s.drew) ?_
          refine tq (i := 1) rfl (by kernel_rfl) rfl rfl rfl (ov_fieldAddr Tryz.underlying31 rfl rfl rfl Tryz.sizeOf29 rfl rfl) ?_
          refine tq (i := 2) rfl (by kernel_rfl) rfl rfl rfl (ov_load_box (i := 4) Tryz.isAgg29 rfl rfl rfl rfl) ?_
          refine tq (i := 3) rfl (by kernel_rfl) rfl rfl rfl (ov_move rfl rfl) ?_
          obtain ⟨l5, e7, hm⟩ := bind_some hm
          obtain ⟨ao8, cap8, h9, h10, hc17⟩ := sl_h h1 hc1 e7
          refine tq (i := 4) rfl (by kernel_rfl) rfl rfl rfl (h9 Tryz.underlying29 Tryz.sizeOf103 rfl rfl rfl ) ?_
          refine tq (i := 6) rfl (by kernel_rfl) rfl rfl rfl (ov_fieldAddr Tryz.underlying31 rfl rfl rfl Tryz.sizeOf29 rfl rfl) ?_
          refine tq (i := 7) rfl (by kernel_rfl) rfl rfl rfl (ov_load_box (i := 4) Tryz.isAgg29 rfl rfl rfl rfl) ?_
          refine tq (i := 8) rfl (by kernel_rfl) rfl rfl rfl (ov_move rfl rfl) ?_
          refine tq (i := 9) rfl (by kernel_rfl) rfl rfl rfl (ov_add rfl rfl rfl) ?_
          obtain ⟨l6, e8, hm⟩ := bind_some hm
          obtain ⟨ao9, cap9, h11, h12, hc18⟩ := sl_l h1 hc1 e8
          refine tq (i := 10) rfl (by kernel_rfl) rfl rfl rfl (h11 Tryz.underlying29 Tryz.sizeOf103 rfl rfl rfl ) ?_
          refine AL.any (rs := [0]) (by kernel_rfl) (by decide) ?_
          refine ALs.cons (i := 0) rfl (Runs.free rfl) rfl rfl ?_ ?_
          ·
           skip
           have rl7 : RL H encItem ([] : List Item) [] := RL.nil _ _
           refine os_buildSlice (cs := []) (E := 103) (sz := 7) rfl rfl (fun _ => by kernel_rfl) rfl (by decide) (fun b11 => ?_)
           refine ⟨fun w' s => (s.select [1, 3, 4, 5, 6] (by decide) rfl), ?_⟩
           refine AL.any (rs := [5]) (by kernel_rfl) (by decide) ?_
           refine ALs.cons (i := 5) rfl (Runs.free rfl) rfl rfl ?_ ?_
           ·
            skip
            obtain ⟨l7, e9, hm⟩ := bind_some hm
            refine os_app_sl (i := 0) (En := encItem) (xs := []) Tryz.underlying29 (by kernel_rfl : (Tryz.prog.info? 103).map (fun i => (i.zero, i.size, i.bytes)) = some (some (.agg #[(mkS []), (.int .i64 0), (.int .i64 0), (.int .i64 0), (.bool false), (.int .i64 0), (.int .i64 0)]), (encItem).size, 64)) rfl (by decide) one_encItem rfl rfl rfl rfl h10 hc17 rl7 e9 (fun ao10 cap10 ys4 rl8 => ?_)
            refine ⟨fun w' s => (s.select [1, 3, 4, 5, 6] (by decide) rfl), ?_⟩
            refine AL.any (rs := [11]) (by kernel_rfl) (by decide) ?_
            refine ALs.cons (i := 11) rfl (Runs.free rfl) rfl rfl ?_ ?_
            ·
             skip
             obtain ⟨l8, e10, hm⟩ := bind_some hm
             refine os_app_sl (i := 0) (En := encItem) (xs := ([] ++ ys4)) Tryz.underlying29 (by kernel_rfl : (Tryz.prog.info? 103).map (fun i => (i.zero, i.size, i.bytes)) = some (some (.agg #[(mkS []), (.int .i64 0), (.int .i64 0), (.int .i64 0), (.bool false), (.int .i64 0), (.int .i64 0)]), (encItem).size, 64)) rfl (by decide) one_encItem rfl rfl rfl rfl h12 hc18 rl8 e10 (fun ao11 cap11 ys5 rl9 => ?_)
             refine ⟨fun w' s => (s.select [1, 3, 4, 5, 6] (by decide) rfl), ?_⟩
             refine tq (i := 12) rfl (by kernel_rfl) rfl rfl rfl (ov_fieldAddr Tryz.underlying31 rfl rfl rfl Tryz.sizeOf29 rfl rfl) ?_
             refine AL.any (rs := [13]) (by kernel_rfl) (by decide) ?_
             refine ALs.cons0 (i := 13) rfl (Runs.free rfl) rfl ?_ ?_
             ·
              skip
              refine os_store (i := 2) (vs := [(.slice ao11 ((([] : List Item) ++ l5) ++ l6).length cap11)]) (cs' := [(.slice ao11 ((([] : List Item) ++ l5) ++ l6).length cap11), (.int .i64 p_m.cycles)]) Tryz.sizeOf29 rfl rfl rfl rfl rfl rfl rfl rfl rfl ?_
              refine ⟨fun w' s => (s.select [1, 3, 4, 5, 6] (by decide) rfl), ?_⟩
              refine AL.done (by kernel_rfl) ?_
              refine then_normal (WP.seq (WP.region ?_))
              refine wq rfl rfl rfl (ov_load_whole (i := 2) Tryz.isAgg31 Tryz.sizeOf31 rfl rfl rfl rfl) ?_
              refine WL.step0 (Runs.free rfl) rfl (os_store (i := 4) (vs := [(.slice ao11 ((([] : List Item) ++ l5) ++ l6).length cap11), (.int .i64 p_m.cycles)]) (cs' := [(.slice ao11 ((([] : List Item) ++ l5) ++ l6).length cap11), (.int .i64 p_m.cycles)]) Tryz.sizeOf31 rfl rfl rfl rfl rfl rfl rfl rfl rfl ?_)
              refine wq rfl rfl rfl (ov_assign rfl rfl) ?_
              refine WL.nil (then_normal (WP.ret (block_ret (then_ret ?_))))
              obtain rfl := Option.some.inj hm
              refine retQ_ret Tryz.results36 (Res.cell rfl (box_loads (i := 4) Tryz.isAgg31 Tryz.sizeOf31 rfl rfl) (Res.tmp rfl Res.nil)) rfl (fun w' s => ⟨s.below, ?_⟩)
              obtain ⟨h13, hc19⟩ := s.ret_row (i := 0) rfl rl9
              exact ⟨ao11, cap11, rfl, h13, hc19⟩
             exact ALs.nil
            exact ALs.nil
           exact ALs.nil
          exact ALs.nil
         ·
          replace hm := ite_f hc16 hm
          refine WP.skip (block_normal (then_normal ?_))
          exact ⟨p_m.cycles, x1.name, x1.life, x1.used, x1.faults, x1.faulty, x1.since, x1.cycles, (Sub.cons rfl (Sub.cons rfl (Sub.cons rfl (Sub.cons rfl (Sub.cons rfl (Sub.nil _)))))), fun w' s => (s.select [0, 1, 2, 3] (by decide) rfl), hm⟩
    ·
     rintro g' S' ⟨i1, s1, i2, i3, i4, c1, i5, i6, hsub2, hS2, hm⟩
     refine WP.sub hsub2 (WP.weaken hS2 ?_)
     replace hm := (congrFun (congrFun (congrFun (congrFun (congrFun (congrFun (congrFun (congrFun hk2 i1) s1) i2) i3) i4) c1) i5) i6).symm.trans hm
     refine WP.seq (WP.region ?_)
     refine wq rfl rfl rfl (ov_fieldAddr Tryz.underlying31 rfl rfl rfl Tryz.sizeOf29 rfl rfl) ?_
     refine wq rfl rfl rfl (ov_load_box (i := 1) Tryz.isAgg29 rfl rfl rfl rfl) ?_
     refine wq rfl rfl rfl (ov_move rfl rfl) ?_
     refine wq rfl rfl rfl (ov_load_whole (i := 0) Tryz.isAgg103 Tryz.sizeOf103 rfl rfl rfl rfl) ?_
     obtain ⟨x2, e11, hm⟩ := bind_some hm
     obtain ⟨h14, h15, h16, cs2, h17, h18⟩ := RL.get rl6 e11
     obtain rfl : cs2 = [(mkS x2.name), (.int .i64 x2.life), (.int .i64 x2.used), (.int .i64 x2.faults), (.bool x2.faulty), (.int .i64 x2.since), (.int .i64 x2.cycles)] := h17
     refine wq rfl rfl rfl (ov_indexAddr_own (i := 2) Tryz.underlying29 Tryz.sizeOf103 rfl rfl rfl rfl h14 h15) ?_
     have rl10 := RL.set rl6 (y := (Item.mk s1 i2 i3 i4 c1 i5 i6)) (off := 0) (vs := [(mkS s1), (.int .i64 i2), (.int .i64 i3), (.int .i64 i4), (.bool c1), (.int .i64 i5), (.int .i64 i6)]) e11 h18 rfl (Nat.le_of_ble_eq_true rfl)
     have e12 := at?_set (y := (Item.mk s1 i2 i3 i4 c1 i5 i6)) e11
     refine WL.step0 (Runs.free rfl) rfl (os_store_own (i := 2) (vs := [(mkS s1), (.int .i64 i2), (.int .i64 i3), (.int .i64 i4), (.bool c1), (.int .i64 i5), (.int .i64 i6)]) Tryz.sizeOf103 rfl rfl rfl rfl (own_pos h14 h15) rfl rfl (elem_le (off := 0) h16 (Nat.le_of_ble_eq_true rfl)) rfl ?_)
     rw [show l4.length = (List.set l4 (Int.toNat r2) (Item.mk s1 i2 i3 i4 c1 i5 i6)).length from List.length_set.symm]
     obtain ⟨h19, h20, h21, cs3, h22, h23⟩ := rl10.get e12
     obtain rfl : cs3 = [(mkS s1), (.int .i64 i2), (.int .i64 i3), (.int .i64 i4), (.bool c1), (.int .i64 i5), (.int .i64 i6)] := h22
     refine WL.nil (then_normal (WP.seq (WP.region ?_)))
     refine wq rfl rfl rfl (ov_load_whole (i := 1) Tryz.isAgg31 Tryz.sizeOf31 rfl rfl rfl rfl) ?_
     refine WL.step0 (Runs.free rfl) rfl (os_store (i := 3) (vs := [(.slice ao7 (List.set l4 (Int.toNat r2) (Item.mk s1 i2 i3 i4 c1 i5 i6)).length cap7), (.int .i64 i1)]) (cs' := [(.slice ao7 (List.set l4 (Int.toNat r2) (Item.mk s1 i2 i3 i4 c1 i5 i6)).length cap7), (.int .i64 i1)]) Tryz.sizeOf31 rfl rfl rfl rfl rfl rfl rfl rfl rfl ?_)
     refine wq rfl rfl rfl (ov_assign rfl rfl) ?_
     refine WL.nil (then_normal (WP.ret ?_))
     obtain rfl := Option.some.inj hm
     refine retQ_ret Tryz.results36 (Res.cell rfl (box_loads (i := 3) Tryz.isAgg31 Tryz.sizeOf31 rfl rfl) (Res.tmp rfl Res.nil)) rfl (fun w' s => ⟨s.below, ?_⟩)
     obtain ⟨h24, hc20⟩ := s.ret_row (i := 2) rfl rl10
     exact ⟨ao7, cap7, rfl, h24, hc20⟩

theorem ref58_Do_con (p_m : Machine) (p_x : Entry) (ao1 : Option Addr) (cap1 : Nat) (w : World) (H : Heap) (hH : Le H (hp w)) (h1 : SL H encItem ao1 p_m.items) (hc1 : p_m.items.length ≤ cap1) (hG : Glob H) (r : (Machine × Int)) (hm : ref58_Do p_m p_x = some r) :
  Con Tryz.prog 19 [(.agg #[(.slice ao1 p_m.items.length cap1), (.int .i64 p_m.cycles)]), (.agg #[(.int .i64 p_x.kind), (mkS p_x.name), (.int .i64 p_x.count), (.int .i64 p_x.strokes)])] w H (fun v H' => ∃ (ao2 : Option Addr) (cap2 : Nat), v = (.tuple #[(.agg #[(.slice ao2 r.1.items.length cap2), (.int .i64 r.1.cycles)]), (.int .i64 r.2)]) ∧ SL H' encItem ao2 r.1.items ∧ r.1.items.length ≤ cap2) := by
 unfold ref58_Do at hm
 refine con_of hH Tryz.func19 rfl 25 Tryz.ntmps19 rfl ?_
 refine WP.seq (WP.region ?_)
 refine WL.step (Runs.free rfl) rfl rfl (os_box (cs := [(.slice ao1 p_m.items.length cap1), (.int .i64 p_m.cycles)]) rfl rfl rfl (fun b1 => ?_))
 refine WL.step (Runs.free rfl) rfl rfl (os_box (cs := [(.int .i64 p_x.kind), (mkS p_x.name), (.int .i64 p_x.count), (.int .i64 p_x.strokes)]) rfl rfl rfl (fun b2 => ?_))
 refine WL.step (Runs.free rfl) rfl rfl (os_alloc (cs := [(.slice none 0 0), (.int .i64 0)]) Tryz.zeroValue31 rfl rfl (fun b3 => ?_))
 refine wq rfl rfl rfl (ov_assign rfl rfl) ?_
 refine WL.nil (then_normal (WP.seq (WP.seq (WP.region ?_))))
 refine wq rfl rfl rfl (ov_load_whole (i := 2) Tryz.isAgg31 Tryz.sizeOf31 rfl rfl rfl rfl) ?_
 obtain ⟨r1, e1, hm⟩ := bind_some hm
 refine WL.quiet (Runs.free rfl) rfl rfl (oq_con (r := (.int .i64 r1)) Tryz.call34 rfl rfl (fun w' s => ⟨_, (ref58_Check_con p_m ao1 cap1  w' H s.hold h1 hc1 hG r1 e1)⟩)) ?_
 refine wq rfl rfl rfl (ov_assign rfl rfl) ?_
 refine WL.nil (then_normal (WP.seq (WP.region ?_)))
 refine wq rfl rfl rfl (ov_move rfl rfl) ?_
 refine wq rfl rfl rfl (ov_neq rfl rfl rfl) ?_
 refine WL.nil (then_normal ?_)
 refine WP.cond rfl (fun hc3 => ?_) (fun hc3 => ?_)
 ·
  replace hm := ite_t hc3 hm
  refine WP.seq (WP.region ?_)
  refine wq rfl rfl rfl (ov_build (r := (.agg #[(.slice none 0 0), (.int .i64 0)])) rfl rfl (fun _ => by kernel_rfl)) ?_
  refine wq rfl rfl rfl (ov_move rfl rfl) ?_
  refine WL.step0 (Runs.free rfl) rfl (os_store (i := 0) (vs := [(.slice none 0 0), (.int .i64 0)]) (cs' := [(.slice none 0 0), (.int .i64 0)]) Tryz.sizeOf31 rfl rfl rfl rfl rfl rfl rfl rfl rfl ?_)
  refine wq rfl rfl rfl (ov_assign rfl rfl) ?_
  refine WL.nil (then_normal (WP.ret (then_ret ?_)))
  obtain rfl := Option.some.inj hm
  refine retQ_ret Tryz.results19 (Res.cell rfl (box_loads (i := 0) Tryz.isAgg31 Tryz.sizeOf31 rfl rfl) (Res.tmp rfl Res.nil)) rfl (fun w' s => ⟨s.below, ?_⟩)
  exact ⟨none, 0, rfl, SL.nil _ _ _, Nat.le_refl _⟩
 ·
  replace hm := ite_f hc3 hm
  refine WP.skip (then_normal (WP.seq (WP.seq (WP.region ?_))))
  refine wq rfl rfl rfl (ov_load_whole (i := 1) Tryz.isAgg51 Tryz.sizeOf51 rfl rfl rfl rfl) ?_
  obtain ⟨r2, e2, hm⟩ := bind_some hm
  refine WL.quiet (Runs.free rfl) rfl rfl (oq_con (r := (.int .i64 r2)) Tryz.call35 rfl rfl (fun w' s => ⟨_, (ref58_Right_con p_x  w' H s.hold hG r2 e2)⟩)) ?_
  refine wq rfl rfl rfl (ov_assign rfl rfl) ?_
  refine WL.nil (then_normal (WP.seq (WP.region ?_)))
  refine wq rfl rfl rfl (ov_move rfl rfl) ?_
  refine wq rfl rfl rfl (ov_neq rfl rfl rfl) ?_
  refine WL.nil (then_normal ?_)
  refine WP.cond rfl (fun hc4 => ?_) (fun hc4 => ?_)
  ·
   replace hm := ite_t hc4 hm
   refine WP.seq (WP.region ?_)
   refine wq rfl rfl rfl (ov_build (r := (.agg #[(.slice none 0 0), (.int .i64 0)])) rfl rfl (fun _ => by kernel_rfl)) ?_
   refine wq rfl rfl rfl (ov_move rfl rfl) ?_
   refine WL.step0 (Runs.free rfl) rfl (os_store (i := 0) (vs := [(.slice none 0 0), (.int .i64 0)]) (cs' := [(.slice none 0 0), (.int .i64 0)]) Tryz.sizeOf31 rfl rfl rfl rfl rfl rfl rfl rfl rfl ?_)
   refine wq rfl rfl rfl (ov_assign rfl rfl) ?_
   refine WL.nil (then_normal (WP.ret (then_ret ?_)))
   obtain rfl := Option.some.inj hm
   refine retQ_ret Tryz.results19 (Res.cell rfl (box_loads (i := 0) Tryz.isAgg31 Tryz.sizeOf31 rfl rfl) (Res.tmp rfl Res.nil)) rfl (fun w' s => ⟨s.below, ?_⟩)
   exact ⟨none, 0, rfl, SL.nil _ _ _, Nat.le_refl _⟩
  ·
   replace hm := ite_f hc4 hm
   refine WP.skip (then_normal (WP.seq (WP.region ?_)))
   refine wq rfl rfl rfl (ov_load_whole (i := 2) Tryz.isAgg31 Tryz.sizeOf31 rfl rfl rfl rfl) ?_
   refine wq rfl rfl rfl (ov_load_whole (i := 1) Tryz.isAgg51 Tryz.sizeOf51 rfl rfl rfl rfl) ?_
   obtain ⟨r3, e3, hm⟩ := bind_some hm
   refine WL.step (Runs.free rfl) rfl rfl (os_con Tryz.call36 rfl rfl (fun w' s => (ref58_Done_con p_m p_x ao1 cap1  w' H s.hold h1 hc1 hG r3 e3)) (fun rr1 H1 hle1 hR1 => ?_))
   replace h1 := h1.mono hle1
   replace hG := hG.mono hle1
   obtain ⟨ao3, cap3, rfl, h3, hc5⟩ := hR1
   refine wq rfl rfl rfl (ov_extract rfl rfl rfl) ?_
   refine wq rfl rfl rfl (ov_extract rfl rfl rfl) ?_
   refine WL.step0 (Runs.free rfl) rfl (os_store (i := 0) (vs := [(.slice ao3 r3.1.items.length cap3), (.int .i64 r3.1.cycles)]) (cs' := [(.slice ao3 r3.1.items.length cap3), (.int .i64 r3.1.cycles)]) Tryz.sizeOf31 rfl rfl rfl rfl rfl rfl rfl rfl rfl ?_)
   refine wq rfl rfl rfl (ov_assign rfl rfl) ?_
   refine WL.nil (then_normal (WP.ret ?_))
   obtain rfl := Option.some.inj hm
   refine retQ_ret Tryz.results19 (Res.cell rfl (box_loads (i := 0) Tryz.isAgg31 Tryz.sizeOf31 rfl rfl) (Res.tmp rfl Res.nil)) rfl (fun w' s => ⟨s.below, ?_⟩)
   exact ⟨ao3, cap3, rfl, h3.mono s.le_newer, hc5⟩

theorem ref58_Run_con (p_l : (List Entry)) (ao1 : Option Addr) (cap1 : Nat) (w : World) (H : Heap) (hH : Le H (hp w)) (h1 : SL H encEntry ao1 p_l) (hc1 : p_l.length ≤ cap1) (hG : Glob H) (r : (Machine × Int × Int)) (hm : ref58_Run p_l = some r) :
  Con Tryz.prog 7 [(.slice ao1 p_l.length cap1)] w H (fun v H' => ∃ (ao2 : Option Addr) (cap2 : Nat), v = (.tuple #[(.agg #[(.slice ao2 r.1.items.length cap2), (.int .i64 r.1.cycles)]), (.int .i64 r.2.1), (.int .i64 r.2.2)]) ∧ SL H' encItem ao2 r.1.items ∧ r.1.items.length ≤ cap2) := by
 unfold ref58_Run at hm
 refine con_of hH Tryz.func7 rfl 35 Tryz.ntmps7 rfl ?_
 refine WP.seq (WP.region ?_)
 refine WL.step (Runs.free rfl) rfl rfl (os_alloc (cs := [(.slice none 0 0), (.int .i64 0)]) Tryz.zeroValue31 rfl rfl (fun b1 => ?_))
 refine wq rfl rfl rfl (ov_assign rfl rfl) ?_
 refine wq rfl rfl rfl (ov_assign rfl rfl) ?_
 refine WL.nil (then_normal (WP.seq (WP.seq (WP.region ?_))))
 refine wq rfl rfl rfl (ov_move rfl rfl) ?_
 refine wq rfl rfl rfl (ov_len_slice Tryz.underlying25 rfl rfl) ?_
 refine wq rfl rfl rfl (ov_gtr rfl rfl rfl) ?_
 refine WL.nil (then_normal ?_)
 refine WP.cond rfl (fun hc3 => ?_) (fun hc3 => ?_)
 ·
  replace hm := ite_t hc3 hm
  refine WP.seq (WP.region ?_)
  refine wq rfl rfl rfl (ov_build (r := (.agg #[(.slice none 0 0), (.int .i64 0)])) rfl rfl (fun _ => by kernel_rfl)) ?_
  refine WL.step0 (Runs.free rfl) rfl (os_store (i := 0) (vs := [(.slice none 0 0), (.int .i64 0)]) (cs' := [(.slice none 0 0), (.int .i64 0)]) Tryz.sizeOf31 rfl rfl rfl rfl rfl rfl rfl rfl rfl ?_)
  refine wq rfl rfl rfl (ov_assign rfl rfl) ?_
  refine wq rfl rfl rfl (ov_assign rfl rfl) ?_
  refine WL.nil (then_normal (WP.ret (then_ret ?_)))
  obtain rfl := Option.some.inj hm
  refine retQ_ret Tryz.results7 (Res.cell rfl (box_loads (i := 0) Tryz.isAgg31 Tryz.sizeOf31 rfl rfl) (Res.tmp rfl (Res.tmp rfl Res.nil))) rfl (fun w' s => ⟨s.below, ?_⟩)
  exact ⟨none, 0, rfl, SL.nil _ _ _, Nat.le_refl _⟩
 ·
  replace hm := ite_f hc3 hm
  refine WP.skip (then_normal (WP.seq (WP.region ?_)))
  refine WL.step (Runs.free rfl) rfl rfl (os_alloc (cs := [(.slice none 0 0), (.int .i64 0)]) Tryz.zeroValue31 rfl rfl (fun b2 => ?_))
  refine WL.nil (then_normal ?_)
  obtain ⟨k1, hk1, hm⟩ := joinK_some hm
  refine WP.seq_join (fun g' S' => ∃ (H5 : Heap) (l3 : (List Item)) (ao7 : Option Addr) (cap7 : Nat) (i5 : Int), Le H H5 ∧ SL H5 encItem ao7 l3 ∧ l3.length ≤ cap7 ∧ Sub [(2, (pB b1 0)), (5, (pB b2 0)), (1000000007, (.bool false))] g' ∧ (∀ w', S' w' → St w H [.blk b2 31 [(.slice ao7 l3.length cap7), (.int .i64 i5)], .blk b1 31 [(.slice none 0 0), (.int .i64 0)]] H5 w') ∧ k1 l3 i5 = some r) ?_ ?_
  ·
   skip
   refine WP.seq (WP.region ?_)
   refine wq rfl rfl rfl (ov_assign rfl rfl) ?_
   refine WL.nil (then_normal (WP.block ?_))
   refine WP.loop (fun m1 g' S' => ∃ (H1 : Heap) (i1 : Int) (l1 : (List Item)) (ao3 : Option Addr) (cap3 : Nat) (i2 : Int), Le H H1 ∧ SL H1 encItem ao3 l1 ∧ l1.length ≤ cap3 ∧ Sub [(0, (.slice ao1 p_l.length cap1)), (2, (pB b1 0)), (5, (pB b2 0)), (6, (.int .i64 i1)), (1000000007, (.bool false))] g' ∧ (∀ w', S' w' → St w H [.blk b2 31 [(.slice ao3 l1.length cap3), (.int .i64 i2)], .blk b1 31 [(.slice none 0 0), (.int .i64 0)]] H1 w') ∧ ref58_Run_loop1 p_l k1 m1 i1 l1 i2 = some r) ((Int.toNat ((p_l.length : Int) - 0) + 1)) ⟨H, 0, [], none, 0, 0, (Le.refl _), (SL.nil _ _ _), (Nat.le_refl _), (Sub.cons rfl (Sub.cons rfl (Sub.cons rfl (Sub.cons rfl (Sub.cons rfl (Sub.nil _)))))), fun w' s => s, hm⟩ ?_ ?_
   ·
    rintro g' S' ⟨_, _, _, _, _, _, _, _, _, _, _, hm⟩
    exact none_some hm
   ·
    rintro m1 g' S' ⟨H1, i1, l1, ao3, cap3, i2, hle1, h3, hc4, hsub1, hS1, hm⟩
    refine WP.sub hsub1 (WP.weaken hS1 ?_)
    rw [ref58_Run_loop1] at hm
    replace h1 := h1.mono hle1
    replace hG := hG.mono hle1
    refine WP.seq (WP.seq (WP.region ?_))
    refine wq rfl rfl rfl (ov_move rfl rfl) ?_
    refine wq rfl rfl rfl (ov_move rfl rfl) ?_
    refine wq rfl rfl rfl (ov_len_slice Tryz.underlying25 rfl rfl) ?_
    refine wq rfl rfl rfl (ov_lss rfl rfl rfl) ?_
    refine WL.nil (then_normal ?_)
    refine WP.cond rfl (fun hc5 => ?_) (fun hc5 => ?_)
    ·
     replace hm := ite_t hc5 hm
     refine WP.skip (then_normal (WP.seq (WP.block ?_)))
     obtain ⟨k2, hk2, hm⟩ := joinK_some hm
     refine WP.seq_join (fun g' S' => ∃ (H4 : Heap) (b5 : Nat) (i3 : Int) (l2 : (List Item)) (ao6 : Option Addr) (cap6 : Nat) (i4 : Int), Le H1 H4 ∧ SL H4 encItem ao6 l2 ∧ l2.length ≤ cap6 ∧ Sub [(0, (.slice ao1 p_l.length cap1)), (2, (pB b1 0)), (5, (pB b2 0)), (6, (.int .i64 i1)), (7, (pB b5 0)), (8, (.int .i64 i3)), (1000000007, (.bool false))] g' ∧ (∀ w', S' w' → St w H [.blk b5 31 [(.slice ao6 l2.length cap6), (.int .i64 i4)], .blk b2 31 [(.slice ao3 l1.length cap3), (.int .i64 i2)], .blk b1 31 [(.slice none 0 0), (.int .i64 0)]] H4 w') ∧ k2 i3 l2 i4 = some r) ?_ ?_
     ·
      skip
      refine WP.region_any (S₀ := St w H [.blk b2 31 [(.slice ao3 l1.length cap3), (.int .i64 i2)], .blk b1 31 [(.slice none 0 0), (.int .i64 0)]] H1) 12 rfl (by kernel_rfl) (fun w' s => s) (fun _ s => s.drew) ?_
      refine tq (i := 0) rfl (by kernel_rfl) rfl rfl rfl (ov_load_whole (i := 0) Tryz.isAgg31 Tryz.sizeOf31 rfl rfl rfl rfl) ?_
      refine tq (i := 1) rfl (by kernel_rfl) rfl rfl rfl (ov_move rfl rfl) ?_
      refine tq (i := 2) rfl (by kernel_rfl) rfl rfl rfl (ov_move rfl rfl) ?_
      obtain ⟨x1, e1, hm⟩ := bind_some hm
      obtain ⟨h4, h5, h6, cs1, h7, h8⟩ := h1.get e1 (by decide)
      obtain rfl : cs1 = [(.int .i64 x1.kind), (mkS x1.name), (.int .i64 x1.count), (.int .i64 x1.strokes)] := h7
      refine tq (i := 3) rfl (by kernel_rfl) rfl rfl rfl (ov_indexAddr Tryz.underlying25 Tryz.sizeOf51 rfl rfl rfl h4 h5 h6) ?_
      refine tq (i := 4) rfl (by kernel_rfl) rfl rfl rfl (ov_load_elems (vs := [(.int .i64 x1.kind), (mkS x1.name), (.int .i64 x1.count), (.int .i64 x1.strokes)]) Tryz.isAgg51 Tryz.sizeOf51 rfl rfl rfl h8 h6) ?_
      refine AL.any (rs := [5, 9]) (by kernel_rfl) (by decide) ?_
      refine ALs.cons (i := 5) rfl (Runs.free rfl) rfl rfl ?_ ?_
      ·
       skip
       obtain ⟨r1, e2, hm⟩ := bind_some hm
       refine os_con Tryz.call19 rfl rfl (fun w' s => (ref58_Do_con (Machine.mk l1 i2) x1 ao3 cap3  w' H1 s.hold h3 hc4 hG r1 e2)) (fun rr1 H2 hle2 hR1 => ?_)
       replace h1 := h1.mono hle2
       replace h3 := h3.mono hle2
       replace h8 := h8.mono hle2
       replace hG := hG.mono hle2
       obtain ⟨ao4, cap4, rfl, h9, hc6⟩ := hR1
       refine ⟨fun w' s => (s.heap hle2), ?_⟩
       refine tq (i := 6) rfl (by kernel_rfl) rfl rfl rfl (ov_move rfl rfl) ?_
       refine tq (i := 7) rfl (by kernel_rfl) rfl rfl rfl (ov_extract rfl rfl rfl) ?_
       refine tq (i := 8) rfl (by kernel_rfl) rfl rfl rfl (ov_extract rfl rfl rfl) ?_
       refine AL.any (rs := [9]) (by kernel_rfl) (by decide) ?_
       refine ALs.cons (i := 9) rfl (Runs.free rfl) rfl rfl ?_ ?_
       ·
        skip
        refine os_alloc (cs := [(.slice none 0 0), (.int .i64 0)]) Tryz.zeroValue31 rfl rfl (fun b3 => ?_)
        refine ⟨fun w' s => ((s.select [1, 2] (by decide) rfl).heap hle2), ?_⟩
        refine AL.any (rs := [10]) (by kernel_rfl) (by decide) ?_
        refine ALs.cons0 (i := 10) rfl (Runs.free rfl) rfl ?_ ?_
        ·
         skip
         refine os_store (i := 0) (vs := [(.slice ao4 r1.1.items.length cap4), (.int .i64 r1.1.cycles)]) (cs' := [(.slice ao4 r1.1.items.length cap4), (.int .i64 r1.1.cycles)]) Tryz.sizeOf31 rfl rfl rfl rfl rfl rfl rfl rfl rfl ?_
         refine ⟨fun w' s => ((s.select [1, 2] (by decide) rfl).heap hle2), ?_⟩
         refine tq (i := 11) rfl (by kernel_rfl) rfl rfl rfl (ov_assign rfl rfl) ?_
         refine AL.done (by kernel_rfl) ?_
         refine then_normal ?_
         exact ⟨H2, b3, r1.2, r1.1.items, ao4, cap4, r1.1.cycles, hle2, h9, hc6, (Sub.cons rfl (Sub.cons rfl (Sub.cons rfl (Sub.cons rfl (Sub.cons rfl (Sub.cons rfl (Sub.cons rfl (Sub.nil _)))))))), fun w' s => s, hm⟩
        exact ALs.nil
       exact ALs.nil
      refine ALs.cons (i := 9) rfl (Runs.free rfl) rfl rfl ?_ ?_
      ·
       skip
       refine os_alloc (cs := [(.slice none 0 0), (.int .i64 0)]) Tryz.zeroValue31 rfl rfl (fun b4 => ?_)
       refine ⟨fun w' s => (s.select [1, 2] (by decide) rfl), ?_⟩
       refine AL.any (rs := [5]) (by kernel_rfl) (by decide) ?_
       refine ALs.cons (i := 5) rfl (Runs.free rfl) rfl rfl ?_ ?_
       ·
        skip
        obtain ⟨r2, e3, hm⟩ := bind_some hm
        refine os_con Tryz.call19 rfl rfl (fun w' s => (ref58_Do_con (Machine.mk l1 i2) x1 ao3 cap3  w' H1 s.hold h3 hc4 hG r2 e3)) (fun rr2 H3 hle3 hR2 => ?_)
        replace h1 := h1.mono hle3
        replace h3 := h3.mono hle3
        replace h8 := h8.mono hle3
        replace hG := hG.mono hle3
        obtain ⟨ao5, cap5, rfl, h10, hc7⟩ := hR2
        refine ⟨fun w' s => ((s.select [1, 2] (by decide) rfl).heap hle3), ?_⟩
        refine tq (i := 6) rfl (by kernel_rfl) rfl rfl rfl (ov_move rfl rfl) ?_
        refine tq (i := 7) rfl (by kernel_rfl) rfl rfl rfl (ov_extract rfl rfl rfl) ?_
        refine tq (i := 8) rfl (by kernel_rfl) rfl rfl rfl (ov_extract rfl rfl rfl) ?_
        refine AL.any (rs := [10]) (by kernel_rfl) (by decide) ?_
        refine ALs.cons0 (i := 10) rfl (Runs.free rfl) rfl ?_ ?_
        ·
         skip
         refine os_store (i := 0) (vs := [(.slice ao5 r2.1.items.length cap5), (.int .i64 r2.1.cycles)]) (cs' := [(.slice ao5 r2.1.items.length cap5), (.int .i64 r2.1.cycles)]) Tryz.sizeOf31 rfl rfl rfl rfl rfl rfl rfl rfl rfl ?_
         refine ⟨fun w' s => ((s.select [1, 2] (by decide) rfl).heap hle3), ?_⟩
         refine tq (i := 11) rfl (by kernel_rfl) rfl rfl rfl (ov_assign rfl rfl) ?_
         refine AL.done (by kernel_rfl) ?_
         refine then_normal ?_
         exact ⟨H3, b4, r2.2, r2.1.items, ao5, cap5, r2.1.cycles, hle3, h10, hc7, (Sub.cons rfl (Sub.cons rfl (Sub.cons rfl (Sub.cons rfl (Sub.cons rfl (Sub.cons rfl (Sub.cons rfl (Sub.nil _)))))))), fun w' s => s, hm⟩
        exact ALs.nil
       exact ALs.nil
      exact ALs.nil
     ·
      rintro g' S' ⟨H4, b5, i3, l2, ao6, cap6, i4, hle4, h11, hc8, hsub2, hS2, hm⟩
      refine WP.sub hsub2 (WP.weaken hS2 ?_)
      replace hm := (congrFun (congrFun (congrFun hk2 i3) l2) i4).symm.trans hm
      replace h1 := h1.mono hle4
      replace h3 := h3.mono hle4
      replace hG := hG.mono hle4
      refine WP.seq (WP.seq (WP.region ?_))
      refine wq rfl rfl rfl (ov_move rfl rfl) ?_
      refine wq rfl rfl rfl (ov_neq rfl rfl rfl) ?_
      refine WL.nil (then_normal ?_)
      refine WP.cond rfl (fun hc9 => ?_) (fun hc9 => ?_)
      ·
       replace hm := ite_t hc9 hm
       refine WP.seq (WP.region ?_)
       refine wq rfl rfl rfl (ov_build (r := (.agg #[(.slice none 0 0), (.int .i64 0)])) rfl rfl (fun _ => by kernel_rfl)) ?_
       refine wq rfl rfl rfl (ov_move rfl rfl) ?_
       refine wq rfl rfl rfl (ov_move rfl rfl) ?_
       refine WL.step0 (Runs.free rfl) rfl (os_store (i := 2) (vs := [(.slice none 0 0), (.int .i64 0)]) (cs' := [(.slice none 0 0), (.int .i64 0)]) Tryz.sizeOf31 rfl rfl rfl rfl rfl rfl rfl rfl rfl ?_)
       refine wq rfl rfl rfl (ov_assign rfl rfl) ?_
       refine wq rfl rfl rfl (ov_assign rfl rfl) ?_
       refine WL.nil (then_normal (WP.ret (then_ret (block_ret (then_ret (then_ret (block_ret (then_ret ?_))))))))
       obtain rfl := Option.some.inj hm
       refine retQ_ret Tryz.results7 (Res.cell rfl (box_loads (i := 2) Tryz.isAgg31 Tryz.sizeOf31 rfl rfl) (Res.tmp rfl (Res.tmp rfl Res.nil))) rfl (fun w' s => ⟨s.below, ?_⟩)
       exact ⟨none, 0, rfl, SL.nil _ _ _, Nat.le_refl _⟩
      ·
       replace hm := ite_f hc9 hm
       refine WP.skip (then_normal (WP.region ?_))
       refine wq rfl rfl rfl (ov_load_whole (i := 0) Tryz.isAgg31 Tryz.sizeOf31 rfl rfl rfl rfl) ?_
       refine WL.step0 (Runs.free rfl) rfl (os_store (i := 1) (vs := [(.slice ao6 l2.length cap6), (.int .i64 i4)]) (cs' := [(.slice ao6 l2.length cap6), (.int .i64 i4)]) Tryz.sizeOf31 rfl rfl rfl rfl rfl rfl rfl rfl rfl ?_)
       refine WL.nil (block_normal (then_normal (WP.region ?_)))
       refine wq rfl rfl rfl (ov_move rfl rfl) ?_
       refine wq rfl rfl rfl (ov_add rfl rfl rfl) ?_
       refine wq rfl rfl rfl (ov_assign rfl rfl) ?_
       refine WL.nil (then_normal ?_)
       exact ⟨H4, (IntKind.wrap .i64 (i1 + 1)), l2, ao6, cap6, i4, (hle1.trans hle4), h11, hc8, (Sub.cons rfl (Sub.cons rfl (Sub.cons rfl (Sub.cons rfl (Sub.cons rfl (Sub.nil _)))))), fun w' s => (s.select [1, 2] (by decide) rfl), hm⟩
    ·
     replace hm := ite_f hc5 hm
     refine WP.exit (then_exit (then_exit (block_here (then_normal ?_))))
     exact ⟨H1, l1, ao3, cap3, i2, hle1, h3, hc4, (Sub.cons rfl (Sub.cons rfl (Sub.cons rfl (Sub.nil _)))), fun w' s => s, hm⟩
  ·
   rintro g' S' ⟨H5, l3, ao7, cap7, i5, hle5, h12, hc10, hsub3, hS3, hm⟩
   refine WP.sub hsub3 (WP.weaken hS3 ?_)
   replace hm := (congrFun (congrFun hk1 l3) i5).symm.trans hm
   replace hG := hG.mono hle5
   refine WP.seq (WP.region ?_)
   refine wq rfl rfl rfl (ov_load_whole (i := 0) Tryz.isAgg31 Tryz.sizeOf31 rfl rfl rfl rfl) ?_
   refine WL.step0 (Runs.free rfl) rfl (os_store (i := 1) (vs := [(.slice ao7 l3.length cap7), (.int .i64 i5)]) (cs' := [(.slice ao7 l3.length cap7), (.int .i64 i5)]) Tryz.sizeOf31 rfl rfl rfl rfl rfl rfl rfl rfl rfl ?_)
   refine wq rfl rfl rfl (ov_assign rfl rfl) ?_
   refine wq rfl rfl rfl (ov_assign rfl rfl) ?_
   refine WL.nil (then_normal (WP.ret ?_))
   obtain rfl := Option.some.inj hm
   refine retQ_ret Tryz.results7 (Res.cell rfl (box_loads (i := 1) Tryz.isAgg31 Tryz.sizeOf31 rfl rfl) (Res.tmp rfl (Res.tmp rfl Res.nil))) rfl (fun w' s => ⟨s.below, ?_⟩)
   exact ⟨ao7, cap7, rfl, h12.mono s.le_newer, hc10⟩

end Go.Proofs.YtpocodofhkaddaaGreatDoor.W
