/- The walks. Written by our own program gen.py; Lean checks it. -/
import Derived.Test.YtpigfknmlmeihaaDoorPlain
import Derived.Test.YtpigfknmlmeihaaDoorEqs
import Derived.Test.YtpigfknmlmeihaaDoorProg
import Derived.Test.YtpigfknmlmeihaaDoorExt
import Derived.Test.YtpigfknmlmeihaaDoorClone
import Derived.Test.YtpigfknmlmeihaaDoorInsert
import Derived.Test.YtpigfknmlmeihaaDoorBuild
set_option linter.unusedVariables false
set_option maxRecDepth 100000
set_option maxHeartbeats 4000000
namespace Go.Proofs.YtpigfknmlmeihaaDoor.W
open Go Go.RowKit
theorem law58_own_con (p_m : Machine) (ao1 : Option Addr) (cap1 : Nat) (w : World) (H : Heap) (hH : Le H (hp w)) (h1 : SL H encItem ao1 p_m.items) (hc1 : p_m.items.length ≤ cap1) (hG : Glob H) (r : Machine) (hm : law58_own p_m = some r) :
    Con Tryd.prog 12 [(.agg #[(.slice ao1 p_m.items.length cap1), (.int .i64 p_m.cycles)])] w H (fun v H' => ∃ (ao2 : Option Addr) (cap2 : Nat), v = (.agg #[(.slice ao2 r.items.length cap2), (.int .i64 r.cycles)]) ∧ SL H' encItem ao2 r.items ∧ r.items.length ≤ cap2) := by
  unfold law58_own at hm
  refine con_of hH Tryd.func12 rfl 24 Tryd.ntmps12 rfl ?_
  refine WP.seq ?_
  refine WP.region ?_
  refine WL.step (Runs.free rfl) rfl rfl (os_box (cs := [(.slice ao1 p_m.items.length cap1), (.int .i64 p_m.cycles)]) rfl rfl rfl (fun b1 => ?_))
  refine WL.step (Runs.free rfl) rfl rfl (os_alloc (cs := [(.slice none 0 0), (.int .i64 0)]) Tryd.zeroValue34 rfl rfl (fun b2 => ?_))
  refine WL.nil ?_
  refine then_normal ?_
  refine WP.seq ?_
  refine WP.region ?_
  refine WL.quiet (Runs.free rfl) rfl rfl (OV.quiet (ov_fieldAddr Tryd.underlying24 rfl rfl rfl Tryd.sizeOf3 rfl rfl)) ?_
  refine WL.quiet (Runs.free rfl) rfl rfl (OV.quiet (ov_load_box (i := 1) Tryd.isAgg3 rfl rfl rfl rfl)) ?_
  refine WL.quiet (Runs.free rfl) rfl rfl (OV.quiet (ov_build (r := (.agg #[(.slice none 0 0), (.int .i64 p_m.cycles)])) rfl rfl (fun _ => by kernel_rfl))) ?_
  refine WL.step (Runs.free rfl) rfl rfl (os_alloc (cs := [(.slice none 0 0), (.int .i64 0)]) Tryd.zeroValue34 rfl rfl (fun b3 => ?_))
  refine WL.step0 (Runs.free rfl) rfl (os_store (i := 0) (vs := [(.slice none 0 0), (.int .i64 p_m.cycles)]) (cs' := [(.slice none 0 0), (.int .i64 p_m.cycles)]) Tryd.sizeOf34 rfl rfl rfl rfl rfl rfl rfl rfl rfl ?_)
  refine WL.nil ?_
  refine then_normal ?_
  obtain ⟨k1, hk1, hm⟩ := joinK_some hm
  refine WP.seq_join (fun g' S' => ∃ (l3 : (List Item)) (ao5 : Option Addr) (cap5 : Nat) (xs2 : List Value), RL H encItem l3 xs2 ∧ Sub [(2, (pB b2 0)), (3, (pB b3 0))] g' ∧ (∀ w', S' w' → St w H [.row 80 (encItem).size l3.length (.slice ao5 l3.length cap5) xs2, .blk b3 34 [(.slice ao5 l3.length cap5), (.int .i64 p_m.cycles)], .blk b2 34 [(.slice none 0 0), (.int .i64 0)]] H w') ∧ k1 l3 = some r) ?_ ?_
  · skip
    refine WP.seq ?_
    refine WP.region ?_
    refine WL.quiet (Runs.free rfl) rfl rfl (OV.quiet (ov_fieldAddr Tryd.underlying24 rfl rfl rfl Tryd.sizeOf22 rfl rfl)) ?_
    refine WL.quiet (Runs.free rfl) rfl rfl (OV.quiet (ov_load_box (i := 2) Tryd.isAgg22 rfl rfl rfl rfl)) ?_
    refine WL.quiet (Runs.free rfl) rfl rfl (OV.quiet (ov_len_slice Tryd.underlying22 rfl rfl)) ?_
    refine WL.quiet (Runs.free rfl) rfl rfl (OV.quiet (ov_move rfl rfl)) ?_
    refine WL.nil ?_
    refine then_normal ?_
    refine WP.block ?_
    have rl1 := RL.nil (α := Item) H encItem
    refine WP.weaken (fun _ s => s.nilrow 80 (encItem).size) ?_
    refine WP.loop (fun m1 g' S' => ∃ (i1 : Int) (l1 : (List Item)) (ao3 : Option Addr) (cap3 : Nat) (xs1 : List Value), RL H encItem l1 xs1 ∧ Sub [(2, (pB b2 0)), (3, (pB b3 0)), (10, (.slice ao1 p_m.items.length cap1)), (11, (.int .i64 (p_m.items.length : Int))), (12, (.int .i64 i1))] g' ∧ (∀ w', S' w' → St w H [.row 80 (encItem).size l1.length (.slice ao3 l1.length cap3) xs1, .blk b3 34 [(.slice ao3 l1.length cap3), (.int .i64 p_m.cycles)], .blk b2 34 [(.slice none 0 0), (.int .i64 0)]] H w') ∧ law58_own_loop1 p_m k1 m1 i1 l1 = some r) ((Int.toNat ((p_m.items.length : Int) - 0) + 1)) ⟨0, ([] : List Item), none, 0, [], rl1, (Sub.cons rfl (Sub.cons rfl (Sub.cons rfl (Sub.cons rfl (Sub.cons rfl (Sub.nil _)))))), fun w' s => (s.select [0, 1, 2] (by decide) rfl), hm⟩ ?_ ?_
    · rintro g' S' ⟨_, _, _, _, _, _, _, _, hm⟩
      exact none_some hm
    · rintro m1 g' S' ⟨i1, l1, ao3, cap3, xs1, rl2, hsub1, hS1, hm⟩
      refine WP.sub hsub1 (WP.weaken hS1 ?_)
      rw [law58_own_loop1] at hm
      refine WP.seq ?_
      refine WP.region ?_
      refine WL.quiet (Runs.free rfl) rfl rfl (OV.quiet (ov_lss rfl rfl rfl)) ?_
      refine WL.nil ?_
      refine then_normal ?_
      refine WP.seq ?_
      refine WP.cond rfl (fun hc3 => ?_) (fun hc3 => ?_)
      · replace hm := ite_t hc3 hm
        refine WP.skip ?_
        refine then_normal ?_
        refine WP.seq ?_
        refine WP.block ?_
        refine WP.seq ?_
        refine WP.region ?_
        obtain ⟨x1, e1, hm⟩ := bind_some hm
        obtain ⟨h3, h4, h5, cs1, h6, h7⟩ := h1.get e1 (by decide)
        obtain rfl : cs1 = [(mkS x1.name), (.int .i64 x1.life), (.int .i64 x1.used), (.int .i64 x1.faults), (.bool x1.faulty), (.int .i64 x1.since), (.int .i64 x1.cycles)] := h6
        refine WL.quiet (Runs.free rfl) rfl rfl (OV.quiet (ov_indexAddr Tryd.underlying22 Tryd.sizeOf79 rfl rfl rfl h3 h4 h5)) ?_
        refine WL.quiet (Runs.free rfl) rfl rfl (OV.quiet (ov_load_elems (vs := [(mkS x1.name), (.int .i64 x1.life), (.int .i64 x1.used), (.int .i64 x1.faults), (.bool x1.faulty), (.int .i64 x1.since), (.int .i64 x1.cycles)]) Tryd.isAgg79 Tryd.sizeOf79 rfl rfl rfl h7 h5)) ?_
        refine WL.step (Runs.free rfl) rfl rfl (os_alloc (cs := [(mkS []), (.int .i64 0), (.int .i64 0), (.int .i64 0), (.bool false), (.int .i64 0), (.int .i64 0)]) Tryd.zeroValue79 rfl rfl (fun b4 => ?_))
        refine WL.step0 (Runs.free rfl) rfl (os_store (i := 0) (vs := [(mkS x1.name), (.int .i64 x1.life), (.int .i64 x1.used), (.int .i64 x1.faults), (.bool x1.faulty), (.int .i64 x1.since), (.int .i64 x1.cycles)]) (cs' := [(mkS x1.name), (.int .i64 x1.life), (.int .i64 x1.used), (.int .i64 x1.faults), (.bool x1.faulty), (.int .i64 x1.since), (.int .i64 x1.cycles)]) Tryd.sizeOf79 rfl rfl rfl rfl rfl rfl rfl rfl rfl ?_)
        refine WL.nil ?_
        refine then_normal ?_
        refine WP.region ?_
        refine WL.quiet (Runs.free rfl) rfl rfl (OV.quiet (ov_fieldAddr Tryd.underlying34 rfl rfl rfl Tryd.sizeOf32 rfl rfl)) ?_
        refine WL.quiet (Runs.free rfl) rfl rfl (OV.quiet (ov_load_box (i := 2) Tryd.isAgg32 rfl rfl rfl rfl)) ?_
        refine WL.quiet (Runs.free rfl) rfl rfl (OV.quiet (ov_load_whole (i := 0) Tryd.isAgg79 Tryd.sizeOf79 rfl rfl rfl rfl)) ?_
        have rl3 : RL H encItem ([x1] : List Item) [(mkS x1.name), (.int .i64 x1.life), (.int .i64 x1.used), (.int .i64 x1.faults), (.bool x1.faulty), (.int .i64 x1.since), (.int .i64 x1.cycles)] := RL.cons (cs := [(mkS x1.name), (.int .i64 x1.life), (.int .i64 x1.used), (.int .i64 x1.faults), (.bool x1.faulty), (.int .i64 x1.since), (.int .i64 x1.cycles)]) (xs := []) rfl (RL.nil _ _)
        refine WL.step (Runs.free rfl) rfl rfl (os_buildSlice (cs := [(mkS x1.name), (.int .i64 x1.life), (.int .i64 x1.used), (.int .i64 x1.faults), (.bool x1.faulty), (.int .i64 x1.since), (.int .i64 x1.cycles)]) (E := 80) (sz := 7) rfl rfl (fun _ => by kernel_rfl) rfl (by decide) (fun b5 => ?_))
        obtain ⟨l2, e2, hm⟩ := bind_some hm
        refine WL.step (Runs.free rfl) rfl rfl (os_app (i := 2) (j := 0) (En := encItem) (xs := xs1) (ys := [(mkS x1.name), (.int .i64 x1.life), (.int .i64 x1.used), (.int .i64 x1.faults), (.bool x1.faulty), (.int .i64 x1.since), (.int .i64 x1.cycles)]) Tryd.underlying32 (by kernel_rfl : (Tryd.prog.info? 80).map (fun i => (i.zero, i.size, i.bytes)) = some (some (.agg #[(mkS []), (.int .i64 0), (.int .i64 0), (.int .i64 0), (.bool false), (.int .i64 0), (.int .i64 0)]), (encItem).size, 64)) rfl (by decide) rfl rfl rfl rfl rfl rfl rl2 rl3 e2 (fun ao4 cap4 rl4 => ?_))
        refine WL.quiet (Runs.free rfl) rfl rfl (OV.quiet (ov_fieldAddr Tryd.underlying34 rfl rfl rfl Tryd.sizeOf32 rfl rfl)) ?_
        refine WL.step0 (Runs.free rfl) rfl (os_store (i := 3) (vs := [(.slice ao4 (l1 ++ ([x1] : List Item)).length cap4)]) (cs' := [(.slice ao4 (l1 ++ ([x1] : List Item)).length cap4), (.int .i64 p_m.cycles)]) Tryd.sizeOf32 rfl rfl rfl rfl rfl rfl rfl rfl rfl ?_)
        refine WL.nil ?_
        refine block_normal ?_
        refine then_normal ?_
        refine WP.region ?_
        refine WL.quiet (Runs.free rfl) rfl rfl (OV.quiet (ov_add rfl rfl rfl)) ?_
        refine WL.quiet (Runs.free rfl) rfl rfl (OV.quiet (ov_move rfl rfl)) ?_
        refine WL.nil ?_
        refine then_normal ?_
        exact ⟨(IntKind.wrap .i64 (i1 + 1)), (l1 ++ ([x1] : List Item)), ao4, cap4, (xs1 ++ [(mkS x1.name), (.int .i64 x1.life), (.int .i64 x1.used), (.int .i64 x1.faults), (.bool x1.faulty), (.int .i64 x1.since), (.int .i64 x1.cycles)]), rl4, (Sub.cons rfl (Sub.cons rfl (Sub.cons rfl (Sub.cons rfl (Sub.cons rfl (Sub.nil _)))))), fun w' s => (s.select [2, 3, 4] (by decide) rfl), hm⟩
      · replace hm := ite_f hc3 hm
        refine WP.exit ?_
        refine then_exit ?_
        refine then_exit ?_
        refine block_here ?_
        refine then_normal ?_
        exact ⟨l1, ao3, cap3, xs1, rl2, (Sub.cons rfl (Sub.cons rfl (Sub.nil _))), fun w' s => s, hm⟩
  · rintro g' S' ⟨l3, ao5, cap5, xs2, rl5, hsub2, hS2, hm⟩
    refine WP.sub hsub2 (WP.weaken hS2 ?_)
    replace hm := (congrFun hk1 l3).symm.trans hm
    refine WP.seq ?_
    refine WP.region ?_
    refine WL.quiet (Runs.free rfl) rfl rfl (OV.quiet (ov_load_whole (i := 1) Tryd.isAgg34 Tryd.sizeOf34 rfl rfl rfl rfl)) ?_
    refine WL.step0 (Runs.free rfl) rfl (os_store (i := 2) (vs := [(.slice ao5 l3.length cap5), (.int .i64 p_m.cycles)]) (cs' := [(.slice ao5 l3.length cap5), (.int .i64 p_m.cycles)]) Tryd.sizeOf34 rfl rfl rfl rfl rfl rfl rfl rfl rfl ?_)
    refine WL.nil ?_
    refine then_normal ?_
    refine WP.ret ?_
    obtain rfl := Option.some.inj hm
    refine retQ_ret Tryd.results12 (Res.cell rfl (box_loads (i := 2) Tryd.isAgg34 Tryd.sizeOf34 rfl rfl) Res.nil) rfl (fun w' s => ⟨s.below, ?_⟩)
    obtain ⟨h8, hc4⟩ := s.ret_row (i := 0) rfl rl5
    exact ⟨ao5, cap5, rfl, h8, hc4⟩

theorem ref58_Few_con (p_m : Machine) (ao1 : Option Addr) (cap1 : Nat) (w : World) (H : Heap) (hH : Le H (hp w)) (h1 : SL H encItem ao1 p_m.items) (hc1 : p_m.items.length ≤ cap1) (hG : Glob H) (r : Bool) (hm : ref58_Few p_m = some r) :
    Con Tryd.prog 31 [(.agg #[(.slice ao1 p_m.items.length cap1), (.int .i64 p_m.cycles)])] w H (fun v _ => v = (.bool r)) := by
  unfold ref58_Few at hm
  refine con_of hH Tryd.func31 rfl 35 Tryd.ntmps31 rfl ?_
  refine WP.seq ?_
  refine WP.region ?_
  refine WL.step (Runs.free rfl) rfl rfl (os_box (cs := [(.slice ao1 p_m.items.length cap1), (.int .i64 p_m.cycles)]) rfl rfl rfl (fun b1 => ?_))
  refine WL.quiet (Runs.free rfl) rfl rfl (OV.quiet (ov_assign rfl rfl)) ?_
  refine WL.nil ?_
  refine then_normal ?_
  refine WP.seq ?_
  refine WP.seq ?_
  refine WP.region ?_
  refine WL.quiet (Runs.free rfl) rfl rfl (OV.quiet (ov_fieldAddr Tryd.underlying34 rfl rfl rfl Tryd.sizeOf32 rfl rfl)) ?_
  refine WL.quiet (Runs.free rfl) rfl rfl (OV.quiet (ov_load_box (i := 0) Tryd.isAgg32 rfl rfl rfl rfl)) ?_
  refine WL.quiet (Runs.free rfl) rfl rfl (OV.quiet (ov_len_slice Tryd.underlying32 rfl rfl)) ?_
  refine WL.quiet (Runs.free rfl) rfl rfl (OV.quiet (ov_gtr rfl rfl rfl)) ?_
  refine WL.quiet (Runs.free rfl) rfl rfl (OV.quiet (ov_move rfl rfl)) ?_
  refine WL.cut_bool 5 13 (x := ((decide ((p_m.items.length : Int) > 10)) && (decide ((p_m.items.length : Int) < 256)))) ?_ ?_
  · rcases Bool.eq_false_or_eq_true (decide ((p_m.items.length : Int) > 10)) with hc2 | hc2
    · skip
      refine WL.quiet (Runs.yes rfl rfl rfl hc2) rfl rfl (OV.quiet (ov_fieldAddr Tryd.underlying34 rfl rfl rfl Tryd.sizeOf32 rfl rfl)) ?_
      refine WL.quiet (Runs.yes rfl rfl rfl hc2) rfl rfl (OV.quiet (ov_load_box (i := 0) Tryd.isAgg32 rfl rfl rfl rfl)) ?_
      refine WL.quiet (Runs.yes rfl rfl rfl hc2) rfl rfl (OV.quiet (ov_len_slice Tryd.underlying32 rfl rfl)) ?_
      refine WL.quiet (Runs.yes rfl rfl rfl hc2) rfl rfl (OV.quiet (ov_lss rfl rfl rfl)) ?_
      refine WL.quiet (Runs.free rfl) rfl rfl (OV.quiet (ov_pick_true rfl (guard_eq rfl hc2) rfl)) ?_
      exact WL.nil ⟨Sub.cons' rfl (congrArg Value.bool (by rw [hc2]; rfl)) (Sub.skip rfl (Sub.skip rfl (Sub.skip rfl (Sub.skip rfl (Sub.skip rfl (Sub.refl _)))))), fun _ s => s⟩
    · skip
      refine WL.idle (Idle.no rfl rfl rfl hc2) rfl rfl ?_
      refine WL.idle (Idle.no rfl rfl rfl hc2) rfl rfl ?_
      refine WL.idle (Idle.no rfl rfl rfl hc2) rfl rfl ?_
      refine WL.idle (Idle.no rfl rfl rfl hc2) rfl rfl ?_
      refine WL.quiet (Runs.free rfl) rfl rfl (OV.quiet (ov_pick_false rfl (guard_eq rfl hc2) rfl)) ?_
      exact WL.nil ⟨Sub.cons' rfl (congrArg Value.bool (by rw [hc2]; rfl)) (Sub.skip rfl (Sub.skip rfl (Sub.skip rfl (Sub.skip rfl (Sub.skip rfl (Sub.refl _)))))), fun _ s => s⟩
  refine WL.quiet (Runs.free rfl) rfl rfl (OV.quiet (ov_move rfl rfl)) ?_
  refine WL.cut_bool 5 19 (x := (((decide ((p_m.items.length : Int) > 10)) && (decide ((p_m.items.length : Int) < 256))) || (decide ((p_m.items.length : Int) > 512)))) ?_ ?_
  · rcases Bool.eq_false_or_eq_true ((decide ((p_m.items.length : Int) > 10)) && (decide ((p_m.items.length : Int) < 256))) with hc3 | hc3
    · skip
      refine WL.idle (Idle.no rfl rfl rfl hc3) rfl rfl ?_
      refine WL.idle (Idle.no rfl rfl rfl hc3) rfl rfl ?_
      refine WL.idle (Idle.no rfl rfl rfl hc3) rfl rfl ?_
      refine WL.idle (Idle.no rfl rfl rfl hc3) rfl rfl ?_
      refine WL.quiet (Runs.free rfl) rfl rfl (OV.quiet (ov_pick_true rfl (guard_eq rfl hc3) rfl)) ?_
      exact WL.nil ⟨Sub.cons' rfl (congrArg Value.bool (by rw [hc3]; rfl)) (Sub.skip rfl (Sub.skip rfl (Sub.skip rfl (Sub.skip rfl (Sub.skip rfl (Sub.refl _)))))), fun _ s => s⟩
    · skip
      refine WL.quiet (Runs.yes rfl rfl rfl hc3) rfl rfl (OV.quiet (ov_fieldAddr Tryd.underlying34 rfl rfl rfl Tryd.sizeOf32 rfl rfl)) ?_
      refine WL.quiet (Runs.yes rfl rfl rfl hc3) rfl rfl (OV.quiet (ov_load_box (i := 0) Tryd.isAgg32 rfl rfl rfl rfl)) ?_
      refine WL.quiet (Runs.yes rfl rfl rfl hc3) rfl rfl (OV.quiet (ov_len_slice Tryd.underlying32 rfl rfl)) ?_
      refine WL.quiet (Runs.yes rfl rfl rfl hc3) rfl rfl (OV.quiet (ov_gtr rfl rfl rfl)) ?_
      refine WL.quiet (Runs.free rfl) rfl rfl (OV.quiet (ov_pick_false rfl (guard_eq rfl hc3) rfl)) ?_
      exact WL.nil ⟨Sub.cons' rfl (congrArg Value.bool (by rw [hc3]; rfl)) (Sub.skip rfl (Sub.skip rfl (Sub.skip rfl (Sub.skip rfl (Sub.skip rfl (Sub.refl _)))))), fun _ s => s⟩
  refine WL.nil ?_
  refine then_normal ?_
  refine WP.cond rfl (fun hc4 => ?_) (fun hc4 => ?_)
  · replace hm := ite_t hc4 hm
    refine WP.seq ?_
    refine WP.region ?_
    refine WL.quiet (Runs.free rfl) rfl rfl (OV.quiet (ov_assign rfl rfl)) ?_
    refine WL.nil ?_
    refine then_normal ?_
    refine WP.ret ?_
    refine then_ret ?_
    obtain rfl := Option.some.inj hm
    refine retQ_ret Tryd.results31 (Res.tmp rfl Res.nil) rfl (fun w' s => ⟨s.below, ?_⟩)
    exact rfl
  · replace hm := ite_f hc4 hm
    refine WP.skip ?_
    refine then_normal ?_
    obtain ⟨k1, hk1, hm⟩ := joinK_some hm
    refine WP.seq_join (fun g' S' => Sub [] g' ∧ (∀ w', S' w' → St w H [] H w') ∧ k1 = some r) ?_ ?_
    · skip
      refine WP.seq ?_
      refine WP.region ?_
      refine WL.quiet (Runs.free rfl) rfl rfl (OV.quiet (ov_assign rfl rfl)) ?_
      refine WL.nil ?_
      refine then_normal ?_
      refine WP.block ?_
      refine WP.loop (fun m1 g' S' => ∃ (i1 : Int), Sub [(1, (pB b1 0)), (3, (.int .i64 i1))] g' ∧ (∀ w', S' w' → St w H [.blk b1 34 [(.slice ao1 p_m.items.length cap1), (.int .i64 p_m.cycles)]] H w') ∧ ref58_Few_loop1 p_m k1 m1 i1 = some r) ((Int.toNat ((p_m.items.length : Int) - 0) + 1)) ⟨0, (Sub.cons rfl (Sub.cons rfl (Sub.nil _))), fun w' s => s, hm⟩ ?_ ?_
      · rintro g' S' ⟨_, _, _, hm⟩
        exact none_some hm
      · rintro m1 g' S' ⟨i1, hsub1, hS1, hm⟩
        refine WP.sub hsub1 (WP.weaken hS1 ?_)
        rw [ref58_Few_loop1] at hm
        refine WP.seq ?_
        refine WP.seq ?_
        refine WP.region ?_
        refine WL.quiet (Runs.free rfl) rfl rfl (OV.quiet (ov_move rfl rfl)) ?_
        refine WL.quiet (Runs.free rfl) rfl rfl (OV.quiet (ov_fieldAddr Tryd.underlying34 rfl rfl rfl Tryd.sizeOf32 rfl rfl)) ?_
        refine WL.quiet (Runs.free rfl) rfl rfl (OV.quiet (ov_load_box (i := 0) Tryd.isAgg32 rfl rfl rfl rfl)) ?_
        refine WL.quiet (Runs.free rfl) rfl rfl (OV.quiet (ov_len_slice Tryd.underlying32 rfl rfl)) ?_
        refine WL.quiet (Runs.free rfl) rfl rfl (OV.quiet (ov_lss rfl rfl rfl)) ?_
        refine WL.nil ?_
        refine then_normal ?_
        refine WP.cond rfl (fun hc5 => ?_) (fun hc5 => ?_)
        · replace hm := ite_t hc5 hm
          refine WP.skip ?_
          refine then_normal ?_
          refine WP.seq ?_
          refine WP.block ?_
          refine WP.seq ?_
          refine WP.region ?_
          refine WL.quiet (Runs.free rfl) rfl rfl (OV.quiet (ov_fieldAddr Tryd.underlying34 rfl rfl rfl Tryd.sizeOf32 rfl rfl)) ?_
          refine WL.quiet (Runs.free rfl) rfl rfl (OV.quiet (ov_load_box (i := 0) Tryd.isAgg32 rfl rfl rfl rfl)) ?_
          refine WL.quiet (Runs.free rfl) rfl rfl (OV.quiet (ov_move rfl rfl)) ?_
          obtain ⟨x1, e1, hm⟩ := bind_some hm
          obtain ⟨h2, h3, h4, cs1, h5, h6⟩ := h1.get e1 (by decide)
          obtain rfl : cs1 = [(mkS x1.name), (.int .i64 x1.life), (.int .i64 x1.used), (.int .i64 x1.faults), (.bool x1.faulty), (.int .i64 x1.since), (.int .i64 x1.cycles)] := h5
          refine WL.quiet (Runs.free rfl) rfl rfl (OV.quiet (ov_indexAddr Tryd.underlying32 Tryd.sizeOf80 rfl rfl rfl h2 h3 h4)) ?_
          refine WL.quiet (Runs.free rfl) rfl rfl (OV.quiet (ov_fieldAddrE Tryd.underlying80 rfl rfl rfl Tryd.sizeOf9 rfl rfl)) ?_
          refine WL.quiet (Runs.free rfl) rfl rfl (OV.quiet (ov_load_elem (v := (mkS x1.name)) Tryd.isAgg9 rfl rfl (h6.one (off := 0) rfl))) ?_
          refine WL.quiet (Runs.free rfl) rfl rfl (OV.quiet (ov_len_string Tryd.underlying9 rfl rfl)) ?_
          refine WL.quiet (Runs.free rfl) rfl rfl (OV.quiet (ov_gtr rfl rfl rfl)) ?_
          refine WL.nil ?_
          refine then_normal ?_
          refine WP.cond rfl (fun hc6 => ?_) (fun hc6 => ?_)
          · replace hm := ite_t hc6 hm
            refine WP.seq ?_
            refine WP.region ?_
            refine WL.quiet (Runs.free rfl) rfl rfl (OV.quiet (ov_assign rfl rfl)) ?_
            refine WL.nil ?_
            refine then_normal ?_
            refine WP.ret ?_
            refine block_ret ?_
            refine then_ret ?_
            refine then_ret ?_
            refine block_ret ?_
            refine then_ret ?_
            obtain rfl := Option.some.inj hm
            refine retQ_ret Tryd.results31 (Res.tmp rfl Res.nil) rfl (fun w' s => ⟨s.below, ?_⟩)
            exact rfl
          · replace hm := ite_f hc6 hm
            refine WP.skip ?_
            refine block_normal ?_
            refine then_normal ?_
            refine WP.region ?_
            refine WL.quiet (Runs.free rfl) rfl rfl (OV.quiet (ov_move rfl rfl)) ?_
            refine WL.quiet (Runs.free rfl) rfl rfl (OV.quiet (ov_add rfl rfl rfl)) ?_
            refine WL.quiet (Runs.free rfl) rfl rfl (OV.quiet (ov_assign rfl rfl)) ?_
            refine WL.nil ?_
            refine then_normal ?_
            exact ⟨(IntKind.wrap .i64 (i1 + 1)), (Sub.cons rfl (Sub.cons rfl (Sub.nil _))), fun w' s => s, hm⟩
        · replace hm := ite_f hc5 hm
          refine WP.exit ?_
          refine then_exit ?_
          refine then_exit ?_
          refine block_here ?_
          refine then_normal ?_
          exact ⟨(Sub.nil _), fun w' s => (s.select [] (by decide) rfl), hm⟩
    · rintro g' S' ⟨hsub2, hS2, hm⟩
      refine WP.sub hsub2 (WP.weaken hS2 ?_)
      replace hm := hk1.symm.trans hm
      refine WP.seq ?_
      refine WP.region ?_
      refine WL.quiet (Runs.free rfl) rfl rfl (OV.quiet (ov_assign rfl rfl)) ?_
      refine WL.nil ?_
      refine then_normal ?_
      refine WP.ret ?_
      obtain rfl := Option.some.inj hm
      refine retQ_ret Tryd.results31 (Res.tmp rfl Res.nil) rfl (fun w' s => ⟨s.below, ?_⟩)
      exact rfl

theorem law58_few_con (p_m : Machine) (p_name : (List UInt8)) (ao1 : Option Addr) (cap1 : Nat) (w : World) (H : Heap) (hH : Le H (hp w)) (h1 : SL H encItem ao1 p_m.items) (hc1 : p_m.items.length ≤ cap1) (hG : Glob H) (r : Bool) (hm : law58_few p_m p_name = some r) :
    Con Tryd.prog 8 [(.agg #[(.slice ao1 p_m.items.length cap1), (.int .i64 p_m.cycles)]), (mkS p_name)] w H (fun v _ => v = (.bool r)) := by
  unfold law58_few at hm
  refine con_of hH Tryd.func8 rfl 13 Tryd.ntmps8 rfl ?_
  refine WP.seq ?_
  refine WP.region ?_
  refine WL.step (Runs.free rfl) rfl rfl (os_box (cs := [(.slice ao1 p_m.items.length cap1), (.int .i64 p_m.cycles)]) rfl rfl rfl (fun b1 => ?_))
  refine WL.quiet (Runs.free rfl) rfl rfl (OV.quiet (ov_assign rfl rfl)) ?_
  refine WL.nil ?_
  refine then_normal ?_
  refine WP.seq ?_
  refine WP.region ?_
  refine WL.quiet (Runs.free rfl) rfl rfl (OV.quiet (ov_load_whole (i := 0) Tryd.isAgg24 Tryd.sizeOf24 rfl rfl rfl rfl)) ?_
  obtain ⟨r1, e1, hm⟩ := bind_some hm
  refine WL.step (Runs.free rfl) rfl rfl (os_con Tryd.call12 rfl rfl (fun w' s => (law58_own_con p_m ao1 cap1  w' H s.hold h1 hc1 hG r1 e1)) (fun rr1 H1 hle1 hR1 => ?_))
  replace h1 := h1.mono hle1
  replace hG := hG.mono hle1
  obtain ⟨ao2, cap2, rfl, h2, hc2⟩ := hR1
  obtain ⟨r2, e2, hm⟩ := bind_some hm
  refine WL.quiet (Runs.free rfl) rfl rfl (oq_con (r := (.bool r2)) Tryd.call31 rfl rfl (fun w' s => ⟨_, (ref58_Few_con r1 ao2 cap2  w' H1 s.hold h2 hc2 hG r2 e2)⟩)) ?_
  refine WL.quiet (Runs.free rfl) rfl rfl (OV.quiet (ov_move rfl rfl)) ?_
  refine WL.cut_bool 4 12 (x := (r2 && (decide ((p_name.length : Int) ≤ 60)))) ?_ ?_
  · rcases Bool.eq_false_or_eq_true r2 with hc3 | hc3
    · skip
      refine WL.quiet (Runs.yes rfl rfl rfl hc3) rfl rfl (OV.quiet (ov_move rfl rfl)) ?_
      refine WL.quiet (Runs.yes rfl rfl rfl hc3) rfl rfl (OV.quiet (ov_len_string Tryd.underlying9 rfl rfl)) ?_
      refine WL.quiet (Runs.yes rfl rfl rfl hc3) rfl rfl (OV.quiet (ov_leq rfl rfl rfl)) ?_
      refine WL.quiet (Runs.free rfl) rfl rfl (OV.quiet (ov_pick_true rfl (guard_eq rfl hc3) rfl)) ?_
      exact WL.nil ⟨Sub.cons' rfl (congrArg Value.bool (by rw [hc3]; rfl)) (Sub.skip rfl (Sub.skip rfl (Sub.skip rfl (Sub.skip rfl (Sub.refl _))))), fun _ s => s⟩
    · skip
      refine WL.idle (Idle.no rfl rfl rfl hc3) rfl rfl ?_
      refine WL.idle (Idle.no rfl rfl rfl hc3) rfl rfl ?_
      refine WL.idle (Idle.no rfl rfl rfl hc3) rfl rfl ?_
      refine WL.quiet (Runs.free rfl) rfl rfl (OV.quiet (ov_pick_false rfl (guard_eq rfl hc3) rfl)) ?_
      exact WL.nil ⟨Sub.cons' rfl (congrArg Value.bool (by rw [hc3]; rfl)) (Sub.skip rfl (Sub.skip rfl (Sub.skip rfl (Sub.skip rfl (Sub.refl _))))), fun _ s => s⟩
  refine WL.quiet (Runs.free rfl) rfl rfl (OV.quiet (ov_assign rfl rfl)) ?_
  refine WL.nil ?_
  refine then_normal ?_
  refine WP.ret ?_
  obtain rfl := Option.some.inj hm
  refine retQ_ret Tryd.results8 (Res.tmp rfl Res.nil) rfl (fun w' s => ⟨s.below, ?_⟩)
  exact rfl

theorem journal_in_con (p_n : Int) (p_least : Int) (p_most : Int) (w : World) (H : Heap) (hH : Le H (hp w)) (hG : Glob H) (r : Bool) (hm : journal_in p_n p_least p_most = some r) :
    Con Tryd.prog 38 [(.int .i64 p_n), (.int .i64 p_least), (.int .i64 p_most)] w H (fun v _ => v = (.bool r)) := by
  unfold journal_in at hm
  refine con_of hH Tryd.func38 rfl 15 Tryd.ntmps38 rfl ?_
  refine WP.seq ?_
  refine WP.region ?_
  refine WL.quiet (Runs.free rfl) rfl rfl (OV.quiet (ov_assign rfl rfl)) ?_
  refine WL.nil ?_
  refine then_normal ?_
  refine WP.seq ?_
  refine WP.region ?_
  refine WL.quiet (Runs.free rfl) rfl rfl (OV.quiet (ov_move rfl rfl)) ?_
  refine WL.quiet (Runs.free rfl) rfl rfl (OV.quiet (ov_move rfl rfl)) ?_
  refine WL.quiet (Runs.free rfl) rfl rfl (OV.quiet (ov_geq rfl rfl rfl)) ?_
  refine WL.quiet (Runs.free rfl) rfl rfl (OV.quiet (ov_move rfl rfl)) ?_
  refine WL.cut_bool 4 14 (x := ((decide (p_n ≥ p_least)) && (decide (p_n ≤ p_most)))) ?_ ?_
  · rcases Bool.eq_false_or_eq_true (decide (p_n ≥ p_least)) with hc1 | hc1
    · skip
      refine WL.quiet (Runs.yes rfl rfl rfl hc1) rfl rfl (OV.quiet (ov_move rfl rfl)) ?_
      refine WL.quiet (Runs.yes rfl rfl rfl hc1) rfl rfl (OV.quiet (ov_move rfl rfl)) ?_
      refine WL.quiet (Runs.yes rfl rfl rfl hc1) rfl rfl (OV.quiet (ov_leq rfl rfl rfl)) ?_
      refine WL.quiet (Runs.free rfl) rfl rfl (OV.quiet (ov_pick_true rfl (guard_eq rfl hc1) rfl)) ?_
      exact WL.nil ⟨Sub.cons' rfl (congrArg Value.bool (by rw [hc1]; rfl)) (Sub.skip rfl (Sub.skip rfl (Sub.skip rfl (Sub.skip rfl (Sub.refl _))))), fun _ s => s⟩
    · skip
      refine WL.idle (Idle.no rfl rfl rfl hc1) rfl rfl ?_
      refine WL.idle (Idle.no rfl rfl rfl hc1) rfl rfl ?_
      refine WL.idle (Idle.no rfl rfl rfl hc1) rfl rfl ?_
      refine WL.quiet (Runs.free rfl) rfl rfl (OV.quiet (ov_pick_false rfl (guard_eq rfl hc1) rfl)) ?_
      exact WL.nil ⟨Sub.cons' rfl (congrArg Value.bool (by rw [hc1]; rfl)) (Sub.skip rfl (Sub.skip rfl (Sub.skip rfl (Sub.skip rfl (Sub.refl _))))), fun _ s => s⟩
  refine WL.quiet (Runs.free rfl) rfl rfl (OV.quiet (ov_assign rfl rfl)) ?_
  refine WL.nil ?_
  refine then_normal ?_
  refine WP.ret ?_
  obtain rfl := Option.some.inj hm
  refine retQ_ret Tryd.results38 (Res.tmp rfl Res.nil) rfl (fun w' s => ⟨s.below, ?_⟩)
  exact rfl

theorem lexer_class_con (p_b : Int) (w : World) (H : Heap) (hH : Le H (hp w)) (hG : Glob H) (r : Int) (hm : lexer_class p_b = some r) :
    Con Tryd.prog 57 [(.int .u8 p_b)] w H (fun v _ => v = (.int .i64 r)) := by
  unfold lexer_class at hm
  refine con_of hH Tryd.func57 rfl 28 Tryd.ntmps57 rfl ?_
  refine WP.seq ?_
  refine WP.region ?_
  refine WL.quiet (Runs.free rfl) rfl rfl (OV.quiet (ov_assign rfl rfl)) ?_
  refine WL.nil ?_
  refine then_normal ?_
  obtain ⟨k1, hk1, hm⟩ := joinK_some hm
  refine WP.seq_join (fun g' S' => Sub [(0, (.int .u8 p_b))] g' ∧ (∀ w', S' w' → St w H [] H w') ∧ k1 = some r) ?_ ?_
  · skip
    refine WP.seq ?_
    refine WP.region ?_
    refine WL.quiet (Runs.free rfl) rfl rfl (OV.quiet (ov_move rfl rfl)) ?_
    refine WL.nil ?_
    refine then_normal ?_
    refine WP.block ?_
    refine WP.loop (fun m1 g' S' => ∃ (i1 : Int), Sub [(0, (.int .u8 p_b)), (5, (.int .i64 i1))] g' ∧ (∀ w', S' w' → St w H [] H w') ∧ lexer_class_loop1 p_b k1 m1 i1 = some r) ((Int.toNat (6 - 0) + 1)) ⟨0, (Sub.cons rfl (Sub.cons rfl (Sub.nil _))), fun w' s => s, hm⟩ ?_ ?_
    · rintro g' S' ⟨_, _, _, hm⟩
      exact none_some hm
    · rintro m1 g' S' ⟨i1, hsub1, hS1, hm⟩
      refine WP.sub hsub1 (WP.weaken hS1 ?_)
      rw [lexer_class_loop1] at hm
      refine WP.seq ?_
      refine WP.region ?_
      refine WL.quiet (Runs.free rfl) rfl rfl (OV.quiet (ov_lss rfl rfl rfl)) ?_
      refine WL.nil ?_
      refine then_normal ?_
      refine WP.seq ?_
      refine WP.cond rfl (fun hc1 => ?_) (fun hc1 => ?_)
      · replace hm := ite_t hc1 hm
        refine WP.skip ?_
        refine then_normal ?_
        refine WP.seq ?_
        refine WP.block ?_
        refine WP.seq ?_
        refine WP.region ?_
        refine WL.quiet (Runs.free rfl) rfl rfl (OV.quiet (ov_move rfl rfl)) ?_
        refine WL.quiet (Runs.free rfl) rfl rfl (OV.quiet (ov_assign rfl rfl)) ?_
        refine WL.nil ?_
        refine then_normal ?_
        refine WP.seq ?_
        refine WP.region ?_
        refine WL.quiet (Runs.free rfl) rfl rfl (OV.quiet (ov_move rfl rfl)) ?_
        obtain ⟨x1, e1, hm⟩ := bind_some hm
        obtain ⟨h1, h2, h3, cs1, h4, h5⟩ := hG.1.get e1 (by decide)
        obtain rfl : cs1 = [(.int .u8 x1.a0), (.int .u8 x1.a1), (.int .u8 x1.a2)] := h4
        refine WL.quiet (Runs.free rfl) rfl rfl (OV.quiet (ov_indexAddr_globL rfl Tryd.underlying119 Tryd.sizeOf118 rfl rfl rfl h1 h2)) ?_
        refine WL.quiet (Runs.free rfl) rfl rfl (OV.quiet (ov_load_elems (vs := [(.int .u8 x1.a0), (.int .u8 x1.a1), (.int .u8 x1.a2)]) Tryd.isAgg118 Tryd.sizeOf118 rfl rfl rfl h5 h3)) ?_
        refine WL.step (Runs.free rfl) rfl rfl (os_alloc (cs := [(.int .u8 0), (.int .u8 0), (.int .u8 0)]) Tryd.zeroValue118 rfl rfl (fun b1 => ?_))
        refine WL.step0 (Runs.free rfl) rfl (os_store (i := 0) (vs := [(.int .u8 x1.a0), (.int .u8 x1.a1), (.int .u8 x1.a2)]) (cs' := [(.int .u8 x1.a0), (.int .u8 x1.a1), (.int .u8 x1.a2)]) Tryd.sizeOf118 rfl rfl rfl rfl rfl rfl rfl rfl rfl ?_)
        refine WL.nil ?_
        refine then_normal ?_
        refine WP.seq ?_
        refine WP.region ?_
        refine WL.quiet (Runs.free rfl) rfl rfl (OV.quiet (ov_indexAddr_arr Tryd.underlying118 Tryd.sizeOf5 rfl rfl rfl (by decide) (by decide))) ?_
        refine WL.quiet (Runs.free rfl) rfl rfl (OV.quiet (ov_load_box (i := 0) Tryd.isAgg5 rfl rfl rfl rfl)) ?_
        refine WL.quiet (Runs.free rfl) rfl rfl (OV.quiet (ov_move rfl rfl)) ?_
        refine WL.quiet (Runs.free rfl) rfl rfl (OV.quiet (ov_leq rfl rfl rfl)) ?_
        refine WL.quiet (Runs.free rfl) rfl rfl (OV.quiet (ov_move rfl rfl)) ?_
        refine WL.cut_bool 5 20 (x := ((decide (x1.a0 ≤ p_b)) && (decide (p_b ≤ x1.a1)))) ?_ ?_
        · rcases Bool.eq_false_or_eq_true (decide (x1.a0 ≤ p_b)) with hc2 | hc2
          · skip
            refine WL.quiet (Runs.yes rfl rfl rfl hc2) rfl rfl (OV.quiet (ov_move rfl rfl)) ?_
            refine WL.quiet (Runs.yes rfl rfl rfl hc2) rfl rfl (OV.quiet (ov_indexAddr_arr Tryd.underlying118 Tryd.sizeOf5 rfl rfl rfl (by decide) (by decide))) ?_
            refine WL.quiet (Runs.yes rfl rfl rfl hc2) rfl rfl (OV.quiet (ov_load_box (i := 0) Tryd.isAgg5 rfl rfl rfl rfl)) ?_
            refine WL.quiet (Runs.yes rfl rfl rfl hc2) rfl rfl (OV.quiet (ov_leq rfl rfl rfl)) ?_
            refine WL.quiet (Runs.free rfl) rfl rfl (OV.quiet (ov_pick_true rfl (guard_eq rfl hc2) rfl)) ?_
            exact WL.nil ⟨Sub.cons' rfl (congrArg Value.bool (by rw [hc2]; rfl)) (Sub.skip rfl (Sub.skip rfl (Sub.skip rfl (Sub.skip rfl (Sub.skip rfl (Sub.refl _)))))), fun _ s => s⟩
          · skip
            refine WL.idle (Idle.no rfl rfl rfl hc2) rfl rfl ?_
            refine WL.idle (Idle.no rfl rfl rfl hc2) rfl rfl ?_
            refine WL.idle (Idle.no rfl rfl rfl hc2) rfl rfl ?_
            refine WL.idle (Idle.no rfl rfl rfl hc2) rfl rfl ?_
            refine WL.quiet (Runs.free rfl) rfl rfl (OV.quiet (ov_pick_false rfl (guard_eq rfl hc2) rfl)) ?_
            exact WL.nil ⟨Sub.cons' rfl (congrArg Value.bool (by rw [hc2]; rfl)) (Sub.skip rfl (Sub.skip rfl (Sub.skip rfl (Sub.skip rfl (Sub.skip rfl (Sub.refl _)))))), fun _ s => s⟩
        refine WL.nil ?_
        refine then_normal ?_
        refine WP.cond rfl (fun hc3 => ?_) (fun hc3 => ?_)
        · replace hm := ite_t hc3 hm
          refine WP.seq ?_
          refine WP.region ?_
          refine WL.quiet (Runs.free rfl) rfl rfl (OV.quiet (ov_indexAddr_arr Tryd.underlying118 Tryd.sizeOf5 rfl rfl rfl (by decide) (by decide))) ?_
          refine WL.quiet (Runs.free rfl) rfl rfl (OV.quiet (ov_load_box (i := 0) Tryd.isAgg5 rfl rfl rfl rfl)) ?_
          refine WL.quiet (Runs.free rfl) rfl rfl (OV.quiet (ov_convert_int Tryd.underlying5 Tryd.underlying3 rfl rfl)) ?_
          refine WL.quiet (Runs.free rfl) rfl rfl (OV.quiet (ov_assign rfl rfl)) ?_
          refine WL.nil ?_
          refine then_normal ?_
          refine WP.ret ?_
          refine block_ret ?_
          refine then_ret ?_
          refine then_ret ?_
          refine block_ret ?_
          refine then_ret ?_
          obtain rfl := Option.some.inj hm
          refine retQ_ret Tryd.results57 (Res.tmp rfl Res.nil) rfl (fun w' s => ⟨s.below, ?_⟩)
          exact rfl
        · replace hm := ite_f hc3 hm
          refine WP.skip ?_
          refine block_normal ?_
          refine then_normal ?_
          refine WP.region ?_
          refine WL.quiet (Runs.free rfl) rfl rfl (OV.quiet (ov_add rfl rfl rfl)) ?_
          refine WL.quiet (Runs.free rfl) rfl rfl (OV.quiet (ov_move rfl rfl)) ?_
          refine WL.nil ?_
          refine then_normal ?_
          exact ⟨(IntKind.wrap .i64 (i1 + 1)), (Sub.cons rfl (Sub.cons rfl (Sub.nil _))), fun w' s => (s.select [] (by decide) rfl), hm⟩
      · replace hm := ite_f hc1 hm
        refine WP.exit ?_
        refine then_exit ?_
        refine then_exit ?_
        refine block_here ?_
        refine then_normal ?_
        exact ⟨(Sub.cons rfl (Sub.nil _)), fun w' s => s, hm⟩
  · rintro g' S' ⟨hsub2, hS2, hm⟩
    refine WP.sub hsub2 (WP.weaken hS2 ?_)
    replace hm := hk1.symm.trans hm
    refine WP.seq ?_
    refine WP.seq ?_
    refine WP.region ?_
    refine WL.quiet (Runs.free rfl) rfl rfl (OV.quiet (ov_move rfl rfl)) ?_
    obtain ⟨r1, e2, hm⟩ := bind_some hm
    refine WL.quiet (Runs.free rfl) rfl rfl (oq_con (r := (.int .i64 r1)) Tryd.call74 rfl rfl (fun w' s => ⟨_, (idxB_con [43, 45, 42, 47, 40, 41, 91, 93, 123, 125, 60, 62, 61, 44, 59, 58, 124, 38, 33, 35, 46] p_b  w' H s.hold hG r1 e2)⟩)) ?_
    refine WL.quiet (Runs.free rfl) rfl rfl (OV.quiet (ov_geq rfl rfl rfl)) ?_
    refine WL.nil ?_
    refine then_normal ?_
    refine WP.cond rfl (fun hc4 => ?_) (fun hc4 => ?_)
    · replace hm := ite_t hc4 hm
      refine WP.seq ?_
      refine WP.region ?_
      refine WL.quiet (Runs.free rfl) rfl rfl (OV.quiet (ov_assign rfl rfl)) ?_
      refine WL.nil ?_
      refine then_normal ?_
      refine WP.ret ?_
      refine then_ret ?_
      obtain rfl := Option.some.inj hm
      refine retQ_ret Tryd.results57 (Res.tmp rfl Res.nil) rfl (fun w' s => ⟨s.below, ?_⟩)
      exact rfl
    · replace hm := ite_f hc4 hm
      refine WP.skip ?_
      refine then_normal ?_
      refine WP.seq ?_
      refine WP.region ?_
      refine WL.quiet (Runs.free rfl) rfl rfl (OV.quiet (ov_assign rfl rfl)) ?_
      refine WL.nil ?_
      refine then_normal ?_
      refine WP.ret ?_
      obtain rfl := Option.some.inj hm
      refine retQ_ret Tryd.results57 (Res.tmp rfl Res.nil) rfl (fun w' s => ⟨s.below, ?_⟩)
      exact rfl

theorem lexer_run_con (p_s : (List UInt8)) (p_classes : (List Int)) (ao1 : Option Addr) (cap1 : Nat) (w : World) (H : Heap) (hH : Le H (hp w)) (h1 : SL H (encInt .i64) ao1 p_classes) (hc1 : p_classes.length ≤ cap1) (hG : Glob H) (r : Int) (hm : lexer_run p_s p_classes = some r) :
    Con Tryd.prog 58 [(mkS p_s), (.slice ao1 p_classes.length cap1)] w H (fun v _ => v = (.int .i64 r)) := by
  unfold lexer_run at hm
  refine con_of hH Tryd.func58 rfl 36 Tryd.ntmps58 rfl ?_
  refine WP.seq ?_
  refine WP.region ?_
  refine WL.quiet (Runs.free rfl) rfl rfl (OV.quiet (ov_assign rfl rfl)) ?_
  refine WL.nil ?_
  refine then_normal ?_
  obtain ⟨k1, hk1, hm⟩ := joinK_some hm
  refine WP.seq_join (fun g' S' => Sub [(0, (mkS p_s))] g' ∧ (∀ w', S' w' → St w H [] H w') ∧ k1 = some r) ?_ ?_
  · skip
    refine WP.seq ?_
    refine WP.region ?_
    refine WL.quiet (Runs.free rfl) rfl rfl (OV.quiet (ov_move rfl rfl)) ?_
    refine WL.quiet (Runs.free rfl) rfl rfl (OV.quiet (ov_len_string Tryd.underlying9 rfl rfl)) ?_
    refine WL.quiet (Runs.free rfl) rfl rfl (OV.quiet (ov_move rfl rfl)) ?_
    refine WL.nil ?_
    refine then_normal ?_
    refine WP.block ?_
    refine WP.loop (fun m1 g' S' => ∃ (i1 : Int), Sub [(0, (mkS p_s)), (1, (.slice ao1 p_classes.length cap1)), (10, (.int .i64 (p_s.length : Int))), (11, (.int .i64 i1))] g' ∧ (∀ w', S' w' → St w H [] H w') ∧ lexer_run_loop1 p_s p_classes k1 m1 i1 = some r) ((Int.toNat ((p_s.length : Int) - 0) + 1)) ⟨0, (Sub.cons rfl (Sub.cons rfl (Sub.cons rfl (Sub.cons rfl (Sub.nil _))))), fun w' s => s, hm⟩ ?_ ?_
    · rintro g' S' ⟨_, _, _, hm⟩
      exact none_some hm
    · rintro m1 g' S' ⟨i1, hsub1, hS1, hm⟩
      refine WP.sub hsub1 (WP.weaken hS1 ?_)
      rw [lexer_run_loop1] at hm
      refine WP.seq ?_
      refine WP.region ?_
      refine WL.quiet (Runs.free rfl) rfl rfl (OV.quiet (ov_lss rfl rfl rfl)) ?_
      refine WL.nil ?_
      refine then_normal ?_
      refine WP.seq ?_
      refine WP.cond rfl (fun hc2 => ?_) (fun hc2 => ?_)
      · replace hm := ite_t hc2 hm
        refine WP.skip ?_
        refine then_normal ?_
        obtain ⟨k2, hk2, hm⟩ := joinK_some hm
        refine WP.seq_join (fun g' S' => Sub [(0, (mkS p_s)), (1, (.slice ao1 p_classes.length cap1)), (10, (.int .i64 (p_s.length : Int))), (11, (.int .i64 i1))] g' ∧ (∀ w', S' w' → St w H [] H w') ∧ k2 = some r) ?_ ?_
        · skip
          refine WP.block ?_
          refine WP.seq ?_
          refine WP.region ?_
          refine WL.quiet (Runs.free rfl) rfl rfl (OV.quiet (ov_move rfl rfl)) ?_
          refine WL.quiet (Runs.free rfl) rfl rfl (OV.quiet (ov_assign rfl rfl)) ?_
          refine WL.nil ?_
          refine then_normal ?_
          refine WP.seq ?_
          refine WP.region ?_
          refine WL.quiet (Runs.free rfl) rfl rfl (OV.quiet (ov_assign rfl rfl)) ?_
          refine WL.nil ?_
          refine then_normal ?_
          obtain ⟨k3, hk3, hm⟩ := joinK_some hm
          refine WP.seq_join (fun g' S' => ∃ (c3 : Bool), Sub [(0, (mkS p_s)), (1, (.slice ao1 p_classes.length cap1)), (5, (.int .i64 i1)), (6, (.bool c3)), (10, (.int .i64 (p_s.length : Int))), (11, (.int .i64 i1))] g' ∧ (∀ w', S' w' → St w H [] H w') ∧ k3 c3 = some r) ?_ ?_
          · skip
            refine WP.seq ?_
            refine WP.region ?_
            refine WL.quiet (Runs.free rfl) rfl rfl (OV.quiet (ov_move rfl rfl)) ?_
            refine WL.quiet (Runs.free rfl) rfl rfl (OV.quiet (ov_len_slice Tryd.underlying121 rfl rfl)) ?_
            refine WL.quiet (Runs.free rfl) rfl rfl (OV.quiet (ov_move rfl rfl)) ?_
            refine WL.nil ?_
            refine then_normal ?_
            refine WP.block ?_
            refine WP.loop (fun m2 g' S' => ∃ (c1 : Bool) (i2 : Int), Sub [(0, (mkS p_s)), (1, (.slice ao1 p_classes.length cap1)), (5, (.int .i64 i1)), (6, (.bool c1)), (10, (.int .i64 (p_s.length : Int))), (11, (.int .i64 i1)), (14, (.slice ao1 p_classes.length cap1)), (15, (.int .i64 (p_classes.length : Int))), (16, (.int .i64 i2))] g' ∧ (∀ w', S' w' → St w H [] H w') ∧ lexer_run_loop2 p_s p_classes i1 k3 m2 c1 i2 = some r) ((Int.toNat ((p_classes.length : Int) - 0) + 1)) ⟨false, 0, (Sub.cons rfl (Sub.cons rfl (Sub.cons rfl (Sub.cons rfl (Sub.cons rfl (Sub.cons rfl (Sub.cons rfl (Sub.cons rfl (Sub.cons rfl (Sub.nil _)))))))))), fun w' s => s, hm⟩ ?_ ?_
            · rintro g' S' ⟨_, _, _, _, hm⟩
              exact none_some hm
            · rintro m2 g' S' ⟨c1, i2, hsub2, hS2, hm⟩
              refine WP.sub hsub2 (WP.weaken hS2 ?_)
              rw [lexer_run_loop2] at hm
              refine WP.seq ?_
              refine WP.region ?_
              refine WL.quiet (Runs.free rfl) rfl rfl (OV.quiet (ov_lss rfl rfl rfl)) ?_
              refine WL.nil ?_
              refine then_normal ?_
              refine WP.seq ?_
              refine WP.cond rfl (fun hc3 => ?_) (fun hc3 => ?_)
              · replace hm := ite_t hc3 hm
                refine WP.skip ?_
                refine then_normal ?_
                refine WP.seq ?_
                refine WP.block ?_
                refine WP.seq ?_
                refine WP.region ?_
                obtain ⟨x1, e1, hm⟩ := bind_some hm
                obtain ⟨h2, h3, h4, cs1, h5, h6⟩ := h1.get e1 (by decide)
                obtain rfl : cs1 = [(.int .i64 x1)] := h5
                refine WL.quiet (Runs.free rfl) rfl rfl (OV.quiet (ov_indexAddr Tryd.underlying121 Tryd.sizeOf3 rfl rfl rfl h2 h3 h4)) ?_
                refine WL.quiet (Runs.free rfl) rfl rfl (OV.quiet (ov_load_elem (v := (.int .i64 x1)) Tryd.isAgg3 rfl rfl h6)) ?_
                refine WL.quiet (Runs.free rfl) rfl rfl (OV.quiet (ov_assign rfl rfl)) ?_
                refine WL.nil ?_
                refine then_normal ?_
                refine WP.region ?_
                refine WL.quiet (Runs.free rfl) rfl rfl (OV.quiet (ov_move rfl rfl)) ?_
                refine WL.quiet (Runs.free rfl) rfl rfl (OV.quiet (ov_move rfl rfl)) ?_
                obtain ⟨c2, e2, hm⟩ := bind_some hm
                refine WL.cut_bool 7 28 (x := c2) ?_ ?_
                · rcases Bool.eq_false_or_eq_true c1 with hc4 | hc4
                  · skip
                    replace hm := ite_t hc4 e2
                    refine WL.idle (Idle.no rfl rfl rfl hc4) rfl rfl ?_
                    refine WL.idle (Idle.no rfl rfl rfl hc4) rfl rfl ?_
                    refine WL.idle (Idle.no rfl rfl rfl hc4) rfl rfl ?_
                    refine WL.idle (Idle.no rfl rfl rfl hc4) rfl rfl ?_
                    refine WL.idle (Idle.no rfl rfl rfl hc4) rfl rfl ?_
                    refine WL.idle (Idle.no rfl rfl rfl hc4) rfl rfl ?_
                    refine WL.quiet (Runs.free rfl) rfl rfl (OV.quiet (ov_pick_true rfl (guard_eq rfl hc4) rfl)) ?_
                    exact WL.nil ⟨Sub.cons' rfl (congrArg Value.bool (Option.some.inj hm)) (Sub.skip rfl (Sub.skip rfl (Sub.skip rfl (Sub.skip rfl (Sub.skip rfl (Sub.skip rfl (Sub.skip rfl (Sub.refl _)))))))), fun _ s => s⟩
                  · skip
                    replace hm := ite_f hc4 e2
                    refine WL.quiet (Runs.yes rfl rfl rfl hc4) rfl rfl (OV.quiet (ov_move rfl rfl)) ?_
                    refine WL.quiet (Runs.yes rfl rfl rfl hc4) rfl rfl (OV.quiet (ov_move rfl rfl)) ?_
                    obtain ⟨b1, e3, hm⟩ := bind_some hm
                    refine WL.quiet (Runs.yes rfl rfl rfl hc4) rfl rfl (OV.quiet (ov_index_string Tryd.underlying9 rfl rfl rfl e3)) ?_
                    obtain ⟨r1, e4, hm⟩ := bind_some hm
                    refine WL.quiet (Runs.yes rfl rfl rfl hc4) rfl rfl (oq_con (r := (.int .i64 r1)) Tryd.call57 rfl rfl (fun w' s => ⟨_, (lexer_class_con (b1.toNat : Int)  w' H s.hold hG r1 e4)⟩)) ?_
                    refine WL.quiet (Runs.yes rfl rfl rfl hc4) rfl rfl (OV.quiet (ov_move rfl rfl)) ?_
                    refine WL.quiet (Runs.yes rfl rfl rfl hc4) rfl rfl (OV.quiet (ov_eql rfl rfl rfl)) ?_
                    refine WL.quiet (Runs.free rfl) rfl rfl (OV.quiet (ov_pick_false rfl (guard_eq rfl hc4) rfl)) ?_
                    exact WL.nil ⟨Sub.cons' rfl (congrArg Value.bool (Option.some.inj hm)) (Sub.skip rfl (Sub.skip rfl (Sub.skip rfl (Sub.skip rfl (Sub.skip rfl (Sub.skip rfl (Sub.skip rfl (Sub.refl _)))))))), fun _ s => s⟩
                refine WL.quiet (Runs.free rfl) rfl rfl (OV.quiet (ov_assign rfl rfl)) ?_
                refine WL.nil ?_
                refine block_normal ?_
                refine then_normal ?_
                refine WP.region ?_
                refine WL.quiet (Runs.free rfl) rfl rfl (OV.quiet (ov_add rfl rfl rfl)) ?_
                refine WL.quiet (Runs.free rfl) rfl rfl (OV.quiet (ov_move rfl rfl)) ?_
                refine WL.nil ?_
                refine then_normal ?_
                exact ⟨c2, (IntKind.wrap .i64 (i2 + 1)), (Sub.cons rfl (Sub.cons rfl (Sub.cons rfl (Sub.cons rfl (Sub.cons rfl (Sub.cons rfl (Sub.cons rfl (Sub.cons rfl (Sub.cons rfl (Sub.nil _)))))))))), fun w' s => s, hm⟩
              · replace hm := ite_f hc3 hm
                refine WP.exit ?_
                refine then_exit ?_
                refine then_exit ?_
                refine block_here ?_
                refine then_normal ?_
                exact ⟨c1, (Sub.cons rfl (Sub.cons rfl (Sub.cons rfl (Sub.cons rfl (Sub.cons rfl (Sub.cons rfl (Sub.nil _))))))), fun w' s => s, hm⟩
          · rintro g' S' ⟨c3, hsub3, hS3, hm⟩
            refine WP.sub hsub3 (WP.weaken hS3 ?_)
            replace hm := (congrFun hk3 c3).symm.trans hm
            refine WP.seq ?_
            refine WP.region ?_
            refine WL.quiet (Runs.free rfl) rfl rfl (OV.quiet (ov_move rfl rfl)) ?_
            refine WL.quiet (Runs.free rfl) rfl rfl (OV.quiet (ov_not rfl rfl)) ?_
            refine WL.nil ?_
            refine then_normal ?_
            refine WP.cond rfl (fun hc5 => ?_) (fun hc5 => ?_)
            · replace hm := ite_t hc5 hm
              refine WP.seq ?_
              refine WP.region ?_
              refine WL.quiet (Runs.free rfl) rfl rfl (OV.quiet (ov_move rfl rfl)) ?_
              refine WL.quiet (Runs.free rfl) rfl rfl (OV.quiet (ov_assign rfl rfl)) ?_
              refine WL.nil ?_
              refine then_normal ?_
              refine WP.ret ?_
              refine block_ret ?_
              refine then_ret ?_
              refine then_ret ?_
              refine block_ret ?_
              refine then_ret ?_
              obtain rfl := Option.some.inj hm
              refine retQ_ret Tryd.results58 (Res.tmp rfl Res.nil) rfl (fun w' s => ⟨s.below, ?_⟩)
              exact rfl
            · replace hm := ite_f hc5 hm
              refine WP.skip ?_
              refine block_normal ?_
              refine then_normal ?_
              exact ⟨(Sub.cons rfl (Sub.cons rfl (Sub.cons rfl (Sub.cons rfl (Sub.nil _))))), fun w' s => s, hm⟩
        · rintro g' S' ⟨hsub4, hS4, hm⟩
          refine WP.sub hsub4 (WP.weaken hS4 ?_)
          replace hm := hk2.symm.trans hm
          refine WP.region ?_
          refine WL.quiet (Runs.free rfl) rfl rfl (OV.quiet (ov_add rfl rfl rfl)) ?_
          refine WL.quiet (Runs.free rfl) rfl rfl (OV.quiet (ov_move rfl rfl)) ?_
          refine WL.nil ?_
          refine then_normal ?_
          exact ⟨(IntKind.wrap .i64 (i1 + 1)), (Sub.cons rfl (Sub.cons rfl (Sub.cons rfl (Sub.cons rfl (Sub.nil _))))), fun w' s => s, hm⟩
      · replace hm := ite_f hc2 hm
        refine WP.exit ?_
        refine then_exit ?_
        refine then_exit ?_
        refine block_here ?_
        refine then_normal ?_
        exact ⟨(Sub.cons rfl (Sub.nil _)), fun w' s => s, hm⟩
  · rintro g' S' ⟨hsub5, hS5, hm⟩
    refine WP.sub hsub5 (WP.weaken hS5 ?_)
    replace hm := hk1.symm.trans hm
    refine WP.seq ?_
    refine WP.region ?_
    refine WL.quiet (Runs.free rfl) rfl rfl (OV.quiet (ov_move rfl rfl)) ?_
    refine WL.quiet (Runs.free rfl) rfl rfl (OV.quiet (ov_len_string Tryd.underlying9 rfl rfl)) ?_
    refine WL.quiet (Runs.free rfl) rfl rfl (OV.quiet (ov_assign rfl rfl)) ?_
    refine WL.nil ?_
    refine then_normal ?_
    refine WP.ret ?_
    obtain rfl := Option.some.inj hm
    refine retQ_ret Tryd.results58 (Res.tmp rfl Res.nil) rfl (fun w' s => ⟨s.below, ?_⟩)
    exact rfl

theorem lexer_Word_con (p_s : (List UInt8)) (w : World) (H : Heap) (hH : Le H (hp w)) (hG : Glob H) (r : Int) (hm : lexer_Word p_s = some r) :
    Con Tryd.prog 39 [(mkS p_s)] w H (fun v _ => v = (.int .i64 r)) := by
  unfold lexer_Word at hm
  refine con_of hH Tryd.func39 rfl 24 Tryd.ntmps39 rfl ?_
  refine WP.seq ?_
  refine WP.region ?_
  refine WL.quiet (Runs.free rfl) rfl rfl (OV.quiet (ov_assign rfl rfl)) ?_
  refine WL.nil ?_
  refine then_normal ?_
  refine WP.seq ?_
  refine WP.block ?_
  refine WP.seq ?_
  refine WP.region ?_
  refine WL.quiet (Runs.free rfl) rfl rfl (OV.quiet (ov_move rfl rfl)) ?_
  refine WL.quiet (Runs.free rfl) rfl rfl (OV.quiet (ov_seql rfl rfl rfl)) ?_
  refine WL.quiet (Runs.free rfl) rfl rfl (OV.quiet (ov_move rfl rfl)) ?_
  obtain ⟨c1, e1, hm⟩ := bind_some hm
  refine WL.cut_bool 5 11 (x := c1) ?_ ?_
  · rcases Bool.eq_false_or_eq_true (p_s == []) with hc1 | hc1
    · skip
      replace hm := ite_t hc1 e1
      refine WL.idle (Idle.no rfl rfl rfl hc1) rfl rfl ?_
      refine WL.idle (Idle.no rfl rfl rfl hc1) rfl rfl ?_
      refine WL.idle (Idle.no rfl rfl rfl hc1) rfl rfl ?_
      refine WL.idle (Idle.no rfl rfl rfl hc1) rfl rfl ?_
      refine WL.quiet (Runs.free rfl) rfl rfl (OV.quiet (ov_pick_true rfl (guard_eq rfl hc1) rfl)) ?_
      exact WL.nil ⟨Sub.cons' rfl (congrArg Value.bool (Option.some.inj hm)) (Sub.skip rfl (Sub.skip rfl (Sub.skip rfl (Sub.skip rfl (Sub.skip rfl (Sub.refl _)))))), fun _ s => s⟩
    · skip
      replace hm := ite_f hc1 e1
      refine WL.quiet (Runs.yes rfl rfl rfl hc1) rfl rfl (OV.quiet (ov_move rfl rfl)) ?_
      obtain ⟨b1, e2, hm⟩ := bind_some hm
      refine WL.quiet (Runs.yes rfl rfl rfl hc1) rfl rfl (OV.quiet (ov_index_string Tryd.underlying9 rfl rfl rfl e2)) ?_
      obtain ⟨r1, e3, hm⟩ := bind_some hm
      refine WL.quiet (Runs.yes rfl rfl rfl hc1) rfl rfl (oq_con (r := (.int .i64 r1)) Tryd.call57 rfl rfl (fun w' s => ⟨_, (lexer_class_con (b1.toNat : Int)  w' H s.hold hG r1 e3)⟩)) ?_
      refine WL.quiet (Runs.yes rfl rfl rfl hc1) rfl rfl (OV.quiet (ov_neq rfl rfl rfl)) ?_
      refine WL.quiet (Runs.free rfl) rfl rfl (OV.quiet (ov_pick_false rfl (guard_eq rfl hc1) rfl)) ?_
      exact WL.nil ⟨Sub.cons' rfl (congrArg Value.bool (Option.some.inj hm)) (Sub.skip rfl (Sub.skip rfl (Sub.skip rfl (Sub.skip rfl (Sub.skip rfl (Sub.refl _)))))), fun _ s => s⟩
  refine WL.quiet (Runs.free rfl) rfl rfl (OV.quiet (ov_move rfl rfl)) ?_
  obtain ⟨c2, e4, hm⟩ := bind_some hm
  refine WL.cut_bool 7 19 (x := c2) ?_ ?_
  · rcases Bool.eq_false_or_eq_true c1 with hc2 | hc2
    · skip
      replace hm := ite_t hc2 e4
      refine WL.idle (Idle.no rfl rfl rfl hc2) rfl rfl ?_
      refine WL.idle (Idle.no rfl rfl rfl hc2) rfl rfl ?_
      refine WL.idle (Idle.no rfl rfl rfl hc2) rfl rfl ?_
      refine WL.idle (Idle.no rfl rfl rfl hc2) rfl rfl ?_
      refine WL.idle (Idle.no rfl rfl rfl hc2) rfl rfl ?_
      refine WL.idle (Idle.no rfl rfl rfl hc2) rfl rfl ?_
      refine WL.quiet (Runs.free rfl) rfl rfl (OV.quiet (ov_pick_true rfl (guard_eq rfl hc2) rfl)) ?_
      exact WL.nil ⟨Sub.cons' rfl (congrArg Value.bool (Option.some.inj hm)) (Sub.skip rfl (Sub.skip rfl (Sub.skip rfl (Sub.skip rfl (Sub.skip rfl (Sub.skip rfl (Sub.skip rfl (Sub.refl _)))))))), fun _ s => s⟩
    · skip
      replace hm := ite_f hc2 e4
      refine WL.quiet (Runs.yes rfl rfl rfl hc2) rfl rfl (OV.quiet (ov_move rfl rfl)) ?_
      have rl1 : RL H (encInt .i64) ([1, 2, 3] : List Int) [(.int .i64 1), (.int .i64 2), (.int .i64 3)] := RL.cons (cs := [(.int .i64 1)]) (xs := [(.int .i64 2), (.int .i64 3)]) rfl (RL.cons (cs := [(.int .i64 2)]) (xs := [(.int .i64 3)]) rfl (RL.cons (cs := [(.int .i64 3)]) (xs := []) rfl (RL.nil _ _)))
      refine WL.step (Runs.yes rfl rfl rfl hc2) rfl rfl (os_buildSlice (cs := [(.int .i64 1), (.int .i64 2), (.int .i64 3)]) (E := 3) (sz := 1) rfl rfl (fun _ => by kernel_rfl) rfl (by decide) (fun b2 => ?_))
      refine WL.held rl1 (fun H1 hc3 hle1 h1 => ?_)
      replace hG := hG.mono hle1
      obtain ⟨r2, e5, hm⟩ := bind_some hm
      refine WL.quiet (Runs.yes rfl rfl rfl hc2) rfl rfl (oq_con (r := (.int .i64 r2)) Tryd.call58 rfl rfl (fun w' s => ⟨_, (lexer_run_con p_s ([1, 2, 3] : List Int) (some ⟨b2, 0, none⟩) 3  w' H1 s.hold h1 hc3 hG r2 e5)⟩)) ?_
      refine WL.quiet (Runs.yes rfl rfl rfl hc2) rfl rfl (OV.quiet (ov_move rfl rfl)) ?_
      refine WL.quiet (Runs.yes rfl rfl rfl hc2) rfl rfl (OV.quiet (ov_len_string Tryd.underlying9 rfl rfl)) ?_
      refine WL.quiet (Runs.yes rfl rfl rfl hc2) rfl rfl (OV.quiet (ov_neq rfl rfl rfl)) ?_
      refine WL.quiet (Runs.free rfl) rfl rfl (OV.quiet (ov_pick_false rfl (guard_eq rfl hc2) rfl)) ?_
      exact WL.nil ⟨Sub.cons' rfl (congrArg Value.bool (Option.some.inj hm)) (Sub.skip rfl (Sub.skip rfl (Sub.skip rfl (Sub.skip rfl (Sub.skip rfl (Sub.skip rfl (Sub.skip rfl (Sub.refl _)))))))), fun _ s => (s.heap hle1)⟩
  refine WL.quiet (Runs.free rfl) rfl rfl (OV.quiet (ov_assign rfl rfl)) ?_
  refine WL.nil ?_
  refine then_normal ?_
  refine WP.cond rfl (fun hc4 => ?_) (fun hc4 => ?_)
  · replace hm := ite_t hc4 hm
    refine WP.seq ?_
    refine WP.region ?_
    refine WL.quiet (Runs.free rfl) rfl rfl (OV.quiet (ov_assign rfl rfl)) ?_
    refine WL.nil ?_
    refine then_normal ?_
    refine WP.ret ?_
    refine block_ret ?_
    refine then_ret ?_
    obtain rfl := Option.some.inj hm
    refine retQ_ret Tryd.results39 (Res.tmp rfl Res.nil) rfl (fun w' s => ⟨s.below, ?_⟩)
    exact rfl
  · replace hm := ite_f hc4 hm
    refine WP.seq ?_
    refine WP.region ?_
    refine WL.quiet (Runs.free rfl) rfl rfl (OV.quiet (ov_move rfl rfl)) ?_
    refine WL.quiet (Runs.free rfl) rfl rfl (OV.quiet (ov_len_string Tryd.underlying9 rfl rfl)) ?_
    refine WL.quiet (Runs.free rfl) rfl rfl (OV.quiet (ov_gtr rfl rfl rfl)) ?_
    refine WL.quiet (Runs.free rfl) rfl rfl (OV.quiet (ov_assign rfl rfl)) ?_
    refine WL.nil ?_
    refine then_normal ?_
    refine WP.cond rfl (fun hc5 => ?_) (fun hc5 => ?_)
    · replace hm := ite_t hc5 hm
      refine WP.seq ?_
      refine WP.region ?_
      refine WL.quiet (Runs.free rfl) rfl rfl (OV.quiet (ov_assign rfl rfl)) ?_
      refine WL.nil ?_
      refine then_normal ?_
      refine WP.ret ?_
      refine block_ret ?_
      refine then_ret ?_
      obtain rfl := Option.some.inj hm
      refine retQ_ret Tryd.results39 (Res.tmp rfl Res.nil) rfl (fun w' s => ⟨s.below, ?_⟩)
      exact rfl
    · replace hm := ite_f hc5 hm
      refine WP.skip ?_
      refine block_normal ?_
      refine then_normal ?_
      refine WP.seq ?_
      refine WP.region ?_
      refine WL.quiet (Runs.free rfl) rfl rfl (OV.quiet (ov_assign rfl rfl)) ?_
      refine WL.nil ?_
      refine then_normal ?_
      refine WP.ret ?_
      obtain rfl := Option.some.inj hm
      refine retQ_ret Tryd.results39 (Res.tmp rfl Res.nil) rfl (fun w' s => ⟨s.below, ?_⟩)
      exact rfl

theorem journal_Check_con (p_m : Machine) (ao1 : Option Addr) (cap1 : Nat) (w : World) (H : Heap) (hH : Le H (hp w)) (h1 : SL H encItem ao1 p_m.items) (hc1 : p_m.items.length ≤ cap1) (hG : Glob H) (r : Int) (hm : journal_Check p_m = some r) :
    Con Tryd.prog 13 [(.agg #[(.slice ao1 p_m.items.length cap1), (.int .i64 p_m.cycles)])] w H (fun v _ => v = (.int .i64 r)) := by
  unfold journal_Check at hm
  refine con_of hH Tryd.func13 rfl 87 Tryd.ntmps13 rfl ?_
  refine WP.seq ?_
  refine WP.region ?_
  refine WL.step (Runs.free rfl) rfl rfl (os_box (cs := [(.slice ao1 p_m.items.length cap1), (.int .i64 p_m.cycles)]) rfl rfl rfl (fun b1 => ?_))
  refine WL.quiet (Runs.free rfl) rfl rfl (OV.quiet (ov_assign rfl rfl)) ?_
  refine WL.nil ?_
  refine then_normal ?_
  refine WP.seq ?_
  refine WP.seq ?_
  refine WP.region ?_
  refine WL.quiet (Runs.free rfl) rfl rfl (OV.quiet (ov_fieldAddr Tryd.underlying24 rfl rfl rfl Tryd.sizeOf3 rfl rfl)) ?_
  refine WL.quiet (Runs.free rfl) rfl rfl (OV.quiet (ov_load_box (i := 0) Tryd.isAgg3 rfl rfl rfl rfl)) ?_
  obtain ⟨r1, e1, hm⟩ := bind_some hm
  refine WL.quiet (Runs.free rfl) rfl rfl (oq_con (r := (.bool r1)) Tryd.call38 rfl rfl (fun w' s => ⟨_, (journal_in_con p_m.cycles 0 1048576  w' H s.hold hG r1 e1)⟩)) ?_
  refine WL.quiet (Runs.free rfl) rfl rfl (OV.quiet (ov_not rfl rfl)) ?_
  refine WL.nil ?_
  refine then_normal ?_
  refine WP.cond rfl (fun hc2 => ?_) (fun hc2 => ?_)
  · replace hm := ite_t hc2 hm
    refine WP.seq ?_
    refine WP.region ?_
    refine WL.quiet (Runs.free rfl) rfl rfl (OV.quiet (ov_assign rfl rfl)) ?_
    refine WL.nil ?_
    refine then_normal ?_
    refine WP.ret ?_
    refine then_ret ?_
    obtain rfl := Option.some.inj hm
    refine retQ_ret Tryd.results13 (Res.tmp rfl Res.nil) rfl (fun w' s => ⟨s.below, ?_⟩)
    exact rfl
  · replace hm := ite_f hc2 hm
    refine WP.skip ?_
    refine then_normal ?_
    refine WP.seq ?_
    refine WP.seq ?_
    refine WP.region ?_
    refine WL.quiet (Runs.free rfl) rfl rfl (OV.quiet (ov_fieldAddr Tryd.underlying24 rfl rfl rfl Tryd.sizeOf22 rfl rfl)) ?_
    refine WL.quiet (Runs.free rfl) rfl rfl (OV.quiet (ov_load_box (i := 0) Tryd.isAgg22 rfl rfl rfl rfl)) ?_
    refine WL.quiet (Runs.free rfl) rfl rfl (OV.quiet (ov_len_slice Tryd.underlying22 rfl rfl)) ?_
    refine WL.quiet (Runs.free rfl) rfl rfl (OV.quiet (ov_gtr rfl rfl rfl)) ?_
    refine WL.nil ?_
    refine then_normal ?_
    refine WP.cond rfl (fun hc3 => ?_) (fun hc3 => ?_)
    · replace hm := ite_t hc3 hm
      refine WP.seq ?_
      refine WP.region ?_
      refine WL.quiet (Runs.free rfl) rfl rfl (OV.quiet (ov_assign rfl rfl)) ?_
      refine WL.nil ?_
      refine then_normal ?_
      refine WP.ret ?_
      refine then_ret ?_
      obtain rfl := Option.some.inj hm
      refine retQ_ret Tryd.results13 (Res.tmp rfl Res.nil) rfl (fun w' s => ⟨s.below, ?_⟩)
      exact rfl
    · replace hm := ite_f hc3 hm
      refine WP.skip ?_
      refine then_normal ?_
      obtain ⟨k1, hk1, hm⟩ := joinK_some hm
      refine WP.seq_join (fun g' S' => Sub [] g' ∧ (∀ w', S' w' → St w H [] H w') ∧ k1 = some r) ?_ ?_
      · skip
        refine WP.seq ?_
        refine WP.region ?_
        refine WL.quiet (Runs.free rfl) rfl rfl (OV.quiet (ov_fieldAddr Tryd.underlying24 rfl rfl rfl Tryd.sizeOf22 rfl rfl)) ?_
        refine WL.quiet (Runs.free rfl) rfl rfl (OV.quiet (ov_load_box (i := 0) Tryd.isAgg22 rfl rfl rfl rfl)) ?_
        refine WL.quiet (Runs.free rfl) rfl rfl (OV.quiet (ov_len_slice Tryd.underlying22 rfl rfl)) ?_
        refine WL.quiet (Runs.free rfl) rfl rfl (OV.quiet (ov_move rfl rfl)) ?_
        refine WL.nil ?_
        refine then_normal ?_
        refine WP.block ?_
        refine WP.loop (fun m1 g' S' => ∃ (i1 : Int), Sub [(1, (pB b1 0)), (15, (.slice ao1 p_m.items.length cap1)), (16, (.int .i64 (p_m.items.length : Int))), (17, (.int .i64 i1))] g' ∧ (∀ w', S' w' → St w H [.blk b1 24 [(.slice ao1 p_m.items.length cap1), (.int .i64 p_m.cycles)]] H w') ∧ journal_Check_loop1 p_m k1 m1 i1 = some r) ((Int.toNat ((p_m.items.length : Int) - 0) + 1)) ⟨0, (Sub.cons rfl (Sub.cons rfl (Sub.cons rfl (Sub.cons rfl (Sub.nil _))))), fun w' s => s, hm⟩ ?_ ?_
        · rintro g' S' ⟨_, _, _, hm⟩
          exact none_some hm
        · rintro m1 g' S' ⟨i1, hsub1, hS1, hm⟩
          refine WP.sub hsub1 (WP.weaken hS1 ?_)
          rw [journal_Check_loop1] at hm
          refine WP.seq ?_
          refine WP.region ?_
          refine WL.quiet (Runs.free rfl) rfl rfl (OV.quiet (ov_lss rfl rfl rfl)) ?_
          refine WL.nil ?_
          refine then_normal ?_
          refine WP.seq ?_
          refine WP.cond rfl (fun hc4 => ?_) (fun hc4 => ?_)
          · replace hm := ite_t hc4 hm
            refine WP.skip ?_
            refine then_normal ?_
            refine WP.seq ?_
            refine WP.block ?_
            refine WP.seq ?_
            refine WP.region ?_
            refine WL.quiet (Runs.free rfl) rfl rfl (OV.quiet (ov_move rfl rfl)) ?_
            obtain ⟨x1, e2, hm⟩ := bind_some hm
            obtain ⟨h2, h3, h4, cs1, h5, h6⟩ := h1.get e2 (by decide)
            obtain rfl : cs1 = [(mkS x1.name), (.int .i64 x1.life), (.int .i64 x1.used), (.int .i64 x1.faults), (.bool x1.faulty), (.int .i64 x1.since), (.int .i64 x1.cycles)] := h5
            refine WL.quiet (Runs.free rfl) rfl rfl (OV.quiet (ov_indexAddr Tryd.underlying22 Tryd.sizeOf79 rfl rfl rfl h2 h3 h4)) ?_
            refine WL.quiet (Runs.free rfl) rfl rfl (OV.quiet (ov_load_elems (vs := [(mkS x1.name), (.int .i64 x1.life), (.int .i64 x1.used), (.int .i64 x1.faults), (.bool x1.faulty), (.int .i64 x1.since), (.int .i64 x1.cycles)]) Tryd.isAgg79 Tryd.sizeOf79 rfl rfl rfl h6 h4)) ?_
            refine WL.step (Runs.free rfl) rfl rfl (os_alloc (cs := [(mkS []), (.int .i64 0), (.int .i64 0), (.int .i64 0), (.bool false), (.int .i64 0), (.int .i64 0)]) Tryd.zeroValue79 rfl rfl (fun b2 => ?_))
            refine WL.quiet (Runs.free rfl) rfl rfl (OV.quiet (ov_assign rfl rfl)) ?_
            refine WL.step0 (Runs.free rfl) rfl (os_store (i := 0) (vs := [(mkS x1.name), (.int .i64 x1.life), (.int .i64 x1.used), (.int .i64 x1.faults), (.bool x1.faulty), (.int .i64 x1.since), (.int .i64 x1.cycles)]) (cs' := [(mkS x1.name), (.int .i64 x1.life), (.int .i64 x1.used), (.int .i64 x1.faults), (.bool x1.faulty), (.int .i64 x1.since), (.int .i64 x1.cycles)]) Tryd.sizeOf79 rfl rfl rfl rfl rfl rfl rfl rfl rfl ?_)
            refine WL.nil ?_
            refine then_normal ?_
            refine WP.seq ?_
            refine WP.seq ?_
            refine WP.region ?_
            refine WL.quiet (Runs.free rfl) rfl rfl (OV.quiet (ov_fieldAddr Tryd.underlying79 rfl rfl rfl Tryd.sizeOf9 rfl rfl)) ?_
            refine WL.quiet (Runs.free rfl) rfl rfl (OV.quiet (ov_load_box (i := 0) Tryd.isAgg9 rfl rfl rfl rfl)) ?_
            obtain ⟨r2, e3, hm⟩ := bind_some hm
            refine WL.quiet (Runs.free rfl) rfl rfl (oq_con (r := (.int .i64 r2)) Tryd.call39 rfl rfl (fun w' s => ⟨_, (lexer_Word_con x1.name  w' H s.hold hG r2 e3)⟩)) ?_
            refine WL.quiet (Runs.free rfl) rfl rfl (OV.quiet (ov_assign rfl rfl)) ?_
            refine WL.nil ?_
            refine then_normal ?_
            refine WP.seq ?_
            refine WP.region ?_
            refine WL.quiet (Runs.free rfl) rfl rfl (OV.quiet (ov_move rfl rfl)) ?_
            refine WL.quiet (Runs.free rfl) rfl rfl (OV.quiet (ov_neq rfl rfl rfl)) ?_
            refine WL.nil ?_
            refine then_normal ?_
            refine WP.cond rfl (fun hc5 => ?_) (fun hc5 => ?_)
            · replace hm := ite_t hc5 hm
              refine WP.seq ?_
              refine WP.region ?_
              refine WL.quiet (Runs.free rfl) rfl rfl (OV.quiet (ov_move rfl rfl)) ?_
              refine WL.quiet (Runs.free rfl) rfl rfl (OV.quiet (ov_assign rfl rfl)) ?_
              refine WL.nil ?_
              refine then_normal ?_
              refine WP.ret ?_
              refine then_ret ?_
              refine block_ret ?_
              refine then_ret ?_
              refine then_ret ?_
              refine block_ret ?_
              refine then_ret ?_
              obtain rfl := Option.some.inj hm
              refine retQ_ret Tryd.results13 (Res.tmp rfl Res.nil) rfl (fun w' s => ⟨s.below, ?_⟩)
              exact rfl
            · replace hm := ite_f hc5 hm
              refine WP.skip ?_
              refine then_normal ?_
              refine WP.block ?_
              refine WP.seq ?_
              refine WP.region_draws (by kernel_rfl) (by kernel_rfl) (fun _ s => s.drew) ?_
              refine QL.quiet (Runs.free rfl) rfl rfl (OV.quiet (ov_move rfl rfl)) ?_
              refine QL.quiet (Runs.free rfl) rfl rfl (OV.quiet (ov_gtr rfl rfl rfl)) ?_
              refine QL.quiet (Runs.free rfl) rfl rfl (OV.quiet (ov_move rfl rfl)) ?_
              obtain ⟨c1, e4, hm⟩ := bind_some hm
              refine QL.part_bool 11 42 (x := c1) ?_ ?_
              · rcases Bool.eq_false_or_eq_true (decide (i1 > 0)) with hc6 | hc6
                · skip
                  replace hm := ite_t hc6 e4
                  refine QL.quiet (Runs.yes rfl rfl rfl hc6) rfl rfl (OV.quiet (ov_fieldAddr Tryd.underlying79 rfl rfl rfl Tryd.sizeOf9 rfl rfl)) ?_
                  refine QL.quiet (Runs.yes rfl rfl rfl hc6) rfl rfl (OV.quiet (ov_load_box (i := 0) Tryd.isAgg9 rfl rfl rfl rfl)) ?_
                  refine QL.quiet (Runs.yes rfl rfl rfl hc6) rfl rfl (OV.quiet (ov_fieldAddr Tryd.underlying24 rfl rfl rfl Tryd.sizeOf22 rfl rfl)) ?_
                  refine QL.quiet (Runs.yes rfl rfl rfl hc6) rfl rfl (OV.quiet (ov_load_box (i := 1) Tryd.isAgg22 rfl rfl rfl rfl)) ?_
                  refine QL.quiet (Runs.yes rfl rfl rfl hc6) rfl rfl (OV.quiet (ov_move rfl rfl)) ?_
                  refine QL.quiet (Runs.yes rfl rfl rfl hc6) rfl rfl (OV.quiet (ov_sub rfl rfl rfl)) ?_
                  obtain ⟨x2, e5, hm⟩ := bind_some hm
                  obtain ⟨h7, h8, h9, cs2, h10, h11⟩ := h1.get e5 (by decide)
                  obtain rfl : cs2 = [(mkS x2.name), (.int .i64 x2.life), (.int .i64 x2.used), (.int .i64 x2.faults), (.bool x2.faulty), (.int .i64 x2.since), (.int .i64 x2.cycles)] := h10
                  refine QL.quiet (Runs.yes rfl rfl rfl hc6) rfl rfl (OV.quiet (ov_indexAddr Tryd.underlying22 Tryd.sizeOf79 rfl rfl rfl h7 h8 h9)) ?_
                  refine QL.quiet (Runs.yes rfl rfl rfl hc6) rfl rfl (OV.quiet (ov_fieldAddrE Tryd.underlying79 rfl rfl rfl Tryd.sizeOf9 rfl rfl)) ?_
                  refine QL.quiet (Runs.yes rfl rfl rfl hc6) rfl rfl (OV.quiet (ov_load_elem (v := (mkS x2.name)) Tryd.isAgg9 rfl rfl (h11.one (off := 0) rfl))) ?_
                  refine QL.quiet (Runs.yes rfl rfl rfl hc6) rfl rfl (OV.quiet (ov_sleq rfl rfl rfl)) ?_
                  refine QL.quiet (Runs.free rfl) rfl rfl (OV.quiet (ov_pick_true rfl (guard_eq rfl hc6) rfl)) ?_
                  exact QL.nil (Sub.cons' rfl (congrArg Value.bool (Option.some.inj hm)) (Sub.skip rfl (Sub.skip rfl (Sub.skip rfl (Sub.skip rfl (Sub.skip rfl (Sub.skip rfl (Sub.skip rfl (Sub.skip rfl (Sub.skip rfl (Sub.skip rfl (Sub.skip rfl (Sub.refl _)))))))))))))
                · skip
                  replace hm := ite_f hc6 e4
                  refine QL.idle (Idle.no rfl rfl rfl hc6) rfl rfl ?_
                  refine QL.idle (Idle.no rfl rfl rfl hc6) rfl rfl ?_
                  refine QL.idle (Idle.no rfl rfl rfl hc6) rfl rfl ?_
                  refine QL.idle (Idle.no rfl rfl rfl hc6) rfl rfl ?_
                  refine QL.idle (Idle.no rfl rfl rfl hc6) rfl rfl ?_
                  refine QL.idle (Idle.no rfl rfl rfl hc6) rfl rfl ?_
                  refine QL.idle (Idle.no rfl rfl rfl hc6) rfl rfl ?_
                  refine QL.idle (Idle.no rfl rfl rfl hc6) rfl rfl ?_
                  refine QL.idle (Idle.no rfl rfl rfl hc6) rfl rfl ?_
                  refine QL.idle (Idle.no rfl rfl rfl hc6) rfl rfl ?_
                  refine QL.quiet (Runs.free rfl) rfl rfl (OV.quiet (ov_pick_false rfl (guard_eq rfl hc6) rfl)) ?_
                  exact QL.nil (Sub.cons' rfl (congrArg Value.bool (Option.some.inj hm)) (Sub.skip rfl (Sub.skip rfl (Sub.skip rfl (Sub.skip rfl (Sub.skip rfl (Sub.skip rfl (Sub.skip rfl (Sub.skip rfl (Sub.skip rfl (Sub.skip rfl (Sub.skip rfl (Sub.refl _)))))))))))))
              refine QL.quiet (Runs.free rfl) rfl rfl (OV.quiet (ov_assign rfl rfl)) ?_
              refine QL.nil ?_
              refine then_normal ?_
              refine WP.cond rfl (fun hc7 => ?_) (fun hc7 => ?_)
              · replace hm := ite_t hc7 hm
                refine WP.seq ?_
                refine WP.region ?_
                refine WL.quiet (Runs.free rfl) rfl rfl (OV.quiet (ov_assign rfl rfl)) ?_
                refine WL.nil ?_
                refine then_normal ?_
                refine WP.ret ?_
                refine block_ret ?_
                refine block_ret ?_
                refine then_ret ?_
                refine then_ret ?_
                refine block_ret ?_
                refine then_ret ?_
                obtain rfl := Option.some.inj hm
                refine retQ_ret Tryd.results13 (Res.tmp rfl Res.nil) rfl (fun w' s => ⟨s.below, ?_⟩)
                exact rfl
              · replace hm := ite_f hc7 hm
                refine WP.seq ?_
                refine WP.region ?_
                refine WL.quiet (Runs.free rfl) rfl rfl (OV.quiet (ov_fieldAddr Tryd.underlying79 rfl rfl rfl Tryd.sizeOf3 rfl rfl)) ?_
                refine WL.quiet (Runs.free rfl) rfl rfl (OV.quiet (ov_load_box (i := 0) Tryd.isAgg3 rfl rfl rfl rfl)) ?_
                obtain ⟨r3, e6, hm⟩ := bind_some hm
                refine WL.quiet (Runs.free rfl) rfl rfl (oq_con (r := (.bool r3)) Tryd.call38 rfl rfl (fun w' s => ⟨_, (journal_in_con x1.life 1 1048576  w' H s.hold hG r3 e6)⟩)) ?_
                refine WL.quiet (Runs.free rfl) rfl rfl (OV.quiet (ov_not rfl rfl)) ?_
                refine WL.quiet (Runs.free rfl) rfl rfl (OV.quiet (ov_move rfl rfl)) ?_
                obtain ⟨c2, e7, hm⟩ := bind_some hm
                refine WL.cut_bool 5 53 (x := c2) ?_ ?_
                · rcases Bool.eq_false_or_eq_true (!r3) with hc8 | hc8
                  · skip
                    replace hm := ite_t hc8 e7
                    refine WL.idle (Idle.no rfl rfl rfl hc8) rfl rfl ?_
                    refine WL.idle (Idle.no rfl rfl rfl hc8) rfl rfl ?_
                    refine WL.idle (Idle.no rfl rfl rfl hc8) rfl rfl ?_
                    refine WL.idle (Idle.no rfl rfl rfl hc8) rfl rfl ?_
                    refine WL.quiet (Runs.free rfl) rfl rfl (OV.quiet (ov_pick_true rfl (guard_eq rfl hc8) rfl)) ?_
                    exact WL.nil ⟨Sub.cons' rfl (congrArg Value.bool (Option.some.inj hm)) (Sub.skip rfl (Sub.skip rfl (Sub.skip rfl (Sub.skip rfl (Sub.skip rfl (Sub.refl _)))))), fun _ s => s⟩
                  · skip
                    replace hm := ite_f hc8 e7
                    refine WL.quiet (Runs.yes rfl rfl rfl hc8) rfl rfl (OV.quiet (ov_fieldAddr Tryd.underlying79 rfl rfl rfl Tryd.sizeOf3 rfl rfl)) ?_
                    refine WL.quiet (Runs.yes rfl rfl rfl hc8) rfl rfl (OV.quiet (ov_load_box (i := 0) Tryd.isAgg3 rfl rfl rfl rfl)) ?_
                    obtain ⟨r4, e8, hm⟩ := bind_some hm
                    refine WL.quiet (Runs.yes rfl rfl rfl hc8) rfl rfl (oq_con (r := (.bool r4)) Tryd.call38 rfl rfl (fun w' s => ⟨_, (journal_in_con x1.used 0 1048576  w' H s.hold hG r4 e8)⟩)) ?_
                    refine WL.quiet (Runs.yes rfl rfl rfl hc8) rfl rfl (OV.quiet (ov_not rfl rfl)) ?_
                    refine WL.quiet (Runs.free rfl) rfl rfl (OV.quiet (ov_pick_false rfl (guard_eq rfl hc8) rfl)) ?_
                    exact WL.nil ⟨Sub.cons' rfl (congrArg Value.bool (Option.some.inj hm)) (Sub.skip rfl (Sub.skip rfl (Sub.skip rfl (Sub.skip rfl (Sub.skip rfl (Sub.refl _)))))), fun _ s => s⟩
                refine WL.quiet (Runs.free rfl) rfl rfl (OV.quiet (ov_move rfl rfl)) ?_
                obtain ⟨c3, e9, hm⟩ := bind_some hm
                refine WL.cut_bool 5 59 (x := c3) ?_ ?_
                · rcases Bool.eq_false_or_eq_true c2 with hc9 | hc9
                  · skip
                    replace hm := ite_t hc9 e9
                    refine WL.idle (Idle.no rfl rfl rfl hc9) rfl rfl ?_
                    refine WL.idle (Idle.no rfl rfl rfl hc9) rfl rfl ?_
                    refine WL.idle (Idle.no rfl rfl rfl hc9) rfl rfl ?_
                    refine WL.idle (Idle.no rfl rfl rfl hc9) rfl rfl ?_
                    refine WL.quiet (Runs.free rfl) rfl rfl (OV.quiet (ov_pick_true rfl (guard_eq rfl hc9) rfl)) ?_
                    exact WL.nil ⟨Sub.cons' rfl (congrArg Value.bool (Option.some.inj hm)) (Sub.skip rfl (Sub.skip rfl (Sub.skip rfl (Sub.skip rfl (Sub.skip rfl (Sub.refl _)))))), fun _ s => s⟩
                  · skip
                    replace hm := ite_f hc9 e9
                    refine WL.quiet (Runs.yes rfl rfl rfl hc9) rfl rfl (OV.quiet (ov_fieldAddr Tryd.underlying79 rfl rfl rfl Tryd.sizeOf3 rfl rfl)) ?_
                    refine WL.quiet (Runs.yes rfl rfl rfl hc9) rfl rfl (OV.quiet (ov_load_box (i := 0) Tryd.isAgg3 rfl rfl rfl rfl)) ?_
                    obtain ⟨r5, e10, hm⟩ := bind_some hm
                    refine WL.quiet (Runs.yes rfl rfl rfl hc9) rfl rfl (oq_con (r := (.bool r5)) Tryd.call38 rfl rfl (fun w' s => ⟨_, (journal_in_con x1.faults 0 4096  w' H s.hold hG r5 e10)⟩)) ?_
                    refine WL.quiet (Runs.yes rfl rfl rfl hc9) rfl rfl (OV.quiet (ov_not rfl rfl)) ?_
                    refine WL.quiet (Runs.free rfl) rfl rfl (OV.quiet (ov_pick_false rfl (guard_eq rfl hc9) rfl)) ?_
                    exact WL.nil ⟨Sub.cons' rfl (congrArg Value.bool (Option.some.inj hm)) (Sub.skip rfl (Sub.skip rfl (Sub.skip rfl (Sub.skip rfl (Sub.skip rfl (Sub.refl _)))))), fun _ s => s⟩
                refine WL.quiet (Runs.free rfl) rfl rfl (OV.quiet (ov_assign rfl rfl)) ?_
                refine WL.nil ?_
                refine then_normal ?_
                refine WP.cond rfl (fun hc10 => ?_) (fun hc10 => ?_)
                · replace hm := ite_t hc10 hm
                  refine WP.seq ?_
                  refine WP.region ?_
                  refine WL.quiet (Runs.free rfl) rfl rfl (OV.quiet (ov_assign rfl rfl)) ?_
                  refine WL.nil ?_
                  refine then_normal ?_
                  refine WP.ret ?_
                  refine block_ret ?_
                  refine block_ret ?_
                  refine then_ret ?_
                  refine then_ret ?_
                  refine block_ret ?_
                  refine then_ret ?_
                  obtain rfl := Option.some.inj hm
                  refine retQ_ret Tryd.results13 (Res.tmp rfl Res.nil) rfl (fun w' s => ⟨s.below, ?_⟩)
                  exact rfl
                · replace hm := ite_f hc10 hm
                  refine WP.seq ?_
                  refine WP.region ?_
                  refine WL.quiet (Runs.free rfl) rfl rfl (OV.quiet (ov_fieldAddr Tryd.underlying79 rfl rfl rfl Tryd.sizeOf3 rfl rfl)) ?_
                  refine WL.quiet (Runs.free rfl) rfl rfl (OV.quiet (ov_load_box (i := 0) Tryd.isAgg3 rfl rfl rfl rfl)) ?_
                  refine WL.quiet (Runs.free rfl) rfl rfl (OV.quiet (ov_fieldAddr Tryd.underlying24 rfl rfl rfl Tryd.sizeOf3 rfl rfl)) ?_
                  refine WL.quiet (Runs.free rfl) rfl rfl (OV.quiet (ov_load_box (i := 1) Tryd.isAgg3 rfl rfl rfl rfl)) ?_
                  obtain ⟨r6, e11, hm⟩ := bind_some hm
                  refine WL.quiet (Runs.free rfl) rfl rfl (oq_con (r := (.bool r6)) Tryd.call38 rfl rfl (fun w' s => ⟨_, (journal_in_con x1.since 0 p_m.cycles  w' H s.hold hG r6 e11)⟩)) ?_
                  refine WL.quiet (Runs.free rfl) rfl rfl (OV.quiet (ov_not rfl rfl)) ?_
                  refine WL.quiet (Runs.free rfl) rfl rfl (OV.quiet (ov_move rfl rfl)) ?_
                  obtain ⟨c4, e12, hm⟩ := bind_some hm
                  refine WL.cut_bool 10 77 (x := c4) ?_ ?_
                  · rcases Bool.eq_false_or_eq_true (!r6) with hc11 | hc11
                    · skip
                      replace hm := ite_t hc11 e12
                      refine WL.idle (Idle.no rfl rfl rfl hc11) rfl rfl ?_
                      refine WL.idle (Idle.no rfl rfl rfl hc11) rfl rfl ?_
                      refine WL.idle (Idle.no rfl rfl rfl hc11) rfl rfl ?_
                      refine WL.idle (Idle.no rfl rfl rfl hc11) rfl rfl ?_
                      refine WL.idle (Idle.no rfl rfl rfl hc11) rfl rfl ?_
                      refine WL.idle (Idle.no rfl rfl rfl hc11) rfl rfl ?_
                      refine WL.idle (Idle.no rfl rfl rfl hc11) rfl rfl ?_
                      refine WL.idle (Idle.no rfl rfl rfl hc11) rfl rfl ?_
                      refine WL.idle (Idle.no rfl rfl rfl hc11) rfl rfl ?_
                      refine WL.quiet (Runs.free rfl) rfl rfl (OV.quiet (ov_pick_true rfl (guard_eq rfl hc11) rfl)) ?_
                      exact WL.nil ⟨Sub.cons' rfl (congrArg Value.bool (Option.some.inj hm)) (Sub.skip rfl (Sub.skip rfl (Sub.skip rfl (Sub.skip rfl (Sub.skip rfl (Sub.skip rfl (Sub.skip rfl (Sub.skip rfl (Sub.skip rfl (Sub.skip rfl (Sub.refl _))))))))))), fun _ s => s⟩
                    · skip
                      replace hm := ite_f hc11 e12
                      refine WL.quiet (Runs.yes rfl rfl rfl hc11) rfl rfl (OV.quiet (ov_fieldAddr Tryd.underlying79 rfl rfl rfl Tryd.sizeOf3 rfl rfl)) ?_
                      refine WL.quiet (Runs.yes rfl rfl rfl hc11) rfl rfl (OV.quiet (ov_load_box (i := 0) Tryd.isAgg3 rfl rfl rfl rfl)) ?_
                      refine WL.quiet (Runs.yes rfl rfl rfl hc11) rfl rfl (OV.quiet (ov_fieldAddr Tryd.underlying24 rfl rfl rfl Tryd.sizeOf3 rfl rfl)) ?_
                      refine WL.quiet (Runs.yes rfl rfl rfl hc11) rfl rfl (OV.quiet (ov_load_box (i := 1) Tryd.isAgg3 rfl rfl rfl rfl)) ?_
                      refine WL.quiet (Runs.yes rfl rfl rfl hc11) rfl rfl (OV.quiet (ov_fieldAddr Tryd.underlying79 rfl rfl rfl Tryd.sizeOf3 rfl rfl)) ?_
                      refine WL.quiet (Runs.yes rfl rfl rfl hc11) rfl rfl (OV.quiet (ov_load_box (i := 0) Tryd.isAgg3 rfl rfl rfl rfl)) ?_
                      refine WL.quiet (Runs.yes rfl rfl rfl hc11) rfl rfl (OV.quiet (ov_sub rfl rfl rfl)) ?_
                      obtain ⟨r7, e13, hm⟩ := bind_some hm
                      refine WL.quiet (Runs.yes rfl rfl rfl hc11) rfl rfl (oq_con (r := (.bool r7)) Tryd.call38 rfl rfl (fun w' s => ⟨_, (journal_in_con x1.cycles 0 (IntKind.wrap .i64 (p_m.cycles - x1.since))  w' H s.hold hG r7 e13)⟩)) ?_
                      refine WL.quiet (Runs.yes rfl rfl rfl hc11) rfl rfl (OV.quiet (ov_not rfl rfl)) ?_
                      refine WL.quiet (Runs.free rfl) rfl rfl (OV.quiet (ov_pick_false rfl (guard_eq rfl hc11) rfl)) ?_
                      exact WL.nil ⟨Sub.cons' rfl (congrArg Value.bool (Option.some.inj hm)) (Sub.skip rfl (Sub.skip rfl (Sub.skip rfl (Sub.skip rfl (Sub.skip rfl (Sub.skip rfl (Sub.skip rfl (Sub.skip rfl (Sub.skip rfl (Sub.skip rfl (Sub.refl _))))))))))), fun _ s => s⟩
                  refine WL.quiet (Runs.free rfl) rfl rfl (OV.quiet (ov_assign rfl rfl)) ?_
                  refine WL.nil ?_
                  refine then_normal ?_
                  refine WP.cond rfl (fun hc12 => ?_) (fun hc12 => ?_)
                  · replace hm := ite_t hc12 hm
                    refine WP.seq ?_
                    refine WP.region ?_
                    refine WL.quiet (Runs.free rfl) rfl rfl (OV.quiet (ov_assign rfl rfl)) ?_
                    refine WL.nil ?_
                    refine then_normal ?_
                    refine WP.ret ?_
                    refine block_ret ?_
                    refine block_ret ?_
                    refine then_ret ?_
                    refine then_ret ?_
                    refine block_ret ?_
                    refine then_ret ?_
                    obtain rfl := Option.some.inj hm
                    refine retQ_ret Tryd.results13 (Res.tmp rfl Res.nil) rfl (fun w' s => ⟨s.below, ?_⟩)
                    exact rfl
                  · replace hm := ite_f hc12 hm
                    refine WP.seq ?_
                    refine WP.region ?_
                    refine WL.quiet (Runs.free rfl) rfl rfl (OV.quiet (ov_fieldAddr Tryd.underlying79 rfl rfl rfl Tryd.sizeOf4 rfl rfl)) ?_
                    refine WL.quiet (Runs.free rfl) rfl rfl (OV.quiet (ov_load_box (i := 0) Tryd.isAgg4 rfl rfl rfl rfl)) ?_
                    refine WL.quiet (Runs.free rfl) rfl rfl (OV.quiet (ov_move rfl rfl)) ?_
                    refine WL.cut_bool 4 85 (x := (x1.faulty && (x1.faults == 0))) ?_ ?_
                    · rcases Bool.eq_false_or_eq_true x1.faulty with hc13 | hc13
                      · skip
                        refine WL.quiet (Runs.yes rfl rfl rfl hc13) rfl rfl (OV.quiet (ov_fieldAddr Tryd.underlying79 rfl rfl rfl Tryd.sizeOf3 rfl rfl)) ?_
                        refine WL.quiet (Runs.yes rfl rfl rfl hc13) rfl rfl (OV.quiet (ov_load_box (i := 0) Tryd.isAgg3 rfl rfl rfl rfl)) ?_
                        refine WL.quiet (Runs.yes rfl rfl rfl hc13) rfl rfl (OV.quiet (ov_eql rfl rfl rfl)) ?_
                        refine WL.quiet (Runs.free rfl) rfl rfl (OV.quiet (ov_pick_true rfl (guard_eq rfl hc13) rfl)) ?_
                        exact WL.nil ⟨Sub.cons' rfl (congrArg Value.bool (by rw [hc13]; rfl)) (Sub.skip rfl (Sub.skip rfl (Sub.skip rfl (Sub.skip rfl (Sub.refl _))))), fun _ s => s⟩
                      · skip
                        refine WL.idle (Idle.no rfl rfl rfl hc13) rfl rfl ?_
                        refine WL.idle (Idle.no rfl rfl rfl hc13) rfl rfl ?_
                        refine WL.idle (Idle.no rfl rfl rfl hc13) rfl rfl ?_
                        refine WL.quiet (Runs.free rfl) rfl rfl (OV.quiet (ov_pick_false rfl (guard_eq rfl hc13) rfl)) ?_
                        exact WL.nil ⟨Sub.cons' rfl (congrArg Value.bool (by rw [hc13]; rfl)) (Sub.skip rfl (Sub.skip rfl (Sub.skip rfl (Sub.skip rfl (Sub.refl _))))), fun _ s => s⟩
                    refine WL.quiet (Runs.free rfl) rfl rfl (OV.quiet (ov_assign rfl rfl)) ?_
                    refine WL.nil ?_
                    refine then_normal ?_
                    refine WP.cond rfl (fun hc14 => ?_) (fun hc14 => ?_)
                    · replace hm := ite_t hc14 hm
                      refine WP.seq ?_
                      refine WP.region ?_
                      refine WL.quiet (Runs.free rfl) rfl rfl (OV.quiet (ov_assign rfl rfl)) ?_
                      refine WL.nil ?_
                      refine then_normal ?_
                      refine WP.ret ?_
                      refine block_ret ?_
                      refine block_ret ?_
                      refine then_ret ?_
                      refine then_ret ?_
                      refine block_ret ?_
                      refine then_ret ?_
                      obtain rfl := Option.some.inj hm
                      refine retQ_ret Tryd.results13 (Res.tmp rfl Res.nil) rfl (fun w' s => ⟨s.below, ?_⟩)
                      exact rfl
                    · replace hm := ite_f hc14 hm
                      refine WP.skip ?_
                      refine block_normal ?_
                      refine block_normal ?_
                      refine then_normal ?_
                      refine WP.region ?_
                      refine WL.quiet (Runs.free rfl) rfl rfl (OV.quiet (ov_add rfl rfl rfl)) ?_
                      refine WL.quiet (Runs.free rfl) rfl rfl (OV.quiet (ov_move rfl rfl)) ?_
                      refine WL.nil ?_
                      refine then_normal ?_
                      exact ⟨(IntKind.wrap .i64 (i1 + 1)), (Sub.cons rfl (Sub.cons rfl (Sub.cons rfl (Sub.cons rfl (Sub.nil _))))), fun w' s => (s.select [1] (by decide) rfl), hm⟩
          · replace hm := ite_f hc4 hm
            refine WP.exit ?_
            refine then_exit ?_
            refine then_exit ?_
            refine block_here ?_
            refine then_normal ?_
            exact ⟨(Sub.nil _), fun w' s => (s.select [] (by decide) rfl), hm⟩
      · rintro g' S' ⟨hsub2, hS2, hm⟩
        refine WP.sub hsub2 (WP.weaken hS2 ?_)
        replace hm := hk1.symm.trans hm
        refine WP.seq ?_
        refine WP.region ?_
        refine WL.quiet (Runs.free rfl) rfl rfl (OV.quiet (ov_assign rfl rfl)) ?_
        refine WL.nil ?_
        refine then_normal ?_
        refine WP.ret ?_
        obtain rfl := Option.some.inj hm
        refine retQ_ret Tryd.results13 (Res.tmp rfl Res.nil) rfl (fun w' s => ⟨s.below, ?_⟩)
        exact rfl

end Go.Proofs.YtpigfknmlmeihaaDoor.W
