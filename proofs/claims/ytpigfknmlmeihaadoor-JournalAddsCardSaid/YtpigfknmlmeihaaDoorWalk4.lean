/- The walks. Written by our own program gen.py; Lean checks it. -/
import Derived.Test.YtpigfknmlmeihaaDoorPlain
import Derived.Test.YtpigfknmlmeihaaDoorEqs
import Derived.Test.YtpigfknmlmeihaaDoorProg
import Derived.Test.YtpigfknmlmeihaaDoorExt
import Derived.Test.YtpigfknmlmeihaaDoorClone
import Derived.Test.YtpigfknmlmeihaaDoorInsert
import Derived.Test.YtpigfknmlmeihaaDoorBuild
import Derived.Test.YtpigfknmlmeihaaDoorWalk3
set_option linter.unusedVariables false
set_option maxRecDepth 100000
set_option maxHeartbeats 4000000
namespace Go.Proofs.YtpigfknmlmeihaaDoor.W
open Go Go.RowKit
theorem ref58_Place_con (p_m : Machine) (p_name : (List UInt8)) (ao1 : Option Addr) (cap1 : Nat) (w : World) (H : Heap) (hH : Le H (hp w)) (h1 : SL H encItem ao1 p_m.items) (hc1 : p_m.items.length ≤ cap1) (hG : Glob H) (r : Int) (hm : ref58_Place p_m p_name = some r) :
    Con Tryd.prog 46 [(.agg #[(.slice ao1 p_m.items.length cap1), (.int .i64 p_m.cycles)]), (mkS p_name)] w H (fun v _ => v = (.int .i64 r)) := by
  unfold ref58_Place at hm
  refine con_of hH Tryd.func46 rfl 22 Tryd.ntmps46 rfl ?_
  refine WP.seq ?_
  refine WP.region ?_
  refine WL.step (Runs.free rfl) rfl rfl (os_box (cs := [(.slice ao1 p_m.items.length cap1), (.int .i64 p_m.cycles)]) rfl rfl rfl (fun b1 => ?_))
  refine WL.quiet (Runs.free rfl) rfl rfl (OV.quiet (ov_assign rfl rfl)) ?_
  refine WL.nil ?_
  refine then_normal ?_
  obtain ⟨k1, hk1, hm⟩ := joinK_some hm
  refine WP.seq_join (fun g' S' => Sub [] g' ∧ (∀ w', S' w' → St w H [] H w') ∧ k1 = some r) ?_ ?_
  · skip
    refine WP.seq ?_
    refine WP.region ?_
    refine WL.quiet (Runs.free rfl) rfl rfl (OV.quiet (ov_assign rfl rfl)) ?_
    refine WL.nil ?_
    refine then_normal ?_
    refine WP.block ?_
    refine WP.loop (fun m1 g' S' => ∃ (i1 : Int), Sub [(1, (mkS p_name)), (2, (pB b1 0)), (5, (.int .i64 i1))] g' ∧ (∀ w', S' w' → St w H [.blk b1 34 [(.slice ao1 p_m.items.length cap1), (.int .i64 p_m.cycles)]] H w') ∧ ref58_Place_loop1 p_m p_name k1 m1 i1 = some r) ((Int.toNat ((p_m.items.length : Int) - 0) + 1)) ⟨0, (Sub.cons rfl (Sub.cons rfl (Sub.cons rfl (Sub.nil _)))), fun w' s => s, hm⟩ ?_ ?_
    · rintro g' S' ⟨_, _, _, hm⟩
      exact none_some hm
    · rintro m1 g' S' ⟨i1, hsub1, hS1, hm⟩
      refine WP.sub hsub1 (WP.weaken hS1 ?_)
      rw [ref58_Place_loop1] at hm
      refine WP.seq ?_
      refine WP.seq ?_
      refine WP.region ?_
      refine WL.quiet (Runs.free rfl) rfl rfl (OV.quiet (ov_move rfl rfl)) ?_
      refine WL.quiet (Runs.free rfl) rfl rfl (OV.quiet (ov_fieldAddr Tryd.underlying34 rfl rfl rfl Tryd.sizeOf32 rfl rfl)) ?_
      refine WL.quiet (Runs.free rfl) rfl rfl (OV.quiet (ov_load_box (i := 0) Tryd.isAgg32 rfl rfl rfl rfl)) ?_
      refine WL.quiet (Runs.free rfl) rfl rfl (OV.quiet (ov_len_slice Tryd.underlying32 rfl rfl)) ?_
      refine WL.quiet (Runs.free rfl) rfl rfl (OV.quiet (ov_lss rfl rfl rfl)) ?_
      refine WL.nil ?_
      refine then_normal ?_
      refine WP.cond rfl (fun hc2 => ?_) (fun hc2 => ?_)
      · replace hm := ite_t hc2 hm
        refine WP.skip ?_
        refine then_normal ?_
        refine WP.seq ?_
        refine WP.block ?_
        refine WP.seq ?_
        refine WP.region ?_
        refine WL.quiet (Runs.free rfl) rfl rfl (OV.quiet (ov_fieldAddr Tryd.underlying34 rfl rfl rfl Tryd.sizeOf32 rfl rfl)) ?_
        refine WL.quiet (Runs.free rfl) rfl rfl (OV.quiet (ov_load_box (i := 0) Tryd.isAgg32 rfl rfl rfl rfl)) ?_
        refine WL.quiet (Runs.free rfl) rfl rfl (OV.quiet (ov_move rfl rfl)) ?_
        obtain ⟨x1, e1, hm⟩ := bind_some hm
        obtain ⟨h2, h3, h4, cs1, h5, h6⟩ := h1.get e1 (by decide)
        obtain rfl : cs1 = [(mkS x1.name), (.int .i64 x1.life), (.int .i64 x1.used), (.int .i64 x1.faults), (.bool x1.faulty), (.int .i64 x1.since), (.int .i64 x1.cycles)] := h5
        refine WL.quiet (Runs.free rfl) rfl rfl (OV.quiet (ov_indexAddr Tryd.underlying32 Tryd.sizeOf80 rfl rfl rfl h2 h3 h4)) ?_
        refine WL.quiet (Runs.free rfl) rfl rfl (OV.quiet (ov_fieldAddrE Tryd.underlying80 rfl rfl rfl Tryd.sizeOf9 rfl rfl)) ?_
        refine WL.quiet (Runs.free rfl) rfl rfl (OV.quiet (ov_load_elem (v := (mkS x1.name)) Tryd.isAgg9 rfl rfl (h6.one (off := 0) rfl))) ?_
        refine WL.quiet (Runs.free rfl) rfl rfl (OV.quiet (ov_move rfl rfl)) ?_
        refine WL.quiet (Runs.free rfl) rfl rfl (OV.quiet (ov_seql rfl rfl rfl)) ?_
        refine WL.nil ?_
        refine then_normal ?_
        refine WP.cond rfl (fun hc3 => ?_) (fun hc3 => ?_)
        · replace hm := ite_t hc3 hm
          refine WP.seq ?_
          refine WP.region ?_
          refine WL.quiet (Runs.free rfl) rfl rfl (OV.quiet (ov_move rfl rfl)) ?_
          refine WL.quiet (Runs.free rfl) rfl rfl (OV.quiet (ov_assign rfl rfl)) ?_
          refine WL.nil ?_
          refine then_normal ?_
          refine WP.ret ?_
          refine block_ret ?_
          refine then_ret ?_
          refine then_ret ?_
          refine block_ret ?_
          refine then_ret ?_
          obtain rfl := Option.some.inj hm
          refine retQ_ret Tryd.results46 (Res.tmp rfl Res.nil) rfl (fun w' s => ⟨s.below, ?_⟩)
          exact rfl
        · replace hm := ite_f hc3 hm
          refine WP.skip ?_
          refine block_normal ?_
          refine then_normal ?_
          refine WP.region ?_
          refine WL.quiet (Runs.free rfl) rfl rfl (OV.quiet (ov_move rfl rfl)) ?_
          refine WL.quiet (Runs.free rfl) rfl rfl (OV.quiet (ov_add rfl rfl rfl)) ?_
          refine WL.quiet (Runs.free rfl) rfl rfl (OV.quiet (ov_assign rfl rfl)) ?_
          refine WL.nil ?_
          refine then_normal ?_
          exact ⟨(IntKind.wrap .i64 (i1 + 1)), (Sub.cons rfl (Sub.cons rfl (Sub.cons rfl (Sub.nil _)))), fun w' s => s, hm⟩
      · replace hm := ite_f hc2 hm
        refine WP.exit ?_
        refine then_exit ?_
        refine then_exit ?_
        refine block_here ?_
        refine then_normal ?_
        exact ⟨(Sub.nil _), fun w' s => (s.select [] (by decide) rfl), hm⟩
  · rintro g' S' ⟨hsub2, hS2, hm⟩
    refine WP.sub hsub2 (WP.weaken hS2 ?_)
    replace hm := hk1.symm.trans hm
    refine WP.seq ?_
    refine WP.region ?_
    refine WL.quiet (Runs.free rfl) rfl rfl (OV.quiet (ov_assign rfl rfl)) ?_
    refine WL.nil ?_
    refine then_normal ?_
    refine WP.ret ?_
    obtain rfl := Option.some.inj hm
    refine retQ_ret Tryd.results46 (Res.tmp rfl Res.nil) rfl (fun w' s => ⟨s.below, ?_⟩)
    exact rfl

theorem ref58_added_con (p_m : Machine) (p_x : Entry) (ao1 : Option Addr) (cap1 : Nat) (w : World) (H : Heap) (hH : Le H (hp w)) (h1 : SL H encItem ao1 p_m.items) (hc1 : p_m.items.length ≤ cap1) (hG : Glob H) (r : (Machine × Int)) (hm : ref58_added p_m p_x = some r) :
    Con Tryd.prog 56 [(.agg #[(.slice ao1 p_m.items.length cap1), (.int .i64 p_m.cycles)]), (.agg #[(.int .i64 p_x.kind), (mkS p_x.name), (.int .i64 p_x.count), (.int .i64 p_x.strokes)])] w H (fun v H' => ∃ (ao2 : Option Addr) (cap2 : Nat), v = (.tuple #[(.agg #[(.slice ao2 r.1.items.length cap2), (.int .i64 r.1.cycles)]), (.int .i64 r.2)]) ∧ SL H' encItem ao2 r.1.items ∧ r.1.items.length ≤ cap2) := by
  unfold ref58_added at hm
  refine con_of hH Tryd.func56 rfl 80 Tryd.ntmps56 rfl ?_
  refine WP.seq ?_
  refine WP.region ?_
  refine WL.step (Runs.free rfl) rfl rfl (os_box (cs := [(.slice ao1 p_m.items.length cap1), (.int .i64 p_m.cycles)]) rfl rfl rfl (fun b1 => ?_))
  refine WL.step (Runs.free rfl) rfl rfl (os_box (cs := [(.int .i64 p_x.kind), (mkS p_x.name), (.int .i64 p_x.count), (.int .i64 p_x.strokes)]) rfl rfl rfl (fun b2 => ?_))
  refine WL.step (Runs.free rfl) rfl rfl (os_alloc (cs := [(.slice none 0 0), (.int .i64 0)]) Tryd.zeroValue34 rfl rfl (fun b3 => ?_))
  refine WL.quiet (Runs.free rfl) rfl rfl (OV.quiet (ov_assign rfl rfl)) ?_
  refine WL.nil ?_
  refine then_normal ?_
  refine WP.seq ?_
  refine WP.seq ?_
  refine WP.region ?_
  refine WL.quiet (Runs.free rfl) rfl rfl (OV.quiet (ov_load_whole (i := 2) Tryd.isAgg34 Tryd.sizeOf34 rfl rfl rfl rfl)) ?_
  refine WL.quiet (Runs.free rfl) rfl rfl (OV.quiet (ov_fieldAddr Tryd.underlying38 rfl rfl rfl Tryd.sizeOf9 rfl rfl)) ?_
  refine WL.quiet (Runs.free rfl) rfl rfl (OV.quiet (ov_load_box (i := 1) Tryd.isAgg9 rfl rfl rfl rfl)) ?_
  obtain ⟨r1, e1, hm⟩ := bind_some hm
  refine WL.quiet (Runs.free rfl) rfl rfl (oq_con (r := (.int .i64 r1)) Tryd.call46 rfl rfl (fun w' s => ⟨_, (ref58_Place_con p_m p_x.name ao1 cap1  w' H s.hold h1 hc1 hG r1 e1)⟩)) ?_
  refine WL.quiet (Runs.free rfl) rfl rfl (OV.quiet (ov_geq rfl rfl rfl)) ?_
  refine WL.nil ?_
  refine then_normal ?_
  refine WP.cond rfl (fun hc3 => ?_) (fun hc3 => ?_)
  · replace hm := ite_t hc3 hm
    refine WP.seq ?_
    refine WP.region ?_
    refine WL.quiet (Runs.free rfl) rfl rfl (OV.quiet (ov_build (r := (.agg #[(.slice none 0 0), (.int .i64 0)])) rfl rfl (fun _ => by kernel_rfl))) ?_
    refine WL.step0 (Runs.free rfl) rfl (os_store (i := 0) (vs := [(.slice none 0 0), (.int .i64 0)]) (cs' := [(.slice none 0 0), (.int .i64 0)]) Tryd.sizeOf34 rfl rfl rfl rfl rfl rfl rfl rfl rfl ?_)
    refine WL.quiet (Runs.free rfl) rfl rfl (OV.quiet (ov_assign rfl rfl)) ?_
    refine WL.nil ?_
    refine then_normal ?_
    refine WP.ret ?_
    refine then_ret ?_
    obtain rfl := Option.some.inj hm
    refine retQ_ret Tryd.results56 (Res.cell rfl (box_loads (i := 0) Tryd.isAgg34 Tryd.sizeOf34 rfl rfl) (Res.tmp rfl Res.nil)) rfl (fun w' s => ⟨s.below, ?_⟩)
    exact ⟨none, 0, rfl, SL.nil _ _ _, Nat.le_refl _⟩
  · replace hm := ite_f hc3 hm
    refine WP.skip ?_
    refine then_normal ?_
    refine WP.seq ?_
    refine WP.seq ?_
    refine WP.region ?_
    refine WL.quiet (Runs.free rfl) rfl rfl (OV.quiet (ov_fieldAddr Tryd.underlying34 rfl rfl rfl Tryd.sizeOf32 rfl rfl)) ?_
    refine WL.quiet (Runs.free rfl) rfl rfl (OV.quiet (ov_load_box (i := 2) Tryd.isAgg32 rfl rfl rfl rfl)) ?_
    refine WL.quiet (Runs.free rfl) rfl rfl (OV.quiet (ov_len_slice Tryd.underlying32 rfl rfl)) ?_
    refine WL.quiet (Runs.free rfl) rfl rfl (OV.quiet (ov_eql rfl rfl rfl)) ?_
    refine WL.nil ?_
    refine then_normal ?_
    refine WP.cond rfl (fun hc4 => ?_) (fun hc4 => ?_)
    · replace hm := ite_t hc4 hm
      refine WP.seq ?_
      refine WP.region ?_
      refine WL.quiet (Runs.free rfl) rfl rfl (OV.quiet (ov_build (r := (.agg #[(.slice none 0 0), (.int .i64 0)])) rfl rfl (fun _ => by kernel_rfl))) ?_
      refine WL.step0 (Runs.free rfl) rfl (os_store (i := 0) (vs := [(.slice none 0 0), (.int .i64 0)]) (cs' := [(.slice none 0 0), (.int .i64 0)]) Tryd.sizeOf34 rfl rfl rfl rfl rfl rfl rfl rfl rfl ?_)
      refine WL.quiet (Runs.free rfl) rfl rfl (OV.quiet (ov_assign rfl rfl)) ?_
      refine WL.nil ?_
      refine then_normal ?_
      refine WP.ret ?_
      refine then_ret ?_
      obtain rfl := Option.some.inj hm
      refine retQ_ret Tryd.results56 (Res.cell rfl (box_loads (i := 0) Tryd.isAgg34 Tryd.sizeOf34 rfl rfl) (Res.tmp rfl Res.nil)) rfl (fun w' s => ⟨s.below, ?_⟩)
      exact ⟨none, 0, rfl, SL.nil _ _ _, Nat.le_refl _⟩
    · replace hm := ite_f hc4 hm
      refine WP.skip ?_
      refine then_normal ?_
      refine WP.seq ?_
      refine WP.region ?_
      refine WL.quiet (Runs.free rfl) rfl rfl (OV.quiet (ov_fieldAddr Tryd.underlying34 rfl rfl rfl Tryd.sizeOf3 rfl rfl)) ?_
      refine WL.quiet (Runs.free rfl) rfl rfl (OV.quiet (ov_load_box (i := 2) Tryd.isAgg3 rfl rfl rfl rfl)) ?_
      refine WL.quiet (Runs.free rfl) rfl rfl (OV.quiet (ov_build (r := (.agg #[(.slice none 0 0), (.int .i64 p_m.cycles)])) rfl rfl (fun _ => by kernel_rfl))) ?_
      refine WL.step (Runs.free rfl) rfl rfl (os_alloc (cs := [(.slice none 0 0), (.int .i64 0)]) Tryd.zeroValue34 rfl rfl (fun b4 => ?_))
      refine WL.step0 (Runs.free rfl) rfl (os_store (i := 0) (vs := [(.slice none 0 0), (.int .i64 p_m.cycles)]) (cs' := [(.slice none 0 0), (.int .i64 p_m.cycles)]) Tryd.sizeOf34 rfl rfl rfl rfl rfl rfl rfl rfl rfl ?_)
      refine WL.nil ?_
      refine then_normal ?_
      refine WP.seq ?_
      refine WP.region ?_
      refine WL.quiet (Runs.free rfl) rfl rfl (OV.quiet (ov_assign rfl rfl)) ?_
      refine WL.nil ?_
      refine then_normal ?_
      obtain ⟨k1, hk1, hm⟩ := joinK_some hm
      refine WP.seq_join (fun g' S' => ∃ (c4 : Bool) (l6 : (List Item)) (ao8 : Option Addr) (cap8 : Nat) (xs3 : List Value), RL H encItem l6 xs3 ∧ Sub [(2, (pB b1 0)), (3, (pB b2 0)), (4, (pB b3 0)), (6, (pB b4 0)), (7, (.bool c4))] g' ∧ (∀ w', S' w' → St w H [.row 80 (encItem).size l6.length (.slice ao8 l6.length cap8) xs3, .blk b4 34 [(.slice ao8 l6.length cap8), (.int .i64 p_m.cycles)], .blk b3 34 [(.slice none 0 0), (.int .i64 0)], .blk b2 38 [(.int .i64 p_x.kind), (mkS p_x.name), (.int .i64 p_x.count), (.int .i64 p_x.strokes)], .blk b1 34 [(.slice ao1 p_m.items.length cap1), (.int .i64 p_m.cycles)]] H w') ∧ k1 c4 l6 = some r) ?_ ?_
      · skip
        refine WP.seq ?_
        refine WP.region ?_
        refine WL.quiet (Runs.free rfl) rfl rfl (OV.quiet (ov_assign rfl rfl)) ?_
        refine WL.nil ?_
        refine then_normal ?_
        refine WP.block ?_
        have rl1 := RL.nil (α := Item) H encItem
        refine WP.weaken (fun _ s => s.nilrow 80 (encItem).size) ?_
        refine WP.loop (fun m1 g' S' => ∃ (c1 : Bool) (i1 : Int) (l1 : (List Item)) (ao3 : Option Addr) (cap3 : Nat) (xs1 : List Value), RL H encItem l1 xs1 ∧ Sub [(2, (pB b1 0)), (3, (pB b2 0)), (4, (pB b3 0)), (6, (pB b4 0)), (7, (.bool c1)), (8, (.int .i64 i1))] g' ∧ (∀ w', S' w' → St w H [.row 80 (encItem).size l1.length (.slice ao3 l1.length cap3) xs1, .blk b4 34 [(.slice ao3 l1.length cap3), (.int .i64 p_m.cycles)], .blk b3 34 [(.slice none 0 0), (.int .i64 0)], .blk b2 38 [(.int .i64 p_x.kind), (mkS p_x.name), (.int .i64 p_x.count), (.int .i64 p_x.strokes)], .blk b1 34 [(.slice ao1 p_m.items.length cap1), (.int .i64 p_m.cycles)]] H w') ∧ ref58_added_loop1 p_m p_x k1 m1 c1 i1 l1 = some r) ((Int.toNat ((p_m.items.length : Int) - 0) + 1)) ⟨false, 0, ([] : List Item), none, 0, [], rl1, (Sub.cons rfl (Sub.cons rfl (Sub.cons rfl (Sub.cons rfl (Sub.cons rfl (Sub.cons rfl (Sub.nil _))))))), fun w' s => s, hm⟩ ?_ ?_
        · rintro g' S' ⟨_, _, _, _, _, _, _, _, _, hm⟩
          exact none_some hm
        · rintro m1 g' S' ⟨c1, i1, l1, ao3, cap3, xs1, rl2, hsub1, hS1, hm⟩
          refine WP.sub hsub1 (WP.weaken hS1 ?_)
          rw [ref58_added_loop1] at hm
          refine WP.seq ?_
          refine WP.seq ?_
          refine WP.region ?_
          refine WL.quiet (Runs.free rfl) rfl rfl (OV.quiet (ov_move rfl rfl)) ?_
          refine WL.quiet (Runs.free rfl) rfl rfl (OV.quiet (ov_fieldAddr Tryd.underlying34 rfl rfl rfl Tryd.sizeOf32 rfl rfl)) ?_
          refine WL.quiet (Runs.free rfl) rfl rfl (OV.quiet (ov_load_box (i := 4) Tryd.isAgg32 rfl rfl rfl rfl)) ?_
          refine WL.quiet (Runs.free rfl) rfl rfl (OV.quiet (ov_len_slice Tryd.underlying32 rfl rfl)) ?_
          refine WL.quiet (Runs.free rfl) rfl rfl (OV.quiet (ov_lss rfl rfl rfl)) ?_
          refine WL.nil ?_
          refine then_normal ?_
          refine WP.cond rfl (fun hc5 => ?_) (fun hc5 => ?_)
          · replace hm := ite_t hc5 hm
            refine WP.skip ?_
            refine then_normal ?_
            refine WP.seq ?_
            refine WP.block ?_
            obtain ⟨k2, hk2, hm⟩ := joinK_some hm
            refine WP.seq_join (fun g' S' => ∃ (c3 : Bool) (l3 : (List Item)) (ao5 : Option Addr) (cap5 : Nat) (xs2 : List Value), RL H encItem l3 xs2 ∧ Sub [(2, (pB b1 0)), (3, (pB b2 0)), (4, (pB b3 0)), (6, (pB b4 0)), (7, (.bool c3)), (8, (.int .i64 i1))] g' ∧ (∀ w', S' w' → St w H [.row 80 (encItem).size l3.length (.slice ao5 l3.length cap5) xs2, .blk b4 34 [(.slice ao5 l3.length cap5), (.int .i64 p_m.cycles)], .blk b3 34 [(.slice none 0 0), (.int .i64 0)], .blk b2 38 [(.int .i64 p_x.kind), (mkS p_x.name), (.int .i64 p_x.count), (.int .i64 p_x.strokes)], .blk b1 34 [(.slice ao1 p_m.items.length cap1), (.int .i64 p_m.cycles)]] H w') ∧ k2 c3 l3 = some r) ?_ ?_
            · skip
              refine WP.seq ?_
              refine WP.region_draws (by kernel_rfl) (by kernel_rfl) (fun _ s => s.drew) ?_
              refine QL.quiet (Runs.free rfl) rfl rfl (OV.quiet (ov_move rfl rfl)) ?_
              refine QL.quiet (Runs.free rfl) rfl rfl (OV.quiet (ov_not rfl rfl)) ?_
              refine QL.quiet (Runs.free rfl) rfl rfl (OV.quiet (ov_move rfl rfl)) ?_
              obtain ⟨c2, e2, hm⟩ := bind_some hm
              refine QL.part_bool 10 42 (x := c2) ?_ ?_
              · rcases Bool.eq_false_or_eq_true (!c1) with hc6 | hc6
                · skip
                  replace hm := ite_t hc6 e2
                  refine QL.quiet (Runs.yes rfl rfl rfl hc6) rfl rfl (OV.quiet (ov_fieldAddr Tryd.underlying34 rfl rfl rfl Tryd.sizeOf32 rfl rfl)) ?_
                  refine QL.quiet (Runs.yes rfl rfl rfl hc6) rfl rfl (OV.quiet (ov_load_box (i := 4) Tryd.isAgg32 rfl rfl rfl rfl)) ?_
                  refine QL.quiet (Runs.yes rfl rfl rfl hc6) rfl rfl (OV.quiet (ov_move rfl rfl)) ?_
                  obtain ⟨x1, e3, hm⟩ := bind_some hm
                  obtain ⟨h3, h4, h5, cs1, h6, h7⟩ := h1.get e3 (by decide)
                  obtain rfl : cs1 = [(mkS x1.name), (.int .i64 x1.life), (.int .i64 x1.used), (.int .i64 x1.faults), (.bool x1.faulty), (.int .i64 x1.since), (.int .i64 x1.cycles)] := h6
                  refine QL.quiet (Runs.yes rfl rfl rfl hc6) rfl rfl (OV.quiet (ov_indexAddr Tryd.underlying32 Tryd.sizeOf80 rfl rfl rfl h3 h4 h5)) ?_
                  refine QL.quiet (Runs.yes rfl rfl rfl hc6) rfl rfl (OV.quiet (ov_fieldAddrE Tryd.underlying80 rfl rfl rfl Tryd.sizeOf9 rfl rfl)) ?_
                  refine QL.quiet (Runs.yes rfl rfl rfl hc6) rfl rfl (OV.quiet (ov_load_elem (v := (mkS x1.name)) Tryd.isAgg9 rfl rfl (h7.one (off := 0) rfl))) ?_
                  refine QL.quiet (Runs.yes rfl rfl rfl hc6) rfl rfl (OV.quiet (ov_fieldAddr Tryd.underlying38 rfl rfl rfl Tryd.sizeOf9 rfl rfl)) ?_
                  refine QL.quiet (Runs.yes rfl rfl rfl hc6) rfl rfl (OV.quiet (ov_load_box (i := 3) Tryd.isAgg9 rfl rfl rfl rfl)) ?_
                  refine QL.quiet (Runs.yes rfl rfl rfl hc6) rfl rfl (OV.quiet (ov_sgtr rfl rfl rfl)) ?_
                  refine QL.quiet (Runs.free rfl) rfl rfl (OV.quiet (ov_pick_true rfl (guard_eq rfl hc6) rfl)) ?_
                  exact QL.nil (Sub.cons' rfl (congrArg Value.bool (Option.some.inj hm)) (Sub.skip rfl (Sub.skip rfl (Sub.skip rfl (Sub.skip rfl (Sub.skip rfl (Sub.skip rfl (Sub.skip rfl (Sub.skip rfl (Sub.skip rfl (Sub.skip rfl (Sub.refl _))))))))))))
                · skip
                  replace hm := ite_f hc6 e2
                  refine QL.idle (Idle.no rfl rfl rfl hc6) rfl rfl ?_
                  refine QL.idle (Idle.no rfl rfl rfl hc6) rfl rfl ?_
                  refine QL.idle (Idle.no rfl rfl rfl hc6) rfl rfl ?_
                  refine QL.idle (Idle.no rfl rfl rfl hc6) rfl rfl ?_
                  refine QL.idle (Idle.no rfl rfl rfl hc6) rfl rfl ?_
                  refine QL.idle (Idle.no rfl rfl rfl hc6) rfl rfl ?_
                  refine QL.idle (Idle.no rfl rfl rfl hc6) rfl rfl ?_
                  refine QL.idle (Idle.no rfl rfl rfl hc6) rfl rfl ?_
                  refine QL.idle (Idle.no rfl rfl rfl hc6) rfl rfl ?_
                  refine QL.quiet (Runs.free rfl) rfl rfl (OV.quiet (ov_pick_false rfl (guard_eq rfl hc6) rfl)) ?_
                  exact QL.nil (Sub.cons' rfl (congrArg Value.bool (Option.some.inj hm)) (Sub.skip rfl (Sub.skip rfl (Sub.skip rfl (Sub.skip rfl (Sub.skip rfl (Sub.skip rfl (Sub.skip rfl (Sub.skip rfl (Sub.skip rfl (Sub.skip rfl (Sub.refl _))))))))))))
              refine QL.nil ?_
              refine then_normal ?_
              refine WP.cond rfl (fun hc7 => ?_) (fun hc7 => ?_)
              · replace hm := ite_t hc7 hm
                refine WP.seq ?_
                refine WP.region ?_
                refine WL.quiet (Runs.free rfl) rfl rfl (OV.quiet (ov_fieldAddr Tryd.underlying34 rfl rfl rfl Tryd.sizeOf32 rfl rfl)) ?_
                refine WL.quiet (Runs.free rfl) rfl rfl (OV.quiet (ov_load_box (i := 1) Tryd.isAgg32 rfl rfl rfl rfl)) ?_
                refine WL.quiet (Runs.free rfl) rfl rfl (OV.quiet (ov_fieldAddr Tryd.underlying38 rfl rfl rfl Tryd.sizeOf9 rfl rfl)) ?_
                refine WL.quiet (Runs.free rfl) rfl rfl (OV.quiet (ov_load_box (i := 3) Tryd.isAgg9 rfl rfl rfl rfl)) ?_
                refine WL.quiet (Runs.free rfl) rfl rfl (OV.quiet (ov_fieldAddr Tryd.underlying38 rfl rfl rfl Tryd.sizeOf3 rfl rfl)) ?_
                refine WL.quiet (Runs.free rfl) rfl rfl (OV.quiet (ov_load_box (i := 3) Tryd.isAgg3 rfl rfl rfl rfl)) ?_
                refine WL.quiet (Runs.free rfl) rfl rfl (OV.quiet (ov_fieldAddr Tryd.underlying34 rfl rfl rfl Tryd.sizeOf3 rfl rfl)) ?_
                refine WL.quiet (Runs.free rfl) rfl rfl (OV.quiet (ov_load_box (i := 4) Tryd.isAgg3 rfl rfl rfl rfl)) ?_
                refine WL.quiet (Runs.free rfl) rfl rfl (OV.quiet (ov_build (r := (.agg #[(mkS p_x.name), (.int .i64 p_x.count), (.int .i64 0), (.int .i64 0), (.bool false), (.int .i64 p_m.cycles), (.int .i64 0)])) rfl rfl (fun _ => by kernel_rfl))) ?_
                have rl3 : RL H encItem ([(Item.mk p_x.name p_x.count 0 0 false p_m.cycles 0)] : List Item) [(mkS p_x.name), (.int .i64 p_x.count), (.int .i64 0), (.int .i64 0), (.bool false), (.int .i64 p_m.cycles), (.int .i64 0)] := RL.cons (cs := [(mkS p_x.name), (.int .i64 p_x.count), (.int .i64 0), (.int .i64 0), (.bool false), (.int .i64 p_m.cycles), (.int .i64 0)]) (xs := []) rfl (RL.nil _ _)
                refine WL.step (Runs.free rfl) rfl rfl (os_buildSlice (cs := [(mkS p_x.name), (.int .i64 p_x.count), (.int .i64 0), (.int .i64 0), (.bool false), (.int .i64 p_m.cycles), (.int .i64 0)]) (E := 80) (sz := 7) rfl rfl (fun _ => by kernel_rfl) rfl (by decide) (fun b5 => ?_))
                obtain ⟨l2, e4, hm⟩ := bind_some hm
                refine WL.step (Runs.free rfl) rfl rfl (os_app (i := 1) (j := 0) (En := encItem) (xs := xs1) (ys := [(mkS p_x.name), (.int .i64 p_x.count), (.int .i64 0), (.int .i64 0), (.bool false), (.int .i64 p_m.cycles), (.int .i64 0)]) Tryd.underlying32 (by kernel_rfl : (Tryd.prog.info? 80).map (fun i => (i.zero, i.size, i.bytes)) = some (some (.agg #[(mkS []), (.int .i64 0), (.int .i64 0), (.int .i64 0), (.bool false), (.int .i64 0), (.int .i64 0)]), (encItem).size, 64)) rfl (by decide) rfl rfl rfl rfl rfl rfl rl2 rl3 e4 (fun ao4 cap4 rl4 => ?_))
                refine WL.quiet (Runs.free rfl) rfl rfl (OV.quiet (ov_fieldAddr Tryd.underlying34 rfl rfl rfl Tryd.sizeOf32 rfl rfl)) ?_
                refine WL.step0 (Runs.free rfl) rfl (os_store (i := 2) (vs := [(.slice ao4 (l1 ++ ([(Item.mk p_x.name p_x.count 0 0 false p_m.cycles 0)] : List Item)).length cap4)]) (cs' := [(.slice ao4 (l1 ++ ([(Item.mk p_x.name p_x.count 0 0 false p_m.cycles 0)] : List Item)).length cap4), (.int .i64 p_m.cycles)]) Tryd.sizeOf32 rfl rfl rfl rfl rfl rfl rfl rfl rfl ?_)
                refine WL.nil ?_
                refine then_normal ?_
                refine WP.region ?_
                refine WL.quiet (Runs.free rfl) rfl rfl (OV.quiet (ov_assign rfl rfl)) ?_
                refine WL.nil ?_
                refine then_normal ?_
                exact ⟨true, (l1 ++ ([(Item.mk p_x.name p_x.count 0 0 false p_m.cycles 0)] : List Item)), ao4, cap4, (xs1 ++ [(mkS p_x.name), (.int .i64 p_x.count), (.int .i64 0), (.int .i64 0), (.bool false), (.int .i64 p_m.cycles), (.int .i64 0)]), rl4, (Sub.cons rfl (Sub.cons rfl (Sub.cons rfl (Sub.cons rfl (Sub.cons rfl (Sub.cons rfl (Sub.nil _))))))), fun w' s => (s.select [1, 2, 3, 4, 5] (by decide) rfl), hm⟩
              · replace hm := ite_f hc7 hm
                refine WP.skip ?_
                refine then_normal ?_
                exact ⟨c1, l1, ao3, cap3, xs1, rl2, (Sub.cons rfl (Sub.cons rfl (Sub.cons rfl (Sub.cons rfl (Sub.cons rfl (Sub.cons rfl (Sub.nil _))))))), fun w' s => s, hm⟩
            · rintro g' S' ⟨c3, l3, ao5, cap5, xs2, rl5, hsub2, hS2, hm⟩
              refine WP.sub hsub2 (WP.weaken hS2 ?_)
              replace hm := (congrFun (congrFun hk2 c3) l3).symm.trans hm
              refine WP.region_any (S₀ := St w H [.blk b3 34 [(.slice none 0 0), (.int .i64 0)], .blk b2 38 [(.int .i64 p_x.kind), (mkS p_x.name), (.int .i64 p_x.count), (.int .i64 p_x.strokes)], .blk b1 34 [(.slice ao1 p_m.items.length cap1), (.int .i64 p_m.cycles)]] H) 11 rfl (by kernel_rfl) (fun w' s => (s.select [2, 3, 4] (by decide) rfl)) (fun _ s => s.drew) ?_
              refine AL.take (i := 0) rfl (by kernel_rfl) (by kernel_rfl) (by kernel_rfl) (Runs.free rfl) rfl rfl (ov_fieldAddr Tryd.underlying34 rfl rfl rfl Tryd.sizeOf32 rfl rfl) ?_
              refine AL.take (i := 2) rfl (by kernel_rfl) (by kernel_rfl) (by kernel_rfl) (Runs.free rfl) rfl rfl (ov_fieldAddr Tryd.underlying34 rfl rfl rfl Tryd.sizeOf32 rfl rfl) ?_
              refine AL.take (i := 3) rfl (by kernel_rfl) (by kernel_rfl) (by kernel_rfl) (Runs.free rfl) rfl rfl (ov_load_box (i := 2) Tryd.isAgg32 rfl rfl rfl rfl) ?_
              refine AL.take (i := 4) rfl (by kernel_rfl) (by kernel_rfl) (by kernel_rfl) (Runs.free rfl) rfl rfl (ov_move rfl rfl) ?_
              obtain ⟨x2, e5, hm⟩ := bind_some hm
              obtain ⟨h8, h9, h10, cs2, h11, h12⟩ := h1.get e5 (by decide)
              obtain rfl : cs2 = [(mkS x2.name), (.int .i64 x2.life), (.int .i64 x2.used), (.int .i64 x2.faults), (.bool x2.faulty), (.int .i64 x2.since), (.int .i64 x2.cycles)] := h11
              refine AL.take (i := 5) rfl (by kernel_rfl) (by kernel_rfl) (by kernel_rfl) (Runs.free rfl) rfl rfl (ov_indexAddr Tryd.underlying32 Tryd.sizeOf80 rfl rfl rfl h8 h9 h10) ?_
              refine AL.take (i := 6) rfl (by kernel_rfl) (by kernel_rfl) (by kernel_rfl) (Runs.free rfl) rfl rfl (ov_load_elems (vs := [(mkS x2.name), (.int .i64 x2.life), (.int .i64 x2.used), (.int .i64 x2.faults), (.bool x2.faulty), (.int .i64 x2.since), (.int .i64 x2.cycles)]) Tryd.isAgg80 Tryd.sizeOf80 rfl rfl rfl h12 h10) ?_
              refine AL.any (rs := [1, 7]) (by kernel_rfl) (by decide) ?_
              refine ALs.cons (i := 1) rfl (Runs.free rfl) rfl rfl ?_ ?_
              · skip
                refine OQ.step (OV.quiet (ov_load_box (i := 1) Tryd.isAgg32 rfl rfl rfl rfl)) ?_
                refine ⟨fun w' s => (s.select [2, 3, 4] (by decide) rfl), ?_⟩
                refine AL.any (rs := [7]) (by kernel_rfl) (by decide) ?_
                refine ALs.cons (i := 7) rfl (Runs.free rfl) rfl rfl ?_ ?_
                · skip
                  have rl6 : RL H encItem ([x2] : List Item) [(mkS x2.name), (.int .i64 x2.life), (.int .i64 x2.used), (.int .i64 x2.faults), (.bool x2.faulty), (.int .i64 x2.since), (.int .i64 x2.cycles)] := RL.cons (cs := [(mkS x2.name), (.int .i64 x2.life), (.int .i64 x2.used), (.int .i64 x2.faults), (.bool x2.faulty), (.int .i64 x2.since), (.int .i64 x2.cycles)]) (xs := []) rfl (RL.nil _ _)
                  refine os_buildSlice (cs := [(mkS x2.name), (.int .i64 x2.life), (.int .i64 x2.used), (.int .i64 x2.faults), (.bool x2.faulty), (.int .i64 x2.since), (.int .i64 x2.cycles)]) (E := 80) (sz := 7) rfl rfl (fun _ => by kernel_rfl) rfl (by decide) (fun b6 => ?_)
                  refine ⟨fun w' s => (s.select [3, 4, 5] (by decide) rfl), ?_⟩
                  refine AL.any (rs := [8]) (by kernel_rfl) (by decide) ?_
                  refine ALs.cons (i := 8) rfl (Runs.free rfl) rfl rfl ?_ ?_
                  · skip
                    obtain ⟨l4, e6, hm⟩ := bind_some hm
                    refine os_app (i := 1) (j := 0) (En := encItem) (xs := xs2) (ys := [(mkS x2.name), (.int .i64 x2.life), (.int .i64 x2.used), (.int .i64 x2.faults), (.bool x2.faulty), (.int .i64 x2.since), (.int .i64 x2.cycles)]) Tryd.underlying32 (by kernel_rfl : (Tryd.prog.info? 80).map (fun i => (i.zero, i.size, i.bytes)) = some (some (.agg #[(mkS []), (.int .i64 0), (.int .i64 0), (.int .i64 0), (.bool false), (.int .i64 0), (.int .i64 0)]), (encItem).size, 64)) rfl (by decide) rfl rfl rfl rfl rfl rfl rl5 rl6 e6 (fun ao6 cap6 rl7 => ?_)
                    refine ⟨fun w' s => (s.select [3, 4, 5] (by decide) rfl), ?_⟩
                    refine AL.take (i := 9) rfl (by kernel_rfl) (by kernel_rfl) (by kernel_rfl) (Runs.free rfl) rfl rfl (ov_fieldAddr Tryd.underlying34 rfl rfl rfl Tryd.sizeOf32 rfl rfl) ?_
                    refine AL.any (rs := [10]) (by kernel_rfl) (by decide) ?_
                    refine ALs.cons0 (i := 10) rfl (Runs.free rfl) rfl ?_ ?_
                    · skip
                      refine os_store (i := 2) (vs := [(.slice ao6 (l3 ++ ([x2] : List Item)).length cap6)]) (cs' := [(.slice ao6 (l3 ++ ([x2] : List Item)).length cap6), (.int .i64 p_m.cycles)]) Tryd.sizeOf32 rfl rfl rfl rfl rfl rfl rfl rfl rfl ?_
                      refine ⟨fun w' s => (s.select [3, 4, 5] (by decide) rfl), ?_⟩
                      refine AL.done (by kernel_rfl) ?_
                      refine block_normal ?_
                      refine then_normal ?_
                      refine WP.region ?_
                      refine WL.quiet (Runs.free rfl) rfl rfl (OV.quiet (ov_move rfl rfl)) ?_
                      refine WL.quiet (Runs.free rfl) rfl rfl (OV.quiet (ov_add rfl rfl rfl)) ?_
                      refine WL.quiet (Runs.free rfl) rfl rfl (OV.quiet (ov_assign rfl rfl)) ?_
                      refine WL.nil ?_
                      refine then_normal ?_
                      exact ⟨c3, (IntKind.wrap .i64 (i1 + 1)), (l3 ++ ([x2] : List Item)), ao6, cap6, (xs2 ++ [(mkS x2.name), (.int .i64 x2.life), (.int .i64 x2.used), (.int .i64 x2.faults), (.bool x2.faulty), (.int .i64 x2.since), (.int .i64 x2.cycles)]), rl7, (Sub.cons rfl (Sub.cons rfl (Sub.cons rfl (Sub.cons rfl (Sub.cons rfl (Sub.cons rfl (Sub.nil _))))))), fun w' s => (s.select [1, 2, 3, 4, 5] (by decide) rfl), hm⟩
                    exact ALs.nil
                  exact ALs.nil
                exact ALs.nil
              refine ALs.cons (i := 7) rfl (Runs.free rfl) rfl rfl ?_ ?_
              · skip
                have rl8 : RL H encItem ([x2] : List Item) [(mkS x2.name), (.int .i64 x2.life), (.int .i64 x2.used), (.int .i64 x2.faults), (.bool x2.faulty), (.int .i64 x2.since), (.int .i64 x2.cycles)] := RL.cons (cs := [(mkS x2.name), (.int .i64 x2.life), (.int .i64 x2.used), (.int .i64 x2.faults), (.bool x2.faulty), (.int .i64 x2.since), (.int .i64 x2.cycles)]) (xs := []) rfl (RL.nil _ _)
                refine os_buildSlice (cs := [(mkS x2.name), (.int .i64 x2.life), (.int .i64 x2.used), (.int .i64 x2.faults), (.bool x2.faulty), (.int .i64 x2.since), (.int .i64 x2.cycles)]) (E := 80) (sz := 7) rfl rfl (fun _ => by kernel_rfl) rfl (by decide) (fun b7 => ?_)
                refine ⟨fun w' s => (s.select [3, 4, 5] (by decide) rfl), ?_⟩
                refine AL.any (rs := [1]) (by kernel_rfl) (by decide) ?_
                refine ALs.cons (i := 1) rfl (Runs.free rfl) rfl rfl ?_ ?_
                · skip
                  refine OQ.step (OV.quiet (ov_load_box (i := 2) Tryd.isAgg32 rfl rfl rfl rfl)) ?_
                  refine ⟨fun w' s => (s.select [3, 4, 5] (by decide) rfl), ?_⟩
                  refine AL.any (rs := [8]) (by kernel_rfl) (by decide) ?_
                  refine ALs.cons (i := 8) rfl (Runs.free rfl) rfl rfl ?_ ?_
                  · skip
                    obtain ⟨l5, e7, hm⟩ := bind_some hm
                    refine os_app (i := 1) (j := 0) (En := encItem) (xs := xs2) (ys := [(mkS x2.name), (.int .i64 x2.life), (.int .i64 x2.used), (.int .i64 x2.faults), (.bool x2.faulty), (.int .i64 x2.since), (.int .i64 x2.cycles)]) Tryd.underlying32 (by kernel_rfl : (Tryd.prog.info? 80).map (fun i => (i.zero, i.size, i.bytes)) = some (some (.agg #[(mkS []), (.int .i64 0), (.int .i64 0), (.int .i64 0), (.bool false), (.int .i64 0), (.int .i64 0)]), (encItem).size, 64)) rfl (by decide) rfl rfl rfl rfl rfl rfl rl5 rl8 e7 (fun ao7 cap7 rl9 => ?_)
                    refine ⟨fun w' s => (s.select [3, 4, 5] (by decide) rfl), ?_⟩
                    refine AL.take (i := 9) rfl (by kernel_rfl) (by kernel_rfl) (by kernel_rfl) (Runs.free rfl) rfl rfl (ov_fieldAddr Tryd.underlying34 rfl rfl rfl Tryd.sizeOf32 rfl rfl) ?_
                    refine AL.any (rs := [10]) (by kernel_rfl) (by decide) ?_
                    refine ALs.cons0 (i := 10) rfl (Runs.free rfl) rfl ?_ ?_
                    · skip
                      refine os_store (i := 2) (vs := [(.slice ao7 (l3 ++ ([x2] : List Item)).length cap7)]) (cs' := [(.slice ao7 (l3 ++ ([x2] : List Item)).length cap7), (.int .i64 p_m.cycles)]) Tryd.sizeOf32 rfl rfl rfl rfl rfl rfl rfl rfl rfl ?_
                      refine ⟨fun w' s => (s.select [3, 4, 5] (by decide) rfl), ?_⟩
                      refine AL.done (by kernel_rfl) ?_
                      refine block_normal ?_
                      refine then_normal ?_
                      refine WP.region ?_
                      refine WL.quiet (Runs.free rfl) rfl rfl (OV.quiet (ov_move rfl rfl)) ?_
                      refine WL.quiet (Runs.free rfl) rfl rfl (OV.quiet (ov_add rfl rfl rfl)) ?_
                      refine WL.quiet (Runs.free rfl) rfl rfl (OV.quiet (ov_assign rfl rfl)) ?_
                      refine WL.nil ?_
                      refine then_normal ?_
                      exact ⟨c3, (IntKind.wrap .i64 (i1 + 1)), (l3 ++ ([x2] : List Item)), ao7, cap7, (xs2 ++ [(mkS x2.name), (.int .i64 x2.life), (.int .i64 x2.used), (.int .i64 x2.faults), (.bool x2.faulty), (.int .i64 x2.since), (.int .i64 x2.cycles)]), rl9, (Sub.cons rfl (Sub.cons rfl (Sub.cons rfl (Sub.cons rfl (Sub.cons rfl (Sub.cons rfl (Sub.nil _))))))), fun w' s => (s.select [1, 2, 3, 4, 5] (by decide) rfl), hm⟩
                    exact ALs.nil
                  exact ALs.nil
                exact ALs.nil
              exact ALs.nil
          · replace hm := ite_f hc5 hm
            refine WP.exit ?_
            refine then_exit ?_
            refine then_exit ?_
            refine block_here ?_
            refine then_normal ?_
            exact ⟨c1, l1, ao3, cap3, xs1, rl2, (Sub.cons rfl (Sub.cons rfl (Sub.cons rfl (Sub.cons rfl (Sub.cons rfl (Sub.nil _)))))), fun w' s => s, hm⟩
      · rintro g' S' ⟨c4, l6, ao8, cap8, xs3, rl10, hsub3, hS3, hm⟩
        refine WP.sub hsub3 (WP.weaken hS3 ?_)
        replace hm := (congrFun (congrFun hk1 c4) l6).symm.trans hm
        obtain ⟨k3, hk3, hm⟩ := joinK_some hm
        refine WP.seq_join (fun g' S' => ∃ (l8 : (List Item)) (ao10 : Option Addr) (cap10 : Nat) (xs4 : List Value), RL H encItem l8 xs4 ∧ Sub [(4, (pB b3 0)), (6, (pB b4 0))] g' ∧ (∀ w', S' w' → St w H [.row 80 (encItem).size l8.length (.slice ao10 l8.length cap10) xs4, .blk b4 34 [(.slice ao10 l8.length cap10), (.int .i64 p_m.cycles)], .blk b3 34 [(.slice none 0 0), (.int .i64 0)]] H w') ∧ k3 l8 = some r) ?_ ?_
        · skip
          refine WP.seq ?_
          refine WP.region ?_
          refine WL.quiet (Runs.free rfl) rfl rfl (OV.quiet (ov_move rfl rfl)) ?_
          refine WL.quiet (Runs.free rfl) rfl rfl (OV.quiet (ov_not rfl rfl)) ?_
          refine WL.nil ?_
          refine then_normal ?_
          refine WP.cond rfl (fun hc8 => ?_) (fun hc8 => ?_)
          · replace hm := ite_t hc8 hm
            refine WP.region ?_
            refine WL.quiet (Runs.free rfl) rfl rfl (OV.quiet (ov_fieldAddr Tryd.underlying34 rfl rfl rfl Tryd.sizeOf32 rfl rfl)) ?_
            refine WL.quiet (Runs.free rfl) rfl rfl (OV.quiet (ov_load_box (i := 1) Tryd.isAgg32 rfl rfl rfl rfl)) ?_
            refine WL.quiet (Runs.free rfl) rfl rfl (OV.quiet (ov_fieldAddr Tryd.underlying38 rfl rfl rfl Tryd.sizeOf9 rfl rfl)) ?_
            refine WL.quiet (Runs.free rfl) rfl rfl (OV.quiet (ov_load_box (i := 3) Tryd.isAgg9 rfl rfl rfl rfl)) ?_
            refine WL.quiet (Runs.free rfl) rfl rfl (OV.quiet (ov_fieldAddr Tryd.underlying38 rfl rfl rfl Tryd.sizeOf3 rfl rfl)) ?_
            refine WL.quiet (Runs.free rfl) rfl rfl (OV.quiet (ov_load_box (i := 3) Tryd.isAgg3 rfl rfl rfl rfl)) ?_
            refine WL.quiet (Runs.free rfl) rfl rfl (OV.quiet (ov_fieldAddr Tryd.underlying34 rfl rfl rfl Tryd.sizeOf3 rfl rfl)) ?_
            refine WL.quiet (Runs.free rfl) rfl rfl (OV.quiet (ov_load_box (i := 4) Tryd.isAgg3 rfl rfl rfl rfl)) ?_
            refine WL.quiet (Runs.free rfl) rfl rfl (OV.quiet (ov_build (r := (.agg #[(mkS p_x.name), (.int .i64 p_x.count), (.int .i64 0), (.int .i64 0), (.bool false), (.int .i64 p_m.cycles), (.int .i64 0)])) rfl rfl (fun _ => by kernel_rfl))) ?_
            have rl11 : RL H encItem ([(Item.mk p_x.name p_x.count 0 0 false p_m.cycles 0)] : List Item) [(mkS p_x.name), (.int .i64 p_x.count), (.int .i64 0), (.int .i64 0), (.bool false), (.int .i64 p_m.cycles), (.int .i64 0)] := RL.cons (cs := [(mkS p_x.name), (.int .i64 p_x.count), (.int .i64 0), (.int .i64 0), (.bool false), (.int .i64 p_m.cycles), (.int .i64 0)]) (xs := []) rfl (RL.nil _ _)
            refine WL.step (Runs.free rfl) rfl rfl (os_buildSlice (cs := [(mkS p_x.name), (.int .i64 p_x.count), (.int .i64 0), (.int .i64 0), (.bool false), (.int .i64 p_m.cycles), (.int .i64 0)]) (E := 80) (sz := 7) rfl rfl (fun _ => by kernel_rfl) rfl (by decide) (fun b8 => ?_))
            obtain ⟨l7, e8, hm⟩ := bind_some hm
            refine WL.step (Runs.free rfl) rfl rfl (os_app (i := 1) (j := 0) (En := encItem) (xs := xs3) (ys := [(mkS p_x.name), (.int .i64 p_x.count), (.int .i64 0), (.int .i64 0), (.bool false), (.int .i64 p_m.cycles), (.int .i64 0)]) Tryd.underlying32 (by kernel_rfl : (Tryd.prog.info? 80).map (fun i => (i.zero, i.size, i.bytes)) = some (some (.agg #[(mkS []), (.int .i64 0), (.int .i64 0), (.int .i64 0), (.bool false), (.int .i64 0), (.int .i64 0)]), (encItem).size, 64)) rfl (by decide) rfl rfl rfl rfl rfl rfl rl10 rl11 e8 (fun ao9 cap9 rl12 => ?_))
            refine WL.quiet (Runs.free rfl) rfl rfl (OV.quiet (ov_fieldAddr Tryd.underlying34 rfl rfl rfl Tryd.sizeOf32 rfl rfl)) ?_
            refine WL.step0 (Runs.free rfl) rfl (os_store (i := 2) (vs := [(.slice ao9 (l6 ++ ([(Item.mk p_x.name p_x.count 0 0 false p_m.cycles 0)] : List Item)).length cap9)]) (cs' := [(.slice ao9 (l6 ++ ([(Item.mk p_x.name p_x.count 0 0 false p_m.cycles 0)] : List Item)).length cap9), (.int .i64 p_m.cycles)]) Tryd.sizeOf32 rfl rfl rfl rfl rfl rfl rfl rfl rfl ?_)
            refine WL.nil ?_
            refine then_normal ?_
            exact ⟨(l6 ++ ([(Item.mk p_x.name p_x.count 0 0 false p_m.cycles 0)] : List Item)), ao9, cap9, (xs3 ++ [(mkS p_x.name), (.int .i64 p_x.count), (.int .i64 0), (.int .i64 0), (.bool false), (.int .i64 p_m.cycles), (.int .i64 0)]), rl12, (Sub.cons rfl (Sub.cons rfl (Sub.nil _))), fun w' s => (s.select [1, 2, 3] (by decide) rfl), hm⟩
          · replace hm := ite_f hc8 hm
            refine WP.skip ?_
            refine then_normal ?_
            exact ⟨l6, ao8, cap8, xs3, rl10, (Sub.cons rfl (Sub.cons rfl (Sub.nil _))), fun w' s => (s.select [0, 1, 2] (by decide) rfl), hm⟩
        · rintro g' S' ⟨l8, ao10, cap10, xs4, rl13, hsub4, hS4, hm⟩
          refine WP.sub hsub4 (WP.weaken hS4 ?_)
          replace hm := (congrFun hk3 l8).symm.trans hm
          refine WP.seq ?_
          refine WP.region ?_
          refine WL.quiet (Runs.free rfl) rfl rfl (OV.quiet (ov_load_whole (i := 1) Tryd.isAgg34 Tryd.sizeOf34 rfl rfl rfl rfl)) ?_
          refine WL.step0 (Runs.free rfl) rfl (os_store (i := 2) (vs := [(.slice ao10 l8.length cap10), (.int .i64 p_m.cycles)]) (cs' := [(.slice ao10 l8.length cap10), (.int .i64 p_m.cycles)]) Tryd.sizeOf34 rfl rfl rfl rfl rfl rfl rfl rfl rfl ?_)
          refine WL.quiet (Runs.free rfl) rfl rfl (OV.quiet (ov_assign rfl rfl)) ?_
          refine WL.nil ?_
          refine then_normal ?_
          refine WP.ret ?_
          obtain rfl := Option.some.inj hm
          refine retQ_ret Tryd.results56 (Res.cell rfl (box_loads (i := 2) Tryd.isAgg34 Tryd.sizeOf34 rfl rfl) (Res.tmp rfl Res.nil)) rfl (fun w' s => ⟨s.below, ?_⟩)
          obtain ⟨h13, hc9⟩ := s.ret_row (i := 0) rfl rl13
          exact ⟨ao10, cap10, rfl, h13, hc9⟩

theorem ref58_Done_con (p_m : Machine) (p_x : Entry) (ao1 : Option Addr) (cap1 : Nat) (w : World) (H : Heap) (hH : Le H (hp w)) (h1 : SL H encItem ao1 p_m.items) (hc1 : p_m.items.length ≤ cap1) (hG : Glob H) (r : (Machine × Int)) (hm : ref58_Done p_m p_x = some r) :
    Con Tryd.prog 37 [(.agg #[(.slice ao1 p_m.items.length cap1), (.int .i64 p_m.cycles)]), (.agg #[(.int .i64 p_x.kind), (mkS p_x.name), (.int .i64 p_x.count), (.int .i64 p_x.strokes)])] w H (fun v H' => ∃ (ao2 : Option Addr) (cap2 : Nat), v = (.tuple #[(.agg #[(.slice ao2 r.1.items.length cap2), (.int .i64 r.1.cycles)]), (.int .i64 r.2)]) ∧ SL H' encItem ao2 r.1.items ∧ r.1.items.length ≤ cap2) := by
  unfold ref58_Done at hm
  refine con_of hH Tryd.func37 rfl 134 Tryd.ntmps37 rfl ?_
  refine WP.seq ?_
  refine WP.region ?_
  refine WL.step (Runs.free rfl) rfl rfl (os_box (cs := [(.slice ao1 p_m.items.length cap1), (.int .i64 p_m.cycles)]) rfl rfl rfl (fun b1 => ?_))
  refine WL.step (Runs.free rfl) rfl rfl (os_box (cs := [(.int .i64 p_x.kind), (mkS p_x.name), (.int .i64 p_x.count), (.int .i64 p_x.strokes)]) rfl rfl rfl (fun b2 => ?_))
  refine WL.step (Runs.free rfl) rfl rfl (os_alloc (cs := [(.slice none 0 0), (.int .i64 0)]) Tryd.zeroValue34 rfl rfl (fun b3 => ?_))
  refine WL.quiet (Runs.free rfl) rfl rfl (OV.quiet (ov_assign rfl rfl)) ?_
  refine WL.nil ?_
  refine then_normal ?_
  refine WP.seq ?_
  refine WP.seq ?_
  refine WP.region ?_
  refine WL.quiet (Runs.free rfl) rfl rfl (OV.quiet (ov_fieldAddr Tryd.underlying38 rfl rfl rfl Tryd.sizeOf3 rfl rfl)) ?_
  refine WL.quiet (Runs.free rfl) rfl rfl (OV.quiet (ov_load_box (i := 1) Tryd.isAgg3 rfl rfl rfl rfl)) ?_
  refine WL.quiet (Runs.free rfl) rfl rfl (OV.quiet (ov_eql rfl rfl rfl)) ?_
  refine WL.nil ?_
  refine then_normal ?_
  refine WP.cond rfl (fun hc3 => ?_) (fun hc3 => ?_)
  · replace hm := ite_t hc3 hm
    refine WP.seq ?_
    refine WP.region ?_
    refine WL.quiet (Runs.free rfl) rfl rfl (OV.quiet (ov_load_whole (i := 2) Tryd.isAgg34 Tryd.sizeOf34 rfl rfl rfl rfl)) ?_
    refine WL.quiet (Runs.free rfl) rfl rfl (OV.quiet (ov_load_whole (i := 1) Tryd.isAgg38 Tryd.sizeOf38 rfl rfl rfl rfl)) ?_
    obtain ⟨r1, e1, hm⟩ := bind_some hm
    refine WL.step (Runs.free rfl) rfl rfl (os_con Tryd.call56 rfl rfl (fun w' s => (ref58_added_con p_m p_x ao1 cap1  w' H s.hold h1 hc1 hG r1 e1)) (fun rr1 H1 hle1 hR1 => ?_))
    replace h1 := h1.mono hle1
    replace hG := hG.mono hle1
    obtain ⟨ao3, cap3, rfl, h3, hc4⟩ := hR1
    refine WL.quiet (Runs.free rfl) rfl rfl (OV.quiet (ov_extract rfl rfl rfl)) ?_
    refine WL.quiet (Runs.free rfl) rfl rfl (OV.quiet (ov_extract rfl rfl rfl)) ?_
    refine WL.step0 (Runs.free rfl) rfl (os_store (i := 0) (vs := [(.slice ao3 r1.1.items.length cap3), (.int .i64 r1.1.cycles)]) (cs' := [(.slice ao3 r1.1.items.length cap3), (.int .i64 r1.1.cycles)]) Tryd.sizeOf34 rfl rfl rfl rfl rfl rfl rfl rfl rfl ?_)
    refine WL.quiet (Runs.free rfl) rfl rfl (OV.quiet (ov_assign rfl rfl)) ?_
    refine WL.nil ?_
    refine then_normal ?_
    refine WP.ret ?_
    refine then_ret ?_
    obtain rfl := Option.some.inj hm
    refine retQ_ret Tryd.results37 (Res.cell rfl (box_loads (i := 0) Tryd.isAgg34 Tryd.sizeOf34 rfl rfl) (Res.tmp rfl Res.nil)) rfl (fun w' s => ⟨s.below, ?_⟩)
    exact ⟨ao3, cap3, rfl, h3.mono s.le_newer, hc4⟩
  · replace hm := ite_f hc3 hm
    refine WP.skip ?_
    refine then_normal ?_
    refine WP.seq ?_
    refine WP.region ?_
    refine WL.quiet (Runs.free rfl) rfl rfl (OV.quiet (ov_load_whole (i := 2) Tryd.isAgg34 Tryd.sizeOf34 rfl rfl rfl rfl)) ?_
    refine WL.quiet (Runs.free rfl) rfl rfl (OV.quiet (ov_fieldAddr Tryd.underlying38 rfl rfl rfl Tryd.sizeOf9 rfl rfl)) ?_
    refine WL.quiet (Runs.free rfl) rfl rfl (OV.quiet (ov_load_box (i := 1) Tryd.isAgg9 rfl rfl rfl rfl)) ?_
    obtain ⟨r2, e2, hm⟩ := bind_some hm
    refine WL.quiet (Runs.free rfl) rfl rfl (oq_con (r := (.int .i64 r2)) Tryd.call46 rfl rfl (fun w' s => ⟨_, (ref58_Place_con p_m p_x.name ao1 cap1  w' H s.hold h1 hc1 hG r2 e2)⟩)) ?_
    refine WL.quiet (Runs.free rfl) rfl rfl (OV.quiet (ov_assign rfl rfl)) ?_
    refine WL.nil ?_
    refine then_normal ?_
    refine WP.seq ?_
    refine WP.seq ?_
    refine WP.region ?_
    refine WL.quiet (Runs.free rfl) rfl rfl (OV.quiet (ov_move rfl rfl)) ?_
    refine WL.quiet (Runs.free rfl) rfl rfl (OV.quiet (ov_lss rfl rfl rfl)) ?_
    refine WL.nil ?_
    refine then_normal ?_
    refine WP.cond rfl (fun hc5 => ?_) (fun hc5 => ?_)
    · replace hm := ite_t hc5 hm
      refine WP.seq ?_
      refine WP.region ?_
      refine WL.quiet (Runs.free rfl) rfl rfl (OV.quiet (ov_build (r := (.agg #[(.slice none 0 0), (.int .i64 0)])) rfl rfl (fun _ => by kernel_rfl))) ?_
      refine WL.step0 (Runs.free rfl) rfl (os_store (i := 0) (vs := [(.slice none 0 0), (.int .i64 0)]) (cs' := [(.slice none 0 0), (.int .i64 0)]) Tryd.sizeOf34 rfl rfl rfl rfl rfl rfl rfl rfl rfl ?_)
      refine WL.quiet (Runs.free rfl) rfl rfl (OV.quiet (ov_assign rfl rfl)) ?_
      refine WL.nil ?_
      refine then_normal ?_
      refine WP.ret ?_
      refine then_ret ?_
      obtain rfl := Option.some.inj hm
      refine retQ_ret Tryd.results37 (Res.cell rfl (box_loads (i := 0) Tryd.isAgg34 Tryd.sizeOf34 rfl rfl) (Res.tmp rfl Res.nil)) rfl (fun w' s => ⟨s.below, ?_⟩)
      exact ⟨none, 0, rfl, SL.nil _ _ _, Nat.le_refl _⟩
    · replace hm := ite_f hc5 hm
      refine WP.skip ?_
      refine then_normal ?_
      obtain ⟨k1, hk1, hm⟩ := joinK_some hm
      refine WP.seq_join (fun g' S' => ∃ (b9 : Nat) (l4 : (List Item)) (ao7 : Option Addr) (cap7 : Nat) (xs1 : List Value), RL H encItem l4 xs1 ∧ Sub [(2, (pB b1 0)), (3, (pB b2 0)), (4, (pB b3 0)), (6, (.int .i64 r2)), (7, (pB b9 0))] g' ∧ (∀ w', S' w' → St w H [.blk b9 34 [(.slice ao7 l4.length cap7), (.int .i64 p_m.cycles)], .row 80 (encItem).size l4.length (.slice ao7 l4.length cap7) xs1, .blk b3 34 [(.slice none 0 0), (.int .i64 0)], .blk b2 38 [(.int .i64 p_x.kind), (mkS p_x.name), (.int .i64 p_x.count), (.int .i64 p_x.strokes)], .blk b1 34 [(.slice ao1 p_m.items.length cap1), (.int .i64 p_m.cycles)]] H w') ∧ k1 l4 = some r) ?_ ?_
      · skip
        refine WP.region_any (S₀ := St w H [.blk b3 34 [(.slice none 0 0), (.int .i64 0)], .blk b2 38 [(.int .i64 p_x.kind), (mkS p_x.name), (.int .i64 p_x.count), (.int .i64 p_x.strokes)], .blk b1 34 [(.slice ao1 p_m.items.length cap1), (.int .i64 p_m.cycles)]] H) 9 rfl (by kernel_rfl) (fun w' s => s) (fun _ s => s.drew) ?_
        refine AL.take (i := 1) rfl (by kernel_rfl) (by kernel_rfl) (by kernel_rfl) (Runs.free rfl) rfl rfl (ov_fieldAddr Tryd.underlying34 rfl rfl rfl Tryd.sizeOf32 rfl rfl) ?_
        refine AL.take (i := 2) rfl (by kernel_rfl) (by kernel_rfl) (by kernel_rfl) (Runs.free rfl) rfl rfl (ov_load_box (i := 2) Tryd.isAgg32 rfl rfl rfl rfl) ?_
        refine AL.take (i := 4) rfl (by kernel_rfl) (by kernel_rfl) (by kernel_rfl) (Runs.free rfl) rfl rfl (ov_fieldAddr Tryd.underlying34 rfl rfl rfl Tryd.sizeOf3 rfl rfl) ?_
        refine AL.take (i := 5) rfl (by kernel_rfl) (by kernel_rfl) (by kernel_rfl) (Runs.free rfl) rfl rfl (ov_load_box (i := 2) Tryd.isAgg3 rfl rfl rfl rfl) ?_
        refine AL.any (rs := [0, 7]) (by kernel_rfl) (by decide) ?_
        refine ALs.cons (i := 0) rfl (Runs.free rfl) rfl rfl ?_ ?_
        · skip
          have rl1 : RL H encItem ([] : List Item) [] := RL.nil _ _
          refine os_buildSlice (cs := []) (E := 80) (sz := 7) rfl rfl (fun _ => by kernel_rfl) rfl (by decide) (fun b4 => ?_)
          refine ⟨fun w' s => (s.select [1, 2, 3] (by decide) rfl), ?_⟩
          refine AL.any (rs := [3, 7]) (by kernel_rfl) (by decide) ?_
          refine ALs.cons (i := 3) rfl (Runs.free rfl) rfl rfl ?_ ?_
          · skip
            obtain ⟨l1, e3, hm⟩ := bind_some hm
            refine os_app_sl (i := 0) (En := encItem) (xs := []) Tryd.underlying32 (by kernel_rfl : (Tryd.prog.info? 80).map (fun i => (i.zero, i.size, i.bytes)) = some (some (.agg #[(mkS []), (.int .i64 0), (.int .i64 0), (.int .i64 0), (.bool false), (.int .i64 0), (.int .i64 0)]), (encItem).size, 64)) rfl (by decide) one_encItem rfl rfl rfl rfl h1 hc1 rl1 e3 (fun ao4 cap4 ys1 rl2 => ?_)
            refine ⟨fun w' s => (s.select [1, 2, 3] (by decide) rfl), ?_⟩
            refine AL.take (i := 6) rfl (by kernel_rfl) (by kernel_rfl) (by kernel_rfl) (Runs.free rfl) rfl rfl (ov_build (r := (.agg #[(.slice ao4 (([] : List Item) ++ p_m.items).length cap4), (.int .i64 p_m.cycles)])) rfl rfl (fun _ => by kernel_rfl)) ?_
            refine AL.any (rs := [7]) (by kernel_rfl) (by decide) ?_
            refine ALs.cons (i := 7) rfl (Runs.free rfl) rfl rfl ?_ ?_
            · skip
              refine os_alloc (cs := [(.slice none 0 0), (.int .i64 0)]) Tryd.zeroValue34 rfl rfl (fun b5 => ?_)
              refine ⟨fun w' s => (s.select [2, 3, 4] (by decide) rfl), ?_⟩
              refine AL.any (rs := [8]) (by kernel_rfl) (by decide) ?_
              refine ALs.cons0 (i := 8) rfl (Runs.free rfl) rfl ?_ ?_
              · skip
                refine os_store (i := 0) (vs := [(.slice ao4 (([] : List Item) ++ p_m.items).length cap4), (.int .i64 p_m.cycles)]) (cs' := [(.slice ao4 (([] : List Item) ++ p_m.items).length cap4), (.int .i64 p_m.cycles)]) Tryd.sizeOf34 rfl rfl rfl rfl rfl rfl rfl rfl rfl ?_
                refine ⟨fun w' s => (s.select [2, 3, 4] (by decide) rfl), ?_⟩
                refine AL.done (by kernel_rfl) ?_
                refine then_normal ?_
                exact ⟨b5, (([] : List Item) ++ p_m.items), ao4, cap4, ([] ++ ys1), rl2, (Sub.cons rfl (Sub.cons rfl (Sub.cons rfl (Sub.cons rfl (Sub.cons rfl (Sub.nil _)))))), fun w' s => s, hm⟩
              exact ALs.nil
            exact ALs.nil
          refine ALs.cons (i := 7) rfl (Runs.free rfl) rfl rfl ?_ ?_
          · skip
            refine os_alloc (cs := [(.slice none 0 0), (.int .i64 0)]) Tryd.zeroValue34 rfl rfl (fun b6 => ?_)
            refine ⟨fun w' s => (s.select [2, 3, 4] (by decide) rfl), ?_⟩
            refine AL.any (rs := [3]) (by kernel_rfl) (by decide) ?_
            refine ALs.cons (i := 3) rfl (Runs.free rfl) rfl rfl ?_ ?_
            · skip
              obtain ⟨l2, e4, hm⟩ := bind_some hm
              refine os_app_sl (i := 1) (En := encItem) (xs := []) Tryd.underlying32 (by kernel_rfl : (Tryd.prog.info? 80).map (fun i => (i.zero, i.size, i.bytes)) = some (some (.agg #[(mkS []), (.int .i64 0), (.int .i64 0), (.int .i64 0), (.bool false), (.int .i64 0), (.int .i64 0)]), (encItem).size, 64)) rfl (by decide) one_encItem rfl rfl rfl rfl h1 hc1 rl1 e4 (fun ao5 cap5 ys2 rl3 => ?_)
              refine ⟨fun w' s => (s.select [2, 3, 4] (by decide) rfl), ?_⟩
              refine AL.take (i := 6) rfl (by kernel_rfl) (by kernel_rfl) (by kernel_rfl) (Runs.free rfl) rfl rfl (ov_build (r := (.agg #[(.slice ao5 (([] : List Item) ++ p_m.items).length cap5), (.int .i64 p_m.cycles)])) rfl rfl (fun _ => by kernel_rfl)) ?_
              refine AL.any (rs := [8]) (by kernel_rfl) (by decide) ?_
              refine ALs.cons0 (i := 8) rfl (Runs.free rfl) rfl ?_ ?_
              · skip
                refine os_store (i := 0) (vs := [(.slice ao5 (([] : List Item) ++ p_m.items).length cap5), (.int .i64 p_m.cycles)]) (cs' := [(.slice ao5 (([] : List Item) ++ p_m.items).length cap5), (.int .i64 p_m.cycles)]) Tryd.sizeOf34 rfl rfl rfl rfl rfl rfl rfl rfl rfl ?_
                refine ⟨fun w' s => (s.select [2, 3, 4] (by decide) rfl), ?_⟩
                refine AL.done (by kernel_rfl) ?_
                refine then_normal ?_
                exact ⟨b6, (([] : List Item) ++ p_m.items), ao5, cap5, ([] ++ ys2), rl3, (Sub.cons rfl (Sub.cons rfl (Sub.cons rfl (Sub.cons rfl (Sub.cons rfl (Sub.nil _)))))), fun w' s => s, hm⟩
              exact ALs.nil
            exact ALs.nil
          exact ALs.nil
        refine ALs.cons (i := 7) rfl (Runs.free rfl) rfl rfl ?_ ?_
        · skip
          refine os_alloc (cs := [(.slice none 0 0), (.int .i64 0)]) Tryd.zeroValue34 rfl rfl (fun b7 => ?_)
          refine ⟨fun w' s => (s.select [1, 2, 3] (by decide) rfl), ?_⟩
          refine AL.any (rs := [0]) (by kernel_rfl) (by decide) ?_
          refine ALs.cons (i := 0) rfl (Runs.free rfl) rfl rfl ?_ ?_
          · skip
            have rl4 : RL H encItem ([] : List Item) [] := RL.nil _ _
            refine os_buildSlice (cs := []) (E := 80) (sz := 7) rfl rfl (fun _ => by kernel_rfl) rfl (by decide) (fun b8 => ?_)
            refine ⟨fun w' s => (s.select [2, 3, 4] (by decide) rfl), ?_⟩
            refine AL.any (rs := [3]) (by kernel_rfl) (by decide) ?_
            refine ALs.cons (i := 3) rfl (Runs.free rfl) rfl rfl ?_ ?_
            · skip
              obtain ⟨l3, e5, hm⟩ := bind_some hm
              refine os_app_sl (i := 0) (En := encItem) (xs := []) Tryd.underlying32 (by kernel_rfl : (Tryd.prog.info? 80).map (fun i => (i.zero, i.size, i.bytes)) = some (some (.agg #[(mkS []), (.int .i64 0), (.int .i64 0), (.int .i64 0), (.bool false), (.int .i64 0), (.int .i64 0)]), (encItem).size, 64)) rfl (by decide) one_encItem rfl rfl rfl rfl h1 hc1 rl4 e5 (fun ao6 cap6 ys3 rl5 => ?_)
              refine ⟨fun w' s => (s.select [2, 3, 4] (by decide) rfl), ?_⟩
              refine AL.take (i := 6) rfl (by kernel_rfl) (by kernel_rfl) (by kernel_rfl) (Runs.free rfl) rfl rfl (ov_build (r := (.agg #[(.slice ao6 (([] : List Item) ++ p_m.items).length cap6), (.int .i64 p_m.cycles)])) rfl rfl (fun _ => by kernel_rfl)) ?_
              refine AL.any (rs := [8]) (by kernel_rfl) (by decide) ?_
              refine ALs.cons0 (i := 8) rfl (Runs.free rfl) rfl ?_ ?_
              · skip
                refine os_store (i := 1) (vs := [(.slice ao6 (([] : List Item) ++ p_m.items).length cap6), (.int .i64 p_m.cycles)]) (cs' := [(.slice ao6 (([] : List Item) ++ p_m.items).length cap6), (.int .i64 p_m.cycles)]) Tryd.sizeOf34 rfl rfl rfl rfl rfl rfl rfl rfl rfl ?_
                refine ⟨fun w' s => (s.select [2, 3, 4] (by decide) rfl), ?_⟩
                refine AL.done (by kernel_rfl) ?_
                refine then_normal ?_
                exact ⟨b7, (([] : List Item) ++ p_m.items), ao6, cap6, ([] ++ ys3), rl5, (Sub.cons rfl (Sub.cons rfl (Sub.cons rfl (Sub.cons rfl (Sub.cons rfl (Sub.nil _)))))), fun w' s => (s.select [1, 0, 2, 3, 4] (by decide) rfl), hm⟩
              exact ALs.nil
            exact ALs.nil
          exact ALs.nil
        exact ALs.nil
      · rintro g' S' ⟨b9, l4, ao7, cap7, xs1, rl6, hsub1, hS1, hm⟩
        refine WP.sub hsub1 (WP.weaken hS1 ?_)
        replace hm := (congrFun hk1 l4).symm.trans hm
        refine WP.seq ?_
        refine WP.region ?_
        refine WL.quiet (Runs.free rfl) rfl rfl (OV.quiet (ov_fieldAddr Tryd.underlying34 rfl rfl rfl Tryd.sizeOf32 rfl rfl)) ?_
        refine WL.quiet (Runs.free rfl) rfl rfl (OV.quiet (ov_load_box (i := 4) Tryd.isAgg32 rfl rfl rfl rfl)) ?_
        refine WL.quiet (Runs.free rfl) rfl rfl (OV.quiet (ov_move rfl rfl)) ?_
        obtain ⟨x1, e6, hm⟩ := bind_some hm
        obtain ⟨h4, h5, h6, cs1, h7, h8⟩ := h1.get e6 (by decide)
        obtain rfl : cs1 = [(mkS x1.name), (.int .i64 x1.life), (.int .i64 x1.used), (.int .i64 x1.faults), (.bool x1.faulty), (.int .i64 x1.since), (.int .i64 x1.cycles)] := h7
        refine WL.quiet (Runs.free rfl) rfl rfl (OV.quiet (ov_indexAddr Tryd.underlying32 Tryd.sizeOf80 rfl rfl rfl h4 h5 h6)) ?_
        refine WL.quiet (Runs.free rfl) rfl rfl (OV.quiet (ov_load_elems (vs := [(mkS x1.name), (.int .i64 x1.life), (.int .i64 x1.used), (.int .i64 x1.faults), (.bool x1.faulty), (.int .i64 x1.since), (.int .i64 x1.cycles)]) Tryd.isAgg80 Tryd.sizeOf80 rfl rfl rfl h8 h6)) ?_
        refine WL.step (Runs.free rfl) rfl rfl (os_alloc (cs := [(mkS []), (.int .i64 0), (.int .i64 0), (.int .i64 0), (.bool false), (.int .i64 0), (.int .i64 0)]) Tryd.zeroValue80 rfl rfl (fun b10 => ?_))
        refine WL.step0 (Runs.free rfl) rfl (os_store (i := 0) (vs := [(mkS x1.name), (.int .i64 x1.life), (.int .i64 x1.used), (.int .i64 x1.faults), (.bool x1.faulty), (.int .i64 x1.since), (.int .i64 x1.cycles)]) (cs' := [(mkS x1.name), (.int .i64 x1.life), (.int .i64 x1.used), (.int .i64 x1.faults), (.bool x1.faulty), (.int .i64 x1.since), (.int .i64 x1.cycles)]) Tryd.sizeOf80 rfl rfl rfl rfl rfl rfl rfl rfl rfl ?_)
        refine WL.nil ?_
        refine then_normal ?_
        obtain ⟨k2, hk2, hm⟩ := joinK_some hm
        refine WP.seq_join (fun g' S' => ∃ (i1 : Int) (s1 : (List UInt8)) (i2 : Int) (i3 : Int) (i4 : Int) (c1 : Bool) (i5 : Int) (i6 : Int), Sub [(4, (pB b3 0)), (6, (.int .i64 r2)), (7, (pB b9 0)), (8, (pB b10 0))] g' ∧ (∀ w', S' w' → St w H [.blk b10 80 [(mkS s1), (.int .i64 i2), (.int .i64 i3), (.int .i64 i4), (.bool c1), (.int .i64 i5), (.int .i64 i6)], .blk b9 34 [(.slice ao7 l4.length cap7), (.int .i64 i1)], .row 80 (encItem).size l4.length (.slice ao7 l4.length cap7) xs1, .blk b3 34 [(.slice none 0 0), (.int .i64 0)]] H w') ∧ k2 i1 s1 i2 i3 i4 c1 i5 i6 = some r) ?_ ?_
        · skip
          refine WP.seq ?_
          refine WP.region ?_
          refine WL.quiet (Runs.free rfl) rfl rfl (OV.quiet (ov_fieldAddr Tryd.underlying38 rfl rfl rfl Tryd.sizeOf3 rfl rfl)) ?_
          refine WL.quiet (Runs.free rfl) rfl rfl (OV.quiet (ov_load_box (i := 4) Tryd.isAgg3 rfl rfl rfl rfl)) ?_
          refine WL.nil ?_
          refine then_normal ?_
          refine WP.block ?_
          refine WP.seq ?_
          refine WP.region ?_
          refine WL.quiet (Runs.free rfl) rfl rfl (OV.quiet (ov_eql rfl rfl rfl)) ?_
          refine WL.quiet (Runs.free rfl) rfl rfl (OV.quiet (ov_assign rfl rfl)) ?_
          refine WL.nil ?_
          refine then_normal ?_
          refine WP.cond rfl (fun hc6 => ?_) (fun hc6 => ?_)
          · replace hm := ite_t hc6 hm
            refine WP.seq ?_
            refine WP.seq ?_
            refine WP.region ?_
            refine WL.quiet (Runs.free rfl) rfl rfl (OV.quiet (ov_fieldAddr Tryd.underlying80 rfl rfl rfl Tryd.sizeOf4 rfl rfl)) ?_
            refine WL.quiet (Runs.free rfl) rfl rfl (OV.quiet (ov_load_box (i := 0) Tryd.isAgg4 rfl rfl rfl rfl)) ?_
            refine WL.nil ?_
            refine then_normal ?_
            refine WP.cond rfl (fun hc7 => ?_) (fun hc7 => ?_)
            · replace hm := ite_t hc7 hm
              refine WP.seq ?_
              refine WP.region ?_
              refine WL.quiet (Runs.free rfl) rfl rfl (OV.quiet (ov_build (r := (.agg #[(.slice none 0 0), (.int .i64 0)])) rfl rfl (fun _ => by kernel_rfl))) ?_
              refine WL.step0 (Runs.free rfl) rfl (os_store (i := 3) (vs := [(.slice none 0 0), (.int .i64 0)]) (cs' := [(.slice none 0 0), (.int .i64 0)]) Tryd.sizeOf34 rfl rfl rfl rfl rfl rfl rfl rfl rfl ?_)
              refine WL.quiet (Runs.free rfl) rfl rfl (OV.quiet (ov_assign rfl rfl)) ?_
              refine WL.nil ?_
              refine then_normal ?_
              refine WP.ret ?_
              refine then_ret ?_
              refine block_ret ?_
              refine then_ret ?_
              obtain rfl := Option.some.inj hm
              refine retQ_ret Tryd.results37 (Res.cell rfl (box_loads (i := 3) Tryd.isAgg34 Tryd.sizeOf34 rfl rfl) (Res.tmp rfl Res.nil)) rfl (fun w' s => ⟨s.below, ?_⟩)
              exact ⟨none, 0, rfl, SL.nil _ _ _, Nat.le_refl _⟩
            · replace hm := ite_f hc7 hm
              refine WP.skip ?_
              refine then_normal ?_
              refine WP.seq ?_
              refine WP.seq ?_
              refine WP.region ?_
              refine WL.quiet (Runs.free rfl) rfl rfl (OV.quiet (ov_fieldAddr Tryd.underlying34 rfl rfl rfl Tryd.sizeOf3 rfl rfl)) ?_
              refine WL.quiet (Runs.free rfl) rfl rfl (OV.quiet (ov_load_box (i := 5) Tryd.isAgg3 rfl rfl rfl rfl)) ?_
              refine WL.quiet (Runs.free rfl) rfl rfl (OV.quiet (ov_fieldAddr Tryd.underlying38 rfl rfl rfl Tryd.sizeOf3 rfl rfl)) ?_
              refine WL.quiet (Runs.free rfl) rfl rfl (OV.quiet (ov_load_box (i := 4) Tryd.isAgg3 rfl rfl rfl rfl)) ?_
              refine WL.quiet (Runs.free rfl) rfl rfl (OV.quiet (ov_add rfl rfl rfl)) ?_
              refine WL.quiet (Runs.free rfl) rfl rfl (OV.quiet (ov_gtr rfl rfl rfl)) ?_
              refine WL.quiet (Runs.free rfl) rfl rfl (OV.quiet (ov_move rfl rfl)) ?_
              refine WL.cut_bool 10 59 (x := ((decide ((IntKind.wrap .i64 (p_m.cycles + p_x.count)) > 1048576)) || (decide ((IntKind.wrap .i64 (x1.used + (IntKind.wrap .i64 (p_x.count * p_x.strokes)))) > 1048576)))) ?_ ?_
              · rcases Bool.eq_false_or_eq_true (decide ((IntKind.wrap .i64 (p_m.cycles + p_x.count)) > 1048576)) with hc8 | hc8
                · skip
                  refine WL.idle (Idle.no rfl rfl rfl hc8) rfl rfl ?_
                  refine WL.idle (Idle.no rfl rfl rfl hc8) rfl rfl ?_
                  refine WL.idle (Idle.no rfl rfl rfl hc8) rfl rfl ?_
                  refine WL.idle (Idle.no rfl rfl rfl hc8) rfl rfl ?_
                  refine WL.idle (Idle.no rfl rfl rfl hc8) rfl rfl ?_
                  refine WL.idle (Idle.no rfl rfl rfl hc8) rfl rfl ?_
                  refine WL.idle (Idle.no rfl rfl rfl hc8) rfl rfl ?_
                  refine WL.idle (Idle.no rfl rfl rfl hc8) rfl rfl ?_
                  refine WL.idle (Idle.no rfl rfl rfl hc8) rfl rfl ?_
                  refine WL.quiet (Runs.free rfl) rfl rfl (OV.quiet (ov_pick_true rfl (guard_eq rfl hc8) rfl)) ?_
                  exact WL.nil ⟨Sub.cons' rfl (congrArg Value.bool (by rw [hc8]; rfl)) (Sub.skip rfl (Sub.skip rfl (Sub.skip rfl (Sub.skip rfl (Sub.skip rfl (Sub.skip rfl (Sub.skip rfl (Sub.skip rfl (Sub.skip rfl (Sub.skip rfl (Sub.refl _))))))))))), fun _ s => s⟩
                · skip
                  refine WL.quiet (Runs.yes rfl rfl rfl hc8) rfl rfl (OV.quiet (ov_fieldAddr Tryd.underlying80 rfl rfl rfl Tryd.sizeOf3 rfl rfl)) ?_
                  refine WL.quiet (Runs.yes rfl rfl rfl hc8) rfl rfl (OV.quiet (ov_load_box (i := 0) Tryd.isAgg3 rfl rfl rfl rfl)) ?_
                  refine WL.quiet (Runs.yes rfl rfl rfl hc8) rfl rfl (OV.quiet (ov_fieldAddr Tryd.underlying38 rfl rfl rfl Tryd.sizeOf3 rfl rfl)) ?_
                  refine WL.quiet (Runs.yes rfl rfl rfl hc8) rfl rfl (OV.quiet (ov_load_box (i := 4) Tryd.isAgg3 rfl rfl rfl rfl)) ?_
                  refine WL.quiet (Runs.yes rfl rfl rfl hc8) rfl rfl (OV.quiet (ov_fieldAddr Tryd.underlying38 rfl rfl rfl Tryd.sizeOf3 rfl rfl)) ?_
                  refine WL.quiet (Runs.yes rfl rfl rfl hc8) rfl rfl (OV.quiet (ov_load_box (i := 4) Tryd.isAgg3 rfl rfl rfl rfl)) ?_
                  refine WL.quiet (Runs.yes rfl rfl rfl hc8) rfl rfl (OV.quiet (ov_mul rfl rfl rfl)) ?_
                  refine WL.quiet (Runs.yes rfl rfl rfl hc8) rfl rfl (OV.quiet (ov_add rfl rfl rfl)) ?_
                  refine WL.quiet (Runs.yes rfl rfl rfl hc8) rfl rfl (OV.quiet (ov_gtr rfl rfl rfl)) ?_
                  refine WL.quiet (Runs.free rfl) rfl rfl (OV.quiet (ov_pick_false rfl (guard_eq rfl hc8) rfl)) ?_
                  exact WL.nil ⟨Sub.cons' rfl (congrArg Value.bool (by rw [hc8]; rfl)) (Sub.skip rfl (Sub.skip rfl (Sub.skip rfl (Sub.skip rfl (Sub.skip rfl (Sub.skip rfl (Sub.skip rfl (Sub.skip rfl (Sub.skip rfl (Sub.skip rfl (Sub.refl _))))))))))), fun _ s => s⟩
              refine WL.nil ?_
              refine then_normal ?_
              refine WP.cond rfl (fun hc9 => ?_) (fun hc9 => ?_)
              · replace hm := ite_t hc9 hm
                refine WP.seq ?_
                refine WP.region ?_
                refine WL.quiet (Runs.free rfl) rfl rfl (OV.quiet (ov_build (r := (.agg #[(.slice none 0 0), (.int .i64 0)])) rfl rfl (fun _ => by kernel_rfl))) ?_
                refine WL.step0 (Runs.free rfl) rfl (os_store (i := 3) (vs := [(.slice none 0 0), (.int .i64 0)]) (cs' := [(.slice none 0 0), (.int .i64 0)]) Tryd.sizeOf34 rfl rfl rfl rfl rfl rfl rfl rfl rfl ?_)
                refine WL.quiet (Runs.free rfl) rfl rfl (OV.quiet (ov_assign rfl rfl)) ?_
                refine WL.nil ?_
                refine then_normal ?_
                refine WP.ret ?_
                refine then_ret ?_
                refine block_ret ?_
                refine then_ret ?_
                obtain rfl := Option.some.inj hm
                refine retQ_ret Tryd.results37 (Res.cell rfl (box_loads (i := 3) Tryd.isAgg34 Tryd.sizeOf34 rfl rfl) (Res.tmp rfl Res.nil)) rfl (fun w' s => ⟨s.below, ?_⟩)
                exact ⟨none, 0, rfl, SL.nil _ _ _, Nat.le_refl _⟩
              · replace hm := ite_f hc9 hm
                refine WP.skip ?_
                refine then_normal ?_
                refine WP.seq ?_
                refine WP.region ?_
                refine WL.quiet (Runs.free rfl) rfl rfl (OV.quiet (ov_fieldAddr Tryd.underlying34 rfl rfl rfl Tryd.sizeOf3 rfl rfl)) ?_
                refine WL.quiet (Runs.free rfl) rfl rfl (OV.quiet (ov_load_box (i := 1) Tryd.isAgg3 rfl rfl rfl rfl)) ?_
                refine WL.quiet (Runs.free rfl) rfl rfl (OV.quiet (ov_fieldAddr Tryd.underlying38 rfl rfl rfl Tryd.sizeOf3 rfl rfl)) ?_
                refine WL.quiet (Runs.free rfl) rfl rfl (OV.quiet (ov_load_box (i := 4) Tryd.isAgg3 rfl rfl rfl rfl)) ?_
                refine WL.quiet (Runs.free rfl) rfl rfl (OV.quiet (ov_add rfl rfl rfl)) ?_
                refine WL.quiet (Runs.free rfl) rfl rfl (OV.quiet (ov_fieldAddr Tryd.underlying34 rfl rfl rfl Tryd.sizeOf3 rfl rfl)) ?_
                refine WL.step0 (Runs.free rfl) rfl (os_store (i := 1) (vs := [(.int .i64 (IntKind.wrap .i64 (p_m.cycles + p_x.count)))]) (cs' := [(.slice ao7 l4.length cap7), (.int .i64 (IntKind.wrap .i64 (p_m.cycles + p_x.count)))]) Tryd.sizeOf3 rfl rfl rfl rfl rfl rfl rfl rfl rfl ?_)
                refine WL.nil ?_
                refine then_normal ?_
                refine WP.region_any (S₀ := St w H [.blk b9 34 [(.slice ao7 l4.length cap7), (.int .i64 (IntKind.wrap .i64 (p_m.cycles + p_x.count)))], .row 80 (encItem).size l4.length (.slice ao7 l4.length cap7) xs1, .blk b3 34 [(.slice none 0 0), (.int .i64 0)], .blk b2 38 [(.int .i64 p_x.kind), (mkS p_x.name), (.int .i64 p_x.count), (.int .i64 p_x.strokes)], .blk b1 34 [(.slice ao1 p_m.items.length cap1), (.int .i64 p_m.cycles)]] H) 17 rfl (by kernel_rfl) (fun w' s => (s.select [1, 2, 3, 4, 5] (by decide) rfl)) (fun _ s => s.drew) ?_
                refine AL.take (i := 0) rfl (by kernel_rfl) (by kernel_rfl) (by kernel_rfl) (Runs.free rfl) rfl rfl (ov_fieldAddr Tryd.underlying80 rfl rfl rfl Tryd.sizeOf3 rfl rfl) ?_
                refine AL.take (i := 2) rfl (by kernel_rfl) (by kernel_rfl) (by kernel_rfl) (Runs.free rfl) rfl rfl (ov_fieldAddr Tryd.underlying38 rfl rfl rfl Tryd.sizeOf3 rfl rfl) ?_
                refine AL.take (i := 3) rfl (by kernel_rfl) (by kernel_rfl) (by kernel_rfl) (Runs.free rfl) rfl rfl (ov_load_box (i := 3) Tryd.isAgg3 rfl rfl rfl rfl) ?_
                refine AL.take (i := 5) rfl (by kernel_rfl) (by kernel_rfl) (by kernel_rfl) (Runs.free rfl) rfl rfl (ov_fieldAddr Tryd.underlying80 rfl rfl rfl Tryd.sizeOf3 rfl rfl) ?_
                refine AL.take (i := 7) rfl (by kernel_rfl) (by kernel_rfl) (by kernel_rfl) (Runs.free rfl) rfl rfl (ov_fieldAddr Tryd.underlying38 rfl rfl rfl Tryd.sizeOf3 rfl rfl) ?_
                refine AL.take (i := 8) rfl (by kernel_rfl) (by kernel_rfl) (by kernel_rfl) (Runs.free rfl) rfl rfl (ov_load_box (i := 3) Tryd.isAgg3 rfl rfl rfl rfl) ?_
                refine AL.take (i := 9) rfl (by kernel_rfl) (by kernel_rfl) (by kernel_rfl) (Runs.free rfl) rfl rfl (ov_fieldAddr Tryd.underlying38 rfl rfl rfl Tryd.sizeOf3 rfl rfl) ?_
                refine AL.take (i := 10) rfl (by kernel_rfl) (by kernel_rfl) (by kernel_rfl) (Runs.free rfl) rfl rfl (ov_load_box (i := 3) Tryd.isAgg3 rfl rfl rfl rfl) ?_
                refine AL.take (i := 11) rfl (by kernel_rfl) (by kernel_rfl) (by kernel_rfl) (Runs.free rfl) rfl rfl (ov_mul rfl rfl rfl) ?_
                refine AL.any (rs := [1, 6]) (by kernel_rfl) (by decide) ?_
                refine ALs.cons (i := 1) rfl (Runs.free rfl) rfl rfl ?_ ?_
                · skip
                  refine OQ.step (OV.quiet (ov_load_box (i := 0) Tryd.isAgg3 rfl rfl rfl rfl)) ?_
                  refine ⟨fun w' s => (s.select [1, 2, 3, 4, 5] (by decide) rfl), ?_⟩
                  refine AL.take (i := 4) rfl (by kernel_rfl) (by kernel_rfl) (by kernel_rfl) (Runs.free rfl) rfl rfl (ov_add rfl rfl rfl) ?_
                  refine AL.any (rs := [6]) (by kernel_rfl) (by decide) ?_
                  refine ALs.cons (i := 6) rfl (Runs.free rfl) rfl rfl ?_ ?_
                  · skip
                    refine OQ.step (OV.quiet (ov_load_box (i := 0) Tryd.isAgg3 rfl rfl rfl rfl)) ?_
                    refine ⟨fun w' s => (s.select [1, 2, 3, 4, 5] (by decide) rfl), ?_⟩
                    refine AL.take (i := 12) rfl (by kernel_rfl) (by kernel_rfl) (by kernel_rfl) (Runs.free rfl) rfl rfl (ov_add rfl rfl rfl) ?_
                    refine AL.take (i := 13) rfl (by kernel_rfl) (by kernel_rfl) (by kernel_rfl) (Runs.free rfl) rfl rfl (ov_fieldAddr Tryd.underlying80 rfl rfl rfl Tryd.sizeOf3 rfl rfl) ?_
                    refine AL.any (rs := [14]) (by kernel_rfl) (by decide) ?_
                    refine ALs.cons0 (i := 14) rfl (Runs.free rfl) rfl ?_ ?_
                    · skip
                      refine os_store (i := 0) (vs := [(.int .i64 (IntKind.wrap .i64 (x1.cycles + p_x.count)))]) (cs' := [(mkS x1.name), (.int .i64 x1.life), (.int .i64 x1.used), (.int .i64 x1.faults), (.bool x1.faulty), (.int .i64 x1.since), (.int .i64 (IntKind.wrap .i64 (x1.cycles + p_x.count)))]) Tryd.sizeOf3 rfl rfl rfl rfl rfl rfl rfl rfl rfl ?_
                      refine ⟨fun w' s => (s.select [1, 2, 3, 4, 5] (by decide) rfl), ?_⟩
                      refine AL.take (i := 15) rfl (by kernel_rfl) (by kernel_rfl) (by kernel_rfl) (Runs.free rfl) rfl rfl (ov_fieldAddr Tryd.underlying80 rfl rfl rfl Tryd.sizeOf3 rfl rfl) ?_
                      refine AL.any (rs := [16]) (by kernel_rfl) (by decide) ?_
                      refine ALs.cons0 (i := 16) rfl (Runs.free rfl) rfl ?_ ?_
                      · skip
                        refine os_store (i := 0) (vs := [(.int .i64 (IntKind.wrap .i64 (x1.used + (IntKind.wrap .i64 (p_x.count * p_x.strokes)))))]) (cs' := [(mkS x1.name), (.int .i64 x1.life), (.int .i64 (IntKind.wrap .i64 (x1.used + (IntKind.wrap .i64 (p_x.count * p_x.strokes))))), (.int .i64 x1.faults), (.bool x1.faulty), (.int .i64 x1.since), (.int .i64 (IntKind.wrap .i64 (x1.cycles + p_x.count)))]) Tryd.sizeOf3 rfl rfl rfl rfl rfl rfl rfl rfl rfl ?_
                        refine ⟨fun w' s => (s.select [1, 2, 3, 4, 5] (by decide) rfl), ?_⟩
                        refine AL.done (by kernel_rfl) ?_
                        refine block_normal ?_
                        refine then_normal ?_
                        exact ⟨(IntKind.wrap .i64 (p_m.cycles + p_x.count)), x1.name, x1.life, (IntKind.wrap .i64 (x1.used + (IntKind.wrap .i64 (p_x.count * p_x.strokes)))), x1.faults, x1.faulty, x1.since, (IntKind.wrap .i64 (x1.cycles + p_x.count)), (Sub.cons rfl (Sub.cons rfl (Sub.cons rfl (Sub.cons rfl (Sub.nil _))))), fun w' s => (s.select [0, 1, 2, 3] (by decide) rfl), hm⟩
                      exact ALs.nil
                    exact ALs.nil
                  exact ALs.nil
                refine ALs.cons (i := 6) rfl (Runs.free rfl) rfl rfl ?_ ?_
                · skip
                  refine OQ.step (OV.quiet (ov_load_box (i := 0) Tryd.isAgg3 rfl rfl rfl rfl)) ?_
                  refine ⟨fun w' s => (s.select [1, 2, 3, 4, 5] (by decide) rfl), ?_⟩
                  refine AL.take (i := 12) rfl (by kernel_rfl) (by kernel_rfl) (by kernel_rfl) (Runs.free rfl) rfl rfl (ov_add rfl rfl rfl) ?_
                  refine AL.any (rs := [1]) (by kernel_rfl) (by decide) ?_
                  refine ALs.cons (i := 1) rfl (Runs.free rfl) rfl rfl ?_ ?_
                  · skip
                    refine OQ.step (OV.quiet (ov_load_box (i := 0) Tryd.isAgg3 rfl rfl rfl rfl)) ?_
                    refine ⟨fun w' s => (s.select [1, 2, 3, 4, 5] (by decide) rfl), ?_⟩
                    refine AL.take (i := 4) rfl (by kernel_rfl) (by kernel_rfl) (by kernel_rfl) (Runs.free rfl) rfl rfl (ov_add rfl rfl rfl) ?_
                    refine AL.take (i := 13) rfl (by kernel_rfl) (by kernel_rfl) (by kernel_rfl) (Runs.free rfl) rfl rfl (ov_fieldAddr Tryd.underlying80 rfl rfl rfl Tryd.sizeOf3 rfl rfl) ?_
                    refine AL.any (rs := [14]) (by kernel_rfl) (by decide) ?_
                    refine ALs.cons0 (i := 14) rfl (Runs.free rfl) rfl ?_ ?_
                    · skip
                      refine os_store (i := 0) (vs := [(.int .i64 (IntKind.wrap .i64 (x1.cycles + p_x.count)))]) (cs' := [(mkS x1.name), (.int .i64 x1.life), (.int .i64 x1.used), (.int .i64 x1.faults), (.bool x1.faulty), (.int .i64 x1.since), (.int .i64 (IntKind.wrap .i64 (x1.cycles + p_x.count)))]) Tryd.sizeOf3 rfl rfl rfl rfl rfl rfl rfl rfl rfl ?_
                      refine ⟨fun w' s => (s.select [1, 2, 3, 4, 5] (by decide) rfl), ?_⟩
                      refine AL.take (i := 15) rfl (by kernel_rfl) (by kernel_rfl) (by kernel_rfl) (Runs.free rfl) rfl rfl (ov_fieldAddr Tryd.underlying80 rfl rfl rfl Tryd.sizeOf3 rfl rfl) ?_
                      refine AL.any (rs := [16]) (by kernel_rfl) (by decide) ?_
                      refine ALs.cons0 (i := 16) rfl (Runs.free rfl) rfl ?_ ?_
                      · skip
                        refine os_store (i := 0) (vs := [(.int .i64 (IntKind.wrap .i64 (x1.used + (IntKind.wrap .i64 (p_x.count * p_x.strokes)))))]) (cs' := [(mkS x1.name), (.int .i64 x1.life), (.int .i64 (IntKind.wrap .i64 (x1.used + (IntKind.wrap .i64 (p_x.count * p_x.strokes))))), (.int .i64 x1.faults), (.bool x1.faulty), (.int .i64 x1.since), (.int .i64 (IntKind.wrap .i64 (x1.cycles + p_x.count)))]) Tryd.sizeOf3 rfl rfl rfl rfl rfl rfl rfl rfl rfl ?_
                        refine ⟨fun w' s => (s.select [1, 2, 3, 4, 5] (by decide) rfl), ?_⟩
                        refine AL.done (by kernel_rfl) ?_
                        refine block_normal ?_
                        refine then_normal ?_
                        exact ⟨(IntKind.wrap .i64 (p_m.cycles + p_x.count)), x1.name, x1.life, (IntKind.wrap .i64 (x1.used + (IntKind.wrap .i64 (p_x.count * p_x.strokes)))), x1.faults, x1.faulty, x1.since, (IntKind.wrap .i64 (x1.cycles + p_x.count)), (Sub.cons rfl (Sub.cons rfl (Sub.cons rfl (Sub.cons rfl (Sub.nil _))))), fun w' s => (s.select [0, 1, 2, 3] (by decide) rfl), hm⟩
                      exact ALs.nil
                    exact ALs.nil
                  exact ALs.nil
                exact ALs.nil
          · replace hm := ite_f hc6 hm
            refine WP.seq ?_
            refine WP.region ?_
            refine WL.quiet (Runs.free rfl) rfl rfl (OV.quiet (ov_eql rfl rfl rfl)) ?_
            refine WL.quiet (Runs.free rfl) rfl rfl (OV.quiet (ov_assign rfl rfl)) ?_
            refine WL.nil ?_
            refine then_normal ?_
            refine WP.cond rfl (fun hc10 => ?_) (fun hc10 => ?_)
            · replace hm := ite_t hc10 hm
              refine WP.seq ?_
              refine WP.seq ?_
              refine WP.region ?_
              refine WL.quiet (Runs.free rfl) rfl rfl (OV.quiet (ov_fieldAddr Tryd.underlying80 rfl rfl rfl Tryd.sizeOf4 rfl rfl)) ?_
              refine WL.quiet (Runs.free rfl) rfl rfl (OV.quiet (ov_load_box (i := 0) Tryd.isAgg4 rfl rfl rfl rfl)) ?_
              refine WL.nil ?_
              refine then_normal ?_
              refine WP.cond rfl (fun hc11 => ?_) (fun hc11 => ?_)
              · replace hm := ite_t hc11 hm
                refine WP.seq ?_
                refine WP.region ?_
                refine WL.quiet (Runs.free rfl) rfl rfl (OV.quiet (ov_build (r := (.agg #[(.slice none 0 0), (.int .i64 0)])) rfl rfl (fun _ => by kernel_rfl))) ?_
                refine WL.step0 (Runs.free rfl) rfl (os_store (i := 3) (vs := [(.slice none 0 0), (.int .i64 0)]) (cs' := [(.slice none 0 0), (.int .i64 0)]) Tryd.sizeOf34 rfl rfl rfl rfl rfl rfl rfl rfl rfl ?_)
                refine WL.quiet (Runs.free rfl) rfl rfl (OV.quiet (ov_assign rfl rfl)) ?_
                refine WL.nil ?_
                refine then_normal ?_
                refine WP.ret ?_
                refine then_ret ?_
                refine block_ret ?_
                refine then_ret ?_
                obtain rfl := Option.some.inj hm
                refine retQ_ret Tryd.results37 (Res.cell rfl (box_loads (i := 3) Tryd.isAgg34 Tryd.sizeOf34 rfl rfl) (Res.tmp rfl Res.nil)) rfl (fun w' s => ⟨s.below, ?_⟩)
                exact ⟨none, 0, rfl, SL.nil _ _ _, Nat.le_refl _⟩
              · replace hm := ite_f hc11 hm
                refine WP.skip ?_
                refine then_normal ?_
                refine WP.seq ?_
                refine WP.seq ?_
                refine WP.region ?_
                refine WL.quiet (Runs.free rfl) rfl rfl (OV.quiet (ov_fieldAddr Tryd.underlying80 rfl rfl rfl Tryd.sizeOf3 rfl rfl)) ?_
                refine WL.quiet (Runs.free rfl) rfl rfl (OV.quiet (ov_load_box (i := 0) Tryd.isAgg3 rfl rfl rfl rfl)) ?_
                refine WL.quiet (Runs.free rfl) rfl rfl (OV.quiet (ov_eql rfl rfl rfl)) ?_
                refine WL.nil ?_
                refine then_normal ?_
                refine WP.cond rfl (fun hc12 => ?_) (fun hc12 => ?_)
                · replace hm := ite_t hc12 hm
                  refine WP.seq ?_
                  refine WP.region ?_
                  refine WL.quiet (Runs.free rfl) rfl rfl (OV.quiet (ov_build (r := (.agg #[(.slice none 0 0), (.int .i64 0)])) rfl rfl (fun _ => by kernel_rfl))) ?_
                  refine WL.step0 (Runs.free rfl) rfl (os_store (i := 3) (vs := [(.slice none 0 0), (.int .i64 0)]) (cs' := [(.slice none 0 0), (.int .i64 0)]) Tryd.sizeOf34 rfl rfl rfl rfl rfl rfl rfl rfl rfl ?_)
                  refine WL.quiet (Runs.free rfl) rfl rfl (OV.quiet (ov_assign rfl rfl)) ?_
                  refine WL.nil ?_
                  refine then_normal ?_
                  refine WP.ret ?_
                  refine then_ret ?_
                  refine block_ret ?_
                  refine then_ret ?_
                  obtain rfl := Option.some.inj hm
                  refine retQ_ret Tryd.results37 (Res.cell rfl (box_loads (i := 3) Tryd.isAgg34 Tryd.sizeOf34 rfl rfl) (Res.tmp rfl Res.nil)) rfl (fun w' s => ⟨s.below, ?_⟩)
                  exact ⟨none, 0, rfl, SL.nil _ _ _, Nat.le_refl _⟩
                · replace hm := ite_f hc12 hm
                  refine WP.skip ?_
                  refine then_normal ?_
                  refine WP.region ?_
                  refine WL.quiet (Runs.free rfl) rfl rfl (OV.quiet (ov_fieldAddr Tryd.underlying80 rfl rfl rfl Tryd.sizeOf3 rfl rfl)) ?_
                  refine WL.quiet (Runs.free rfl) rfl rfl (OV.quiet (ov_load_box (i := 0) Tryd.isAgg3 rfl rfl rfl rfl)) ?_
                  refine WL.quiet (Runs.free rfl) rfl rfl (OV.quiet (ov_add rfl rfl rfl)) ?_
                  refine WL.quiet (Runs.free rfl) rfl rfl (OV.quiet (ov_fieldAddr Tryd.underlying80 rfl rfl rfl Tryd.sizeOf4 rfl rfl)) ?_
                  refine WL.step0 (Runs.free rfl) rfl (os_store (i := 0) (vs := [(.bool true)]) (cs' := [(mkS x1.name), (.int .i64 x1.life), (.int .i64 x1.used), (.int .i64 x1.faults), (.bool true), (.int .i64 x1.since), (.int .i64 x1.cycles)]) Tryd.sizeOf4 rfl rfl rfl rfl rfl rfl rfl rfl rfl ?_)
                  refine WL.quiet (Runs.free rfl) rfl rfl (OV.quiet (ov_fieldAddr Tryd.underlying80 rfl rfl rfl Tryd.sizeOf3 rfl rfl)) ?_
                  refine WL.step0 (Runs.free rfl) rfl (os_store (i := 0) (vs := [(.int .i64 (IntKind.wrap .i64 (x1.faults + 1)))]) (cs' := [(mkS x1.name), (.int .i64 x1.life), (.int .i64 x1.used), (.int .i64 (IntKind.wrap .i64 (x1.faults + 1))), (.bool true), (.int .i64 x1.since), (.int .i64 x1.cycles)]) Tryd.sizeOf3 rfl rfl rfl rfl rfl rfl rfl rfl rfl ?_)
                  refine WL.nil ?_
                  refine block_normal ?_
                  refine then_normal ?_
                  exact ⟨p_m.cycles, x1.name, x1.life, x1.used, (IntKind.wrap .i64 (x1.faults + 1)), true, x1.since, x1.cycles, (Sub.cons rfl (Sub.cons rfl (Sub.cons rfl (Sub.cons rfl (Sub.nil _))))), fun w' s => (s.select [0, 1, 2, 3] (by decide) rfl), hm⟩
            · replace hm := ite_f hc10 hm
              refine WP.seq ?_
              refine WP.region ?_
              refine WL.quiet (Runs.free rfl) rfl rfl (OV.quiet (ov_eql rfl rfl rfl)) ?_
              refine WL.quiet (Runs.free rfl) rfl rfl (OV.quiet (ov_assign rfl rfl)) ?_
              refine WL.nil ?_
              refine then_normal ?_
              refine WP.cond rfl (fun hc13 => ?_) (fun hc13 => ?_)
              · replace hm := ite_t hc13 hm
                refine WP.seq ?_
                refine WP.seq ?_
                refine WP.region ?_
                refine WL.quiet (Runs.free rfl) rfl rfl (OV.quiet (ov_fieldAddr Tryd.underlying80 rfl rfl rfl Tryd.sizeOf4 rfl rfl)) ?_
                refine WL.quiet (Runs.free rfl) rfl rfl (OV.quiet (ov_load_box (i := 0) Tryd.isAgg4 rfl rfl rfl rfl)) ?_
                refine WL.quiet (Runs.free rfl) rfl rfl (OV.quiet (ov_not rfl rfl)) ?_
                refine WL.nil ?_
                refine then_normal ?_
                refine WP.cond rfl (fun hc14 => ?_) (fun hc14 => ?_)
                · replace hm := ite_t hc14 hm
                  refine WP.seq ?_
                  refine WP.region ?_
                  refine WL.quiet (Runs.free rfl) rfl rfl (OV.quiet (ov_build (r := (.agg #[(.slice none 0 0), (.int .i64 0)])) rfl rfl (fun _ => by kernel_rfl))) ?_
                  refine WL.step0 (Runs.free rfl) rfl (os_store (i := 3) (vs := [(.slice none 0 0), (.int .i64 0)]) (cs' := [(.slice none 0 0), (.int .i64 0)]) Tryd.sizeOf34 rfl rfl rfl rfl rfl rfl rfl rfl rfl ?_)
                  refine WL.quiet (Runs.free rfl) rfl rfl (OV.quiet (ov_assign rfl rfl)) ?_
                  refine WL.nil ?_
                  refine then_normal ?_
                  refine WP.ret ?_
                  refine then_ret ?_
                  refine block_ret ?_
                  refine then_ret ?_
                  obtain rfl := Option.some.inj hm
                  refine retQ_ret Tryd.results37 (Res.cell rfl (box_loads (i := 3) Tryd.isAgg34 Tryd.sizeOf34 rfl rfl) (Res.tmp rfl Res.nil)) rfl (fun w' s => ⟨s.below, ?_⟩)
                  exact ⟨none, 0, rfl, SL.nil _ _ _, Nat.le_refl _⟩
                · replace hm := ite_f hc14 hm
                  refine WP.skip ?_
                  refine then_normal ?_
                  refine WP.region ?_
                  refine WL.quiet (Runs.free rfl) rfl rfl (OV.quiet (ov_fieldAddr Tryd.underlying80 rfl rfl rfl Tryd.sizeOf4 rfl rfl)) ?_
                  refine WL.step0 (Runs.free rfl) rfl (os_store (i := 0) (vs := [(.bool false)]) (cs' := [(mkS x1.name), (.int .i64 x1.life), (.int .i64 x1.used), (.int .i64 x1.faults), (.bool false), (.int .i64 x1.since), (.int .i64 x1.cycles)]) Tryd.sizeOf4 rfl rfl rfl rfl rfl rfl rfl rfl rfl ?_)
                  refine WL.nil ?_
                  refine block_normal ?_
                  refine then_normal ?_
                  exact ⟨p_m.cycles, x1.name, x1.life, x1.used, x1.faults, false, x1.since, x1.cycles, (Sub.cons rfl (Sub.cons rfl (Sub.cons rfl (Sub.cons rfl (Sub.nil _))))), fun w' s => (s.select [0, 1, 2, 3] (by decide) rfl), hm⟩
              · replace hm := ite_f hc13 hm
                refine WP.seq ?_
                refine WP.region ?_
                refine WL.quiet (Runs.free rfl) rfl rfl (OV.quiet (ov_eql rfl rfl rfl)) ?_
                refine WL.quiet (Runs.free rfl) rfl rfl (OV.quiet (ov_assign rfl rfl)) ?_
                refine WL.nil ?_
                refine then_normal ?_
                refine WP.cond rfl (fun hc15 => ?_) (fun hc15 => ?_)
                · replace hm := ite_t hc15 hm
                  refine WP.region ?_
                  refine WL.quiet (Runs.free rfl) rfl rfl (OV.quiet (ov_fieldAddr Tryd.underlying38 rfl rfl rfl Tryd.sizeOf9 rfl rfl)) ?_
                  refine WL.quiet (Runs.free rfl) rfl rfl (OV.quiet (ov_load_box (i := 4) Tryd.isAgg9 rfl rfl rfl rfl)) ?_
                  refine WL.quiet (Runs.free rfl) rfl rfl (OV.quiet (ov_fieldAddr Tryd.underlying38 rfl rfl rfl Tryd.sizeOf3 rfl rfl)) ?_
                  refine WL.quiet (Runs.free rfl) rfl rfl (OV.quiet (ov_load_box (i := 4) Tryd.isAgg3 rfl rfl rfl rfl)) ?_
                  refine WL.quiet (Runs.free rfl) rfl rfl (OV.quiet (ov_fieldAddr Tryd.underlying34 rfl rfl rfl Tryd.sizeOf3 rfl rfl)) ?_
                  refine WL.quiet (Runs.free rfl) rfl rfl (OV.quiet (ov_load_box (i := 5) Tryd.isAgg3 rfl rfl rfl rfl)) ?_
                  refine WL.quiet (Runs.free rfl) rfl rfl (OV.quiet (ov_build (r := (.agg #[(mkS p_x.name), (.int .i64 p_x.count), (.int .i64 0), (.int .i64 0), (.bool false), (.int .i64 p_m.cycles), (.int .i64 0)])) rfl rfl (fun _ => by kernel_rfl))) ?_
                  refine WL.step0 (Runs.free rfl) rfl (os_store (i := 0) (vs := [(mkS p_x.name), (.int .i64 p_x.count), (.int .i64 0), (.int .i64 0), (.bool false), (.int .i64 p_m.cycles), (.int .i64 0)]) (cs' := [(mkS p_x.name), (.int .i64 p_x.count), (.int .i64 0), (.int .i64 0), (.bool false), (.int .i64 p_m.cycles), (.int .i64 0)]) Tryd.sizeOf80 rfl rfl rfl rfl rfl rfl rfl rfl rfl ?_)
                  refine WL.nil ?_
                  refine block_normal ?_
                  refine then_normal ?_
                  exact ⟨p_m.cycles, p_x.name, p_x.count, 0, 0, false, p_m.cycles, 0, (Sub.cons rfl (Sub.cons rfl (Sub.cons rfl (Sub.cons rfl (Sub.nil _))))), fun w' s => (s.select [0, 1, 2, 3] (by decide) rfl), hm⟩
                · replace hm := ite_f hc15 hm
                  refine WP.seq ?_
                  refine WP.region ?_
                  refine WL.quiet (Runs.free rfl) rfl rfl (OV.quiet (ov_eql rfl rfl rfl)) ?_
                  refine WL.quiet (Runs.free rfl) rfl rfl (OV.quiet (ov_assign rfl rfl)) ?_
                  refine WL.nil ?_
                  refine then_normal ?_
                  refine WP.cond rfl (fun hc16 => ?_) (fun hc16 => ?_)
                  · replace hm := ite_t hc16 hm
                    refine WP.seq ?_
                    refine WP.region_any (S₀ := St w H [.blk b10 80 [(mkS x1.name), (.int .i64 x1.life), (.int .i64 x1.used), (.int .i64 x1.faults), (.bool x1.faulty), (.int .i64 x1.since), (.int .i64 x1.cycles)], .row 80 (encItem).size l4.length (.slice ao7 l4.length cap7) xs1, .blk b3 34 [(.slice none 0 0), (.int .i64 0)], .blk b2 38 [(.int .i64 p_x.kind), (mkS p_x.name), (.int .i64 p_x.count), (.int .i64 p_x.strokes)], .blk b1 34 [(.slice ao1 p_m.items.length cap1), (.int .i64 p_m.cycles)]] H) 14 rfl (by kernel_rfl) (fun w' s => (s.select [0, 2, 3, 4, 5] (by decide) rfl)) (fun _ s => s.drew) ?_
                    refine AL.take (i := 1) rfl (by kernel_rfl) (by kernel_rfl) (by kernel_rfl) (Runs.free rfl) rfl rfl (ov_fieldAddr Tryd.underlying34 rfl rfl rfl Tryd.sizeOf32 rfl rfl) ?_
                    refine AL.take (i := 2) rfl (by kernel_rfl) (by kernel_rfl) (by kernel_rfl) (Runs.free rfl) rfl rfl (ov_load_box (i := 4) Tryd.isAgg32 rfl rfl rfl rfl) ?_
                    refine AL.take (i := 3) rfl (by kernel_rfl) (by kernel_rfl) (by kernel_rfl) (Runs.free rfl) rfl rfl (ov_move rfl rfl) ?_
                    obtain ⟨l5, e7, hm⟩ := bind_some hm
                    obtain ⟨ao8, cap8, h9, h10, hc17⟩ := sl_h h1 hc1 e7
                    refine AL.take (i := 4) rfl (by kernel_rfl) (by kernel_rfl) (by kernel_rfl) (Runs.free rfl) rfl rfl (h9 Tryd.underlying32 Tryd.sizeOf80 rfl rfl rfl ) ?_
                    refine AL.take (i := 6) rfl (by kernel_rfl) (by kernel_rfl) (by kernel_rfl) (Runs.free rfl) rfl rfl (ov_fieldAddr Tryd.underlying34 rfl rfl rfl Tryd.sizeOf32 rfl rfl) ?_
                    refine AL.take (i := 7) rfl (by kernel_rfl) (by kernel_rfl) (by kernel_rfl) (Runs.free rfl) rfl rfl (ov_load_box (i := 4) Tryd.isAgg32 rfl rfl rfl rfl) ?_
                    refine AL.take (i := 8) rfl (by kernel_rfl) (by kernel_rfl) (by kernel_rfl) (Runs.free rfl) rfl rfl (ov_move rfl rfl) ?_
                    refine AL.take (i := 9) rfl (by kernel_rfl) (by kernel_rfl) (by kernel_rfl) (Runs.free rfl) rfl rfl (ov_add rfl rfl rfl) ?_
                    obtain ⟨l6, e8, hm⟩ := bind_some hm
                    obtain ⟨ao9, cap9, h11, h12, hc18⟩ := sl_l h1 hc1 e8
                    refine AL.take (i := 10) rfl (by kernel_rfl) (by kernel_rfl) (by kernel_rfl) (Runs.free rfl) rfl rfl (h11 Tryd.underlying32 Tryd.sizeOf80 rfl rfl rfl ) ?_
                    refine AL.any (rs := [0]) (by kernel_rfl) (by decide) ?_
                    refine ALs.cons (i := 0) rfl (Runs.free rfl) rfl rfl ?_ ?_
                    · skip
                      have rl7 : RL H encItem ([] : List Item) [] := RL.nil _ _
                      refine os_buildSlice (cs := []) (E := 80) (sz := 7) rfl rfl (fun _ => by kernel_rfl) rfl (by decide) (fun b11 => ?_)
                      refine ⟨fun w' s => (s.select [1, 3, 4, 5, 6] (by decide) rfl), ?_⟩
                      refine AL.any (rs := [5]) (by kernel_rfl) (by decide) ?_
                      refine ALs.cons (i := 5) rfl (Runs.free rfl) rfl rfl ?_ ?_
                      · skip
                        obtain ⟨l7, e9, hm⟩ := bind_some hm
                        refine os_app_sl (i := 0) (En := encItem) (xs := []) Tryd.underlying32 (by kernel_rfl : (Tryd.prog.info? 80).map (fun i => (i.zero, i.size, i.bytes)) = some (some (.agg #[(mkS []), (.int .i64 0), (.int .i64 0), (.int .i64 0), (.bool false), (.int .i64 0), (.int .i64 0)]), (encItem).size, 64)) rfl (by decide) one_encItem rfl rfl rfl rfl h10 hc17 rl7 e9 (fun ao10 cap10 ys4 rl8 => ?_)
                        refine ⟨fun w' s => (s.select [1, 3, 4, 5, 6] (by decide) rfl), ?_⟩
                        refine AL.any (rs := [11]) (by kernel_rfl) (by decide) ?_
                        refine ALs.cons (i := 11) rfl (Runs.free rfl) rfl rfl ?_ ?_
                        · skip
                          obtain ⟨l8, e10, hm⟩ := bind_some hm
                          refine os_app_sl (i := 0) (En := encItem) (xs := ([] ++ ys4)) Tryd.underlying32 (by kernel_rfl : (Tryd.prog.info? 80).map (fun i => (i.zero, i.size, i.bytes)) = some (some (.agg #[(mkS []), (.int .i64 0), (.int .i64 0), (.int .i64 0), (.bool false), (.int .i64 0), (.int .i64 0)]), (encItem).size, 64)) rfl (by decide) one_encItem rfl rfl rfl rfl h12 hc18 rl8 e10 (fun ao11 cap11 ys5 rl9 => ?_)
                          refine ⟨fun w' s => (s.select [1, 3, 4, 5, 6] (by decide) rfl), ?_⟩
                          refine AL.take (i := 12) rfl (by kernel_rfl) (by kernel_rfl) (by kernel_rfl) (Runs.free rfl) rfl rfl (ov_fieldAddr Tryd.underlying34 rfl rfl rfl Tryd.sizeOf32 rfl rfl) ?_
                          refine AL.any (rs := [13]) (by kernel_rfl) (by decide) ?_
                          refine ALs.cons0 (i := 13) rfl (Runs.free rfl) rfl ?_ ?_
                          · skip
                            refine os_store (i := 2) (vs := [(.slice ao11 ((([] : List Item) ++ l5) ++ l6).length cap11)]) (cs' := [(.slice ao11 ((([] : List Item) ++ l5) ++ l6).length cap11), (.int .i64 p_m.cycles)]) Tryd.sizeOf32 rfl rfl rfl rfl rfl rfl rfl rfl rfl ?_
                            refine ⟨fun w' s => (s.select [1, 3, 4, 5, 6] (by decide) rfl), ?_⟩
                            refine AL.done (by kernel_rfl) ?_
                            refine then_normal ?_
                            refine WP.seq ?_
                            refine WP.region ?_
                            refine WL.quiet (Runs.free rfl) rfl rfl (OV.quiet (ov_load_whole (i := 2) Tryd.isAgg34 Tryd.sizeOf34 rfl rfl rfl rfl)) ?_
                            refine WL.step0 (Runs.free rfl) rfl (os_store (i := 4) (vs := [(.slice ao11 ((([] : List Item) ++ l5) ++ l6).length cap11), (.int .i64 p_m.cycles)]) (cs' := [(.slice ao11 ((([] : List Item) ++ l5) ++ l6).length cap11), (.int .i64 p_m.cycles)]) Tryd.sizeOf34 rfl rfl rfl rfl rfl rfl rfl rfl rfl ?_)
                            refine WL.quiet (Runs.free rfl) rfl rfl (OV.quiet (ov_assign rfl rfl)) ?_
                            refine WL.nil ?_
                            refine then_normal ?_
                            refine WP.ret ?_
                            refine block_ret ?_
                            refine then_ret ?_
                            obtain rfl := Option.some.inj hm
                            refine retQ_ret Tryd.results37 (Res.cell rfl (box_loads (i := 4) Tryd.isAgg34 Tryd.sizeOf34 rfl rfl) (Res.tmp rfl Res.nil)) rfl (fun w' s => ⟨s.below, ?_⟩)
                            obtain ⟨h13, hc19⟩ := s.ret_row (i := 0) rfl rl9
                            exact ⟨ao11, cap11, rfl, h13, hc19⟩
                          exact ALs.nil
                        exact ALs.nil
                      exact ALs.nil
                    exact ALs.nil
                  · replace hm := ite_f hc16 hm
                    refine WP.skip ?_
                    refine block_normal ?_
                    refine then_normal ?_
                    exact ⟨p_m.cycles, x1.name, x1.life, x1.used, x1.faults, x1.faulty, x1.since, x1.cycles, (Sub.cons rfl (Sub.cons rfl (Sub.cons rfl (Sub.cons rfl (Sub.nil _))))), fun w' s => (s.select [0, 1, 2, 3] (by decide) rfl), hm⟩
        · rintro g' S' ⟨i1, s1, i2, i3, i4, c1, i5, i6, hsub2, hS2, hm⟩
          refine WP.sub hsub2 (WP.weaken hS2 ?_)
          replace hm := (congrFun (congrFun (congrFun (congrFun (congrFun (congrFun (congrFun (congrFun hk2 i1) s1) i2) i3) i4) c1) i5) i6).symm.trans hm
          refine WP.seq ?_
          refine WP.region ?_
          refine WL.quiet (Runs.free rfl) rfl rfl (OV.quiet (ov_fieldAddr Tryd.underlying34 rfl rfl rfl Tryd.sizeOf32 rfl rfl)) ?_
          refine WL.quiet (Runs.free rfl) rfl rfl (OV.quiet (ov_load_box (i := 1) Tryd.isAgg32 rfl rfl rfl rfl)) ?_
          refine WL.quiet (Runs.free rfl) rfl rfl (OV.quiet (ov_move rfl rfl)) ?_
          refine WL.quiet (Runs.free rfl) rfl rfl (OV.quiet (ov_load_whole (i := 0) Tryd.isAgg80 Tryd.sizeOf80 rfl rfl rfl rfl)) ?_
          obtain ⟨x2, e11, hm⟩ := bind_some hm
          obtain ⟨h14, h15, h16, cs2, h17, h18⟩ := RL.get rl6 e11
          obtain rfl : cs2 = [(mkS x2.name), (.int .i64 x2.life), (.int .i64 x2.used), (.int .i64 x2.faults), (.bool x2.faulty), (.int .i64 x2.since), (.int .i64 x2.cycles)] := h17
          refine WL.quiet (Runs.free rfl) rfl rfl (OV.quiet (ov_indexAddr_own (i := 2) Tryd.underlying32 Tryd.sizeOf80 rfl rfl rfl rfl h14 h15)) ?_
          have rl10 := RL.set rl6 (y := (Item.mk s1 i2 i3 i4 c1 i5 i6)) (off := 0) (vs := [(mkS s1), (.int .i64 i2), (.int .i64 i3), (.int .i64 i4), (.bool c1), (.int .i64 i5), (.int .i64 i6)]) e11 h18 rfl (Nat.le_of_ble_eq_true rfl)
          have e12 := at?_set (y := (Item.mk s1 i2 i3 i4 c1 i5 i6)) e11
          refine WL.step0 (Runs.free rfl) rfl (os_store_own (i := 2) (vs := [(mkS s1), (.int .i64 i2), (.int .i64 i3), (.int .i64 i4), (.bool c1), (.int .i64 i5), (.int .i64 i6)]) Tryd.sizeOf80 rfl rfl rfl rfl (own_pos h14 h15) rfl rfl (elem_le (off := 0) h16 (Nat.le_of_ble_eq_true rfl)) rfl ?_)
          rw [show l4.length = (List.set l4 (Int.toNat r2) (Item.mk s1 i2 i3 i4 c1 i5 i6)).length from List.length_set.symm]
          obtain ⟨h19, h20, h21, cs3, h22, h23⟩ := rl10.get e12
          obtain rfl : cs3 = [(mkS s1), (.int .i64 i2), (.int .i64 i3), (.int .i64 i4), (.bool c1), (.int .i64 i5), (.int .i64 i6)] := h22
          refine WL.nil ?_
          refine then_normal ?_
          refine WP.seq ?_
          refine WP.region ?_
          refine WL.quiet (Runs.free rfl) rfl rfl (OV.quiet (ov_load_whole (i := 1) Tryd.isAgg34 Tryd.sizeOf34 rfl rfl rfl rfl)) ?_
          refine WL.step0 (Runs.free rfl) rfl (os_store (i := 3) (vs := [(.slice ao7 (List.set l4 (Int.toNat r2) (Item.mk s1 i2 i3 i4 c1 i5 i6)).length cap7), (.int .i64 i1)]) (cs' := [(.slice ao7 (List.set l4 (Int.toNat r2) (Item.mk s1 i2 i3 i4 c1 i5 i6)).length cap7), (.int .i64 i1)]) Tryd.sizeOf34 rfl rfl rfl rfl rfl rfl rfl rfl rfl ?_)
          refine WL.quiet (Runs.free rfl) rfl rfl (OV.quiet (ov_assign rfl rfl)) ?_
          refine WL.nil ?_
          refine then_normal ?_
          refine WP.ret ?_
          obtain rfl := Option.some.inj hm
          refine retQ_ret Tryd.results37 (Res.cell rfl (box_loads (i := 3) Tryd.isAgg34 Tryd.sizeOf34 rfl rfl) (Res.tmp rfl Res.nil)) rfl (fun w' s => ⟨s.below, ?_⟩)
          obtain ⟨h24, hc20⟩ := s.ret_row (i := 2) rfl rl10
          exact ⟨ao7, cap7, rfl, h24, hc20⟩

theorem ref58_Do_con (p_m : Machine) (p_x : Entry) (ao1 : Option Addr) (cap1 : Nat) (w : World) (H : Heap) (hH : Le H (hp w)) (h1 : SL H encItem ao1 p_m.items) (hc1 : p_m.items.length ≤ cap1) (hG : Glob H) (r : (Machine × Int)) (hm : ref58_Do p_m p_x = some r) :
    Con Tryd.prog 11 [(.agg #[(.slice ao1 p_m.items.length cap1), (.int .i64 p_m.cycles)]), (.agg #[(.int .i64 p_x.kind), (mkS p_x.name), (.int .i64 p_x.count), (.int .i64 p_x.strokes)])] w H (fun v H' => ∃ (ao2 : Option Addr) (cap2 : Nat), v = (.tuple #[(.agg #[(.slice ao2 r.1.items.length cap2), (.int .i64 r.1.cycles)]), (.int .i64 r.2)]) ∧ SL H' encItem ao2 r.1.items ∧ r.1.items.length ≤ cap2) := by
  unfold ref58_Do at hm
  refine con_of hH Tryd.func11 rfl 25 Tryd.ntmps11 rfl ?_
  refine WP.seq ?_
  refine WP.region ?_
  refine WL.step (Runs.free rfl) rfl rfl (os_box (cs := [(.slice ao1 p_m.items.length cap1), (.int .i64 p_m.cycles)]) rfl rfl rfl (fun b1 => ?_))
  refine WL.step (Runs.free rfl) rfl rfl (os_box (cs := [(.int .i64 p_x.kind), (mkS p_x.name), (.int .i64 p_x.count), (.int .i64 p_x.strokes)]) rfl rfl rfl (fun b2 => ?_))
  refine WL.step (Runs.free rfl) rfl rfl (os_alloc (cs := [(.slice none 0 0), (.int .i64 0)]) Tryd.zeroValue34 rfl rfl (fun b3 => ?_))
  refine WL.quiet (Runs.free rfl) rfl rfl (OV.quiet (ov_assign rfl rfl)) ?_
  refine WL.nil ?_
  refine then_normal ?_
  refine WP.seq ?_
  refine WP.seq ?_
  refine WP.region ?_
  refine WL.quiet (Runs.free rfl) rfl rfl (OV.quiet (ov_load_whole (i := 2) Tryd.isAgg34 Tryd.sizeOf34 rfl rfl rfl rfl)) ?_
  obtain ⟨r1, e1, hm⟩ := bind_some hm
  refine WL.quiet (Runs.free rfl) rfl rfl (oq_con (r := (.int .i64 r1)) Tryd.call14 rfl rfl (fun w' s => ⟨_, (ref58_Check_con p_m ao1 cap1  w' H s.hold h1 hc1 hG r1 e1)⟩)) ?_
  refine WL.quiet (Runs.free rfl) rfl rfl (OV.quiet (ov_assign rfl rfl)) ?_
  refine WL.nil ?_
  refine then_normal ?_
  refine WP.seq ?_
  refine WP.region ?_
  refine WL.quiet (Runs.free rfl) rfl rfl (OV.quiet (ov_move rfl rfl)) ?_
  refine WL.quiet (Runs.free rfl) rfl rfl (OV.quiet (ov_neq rfl rfl rfl)) ?_
  refine WL.nil ?_
  refine then_normal ?_
  refine WP.cond rfl (fun hc3 => ?_) (fun hc3 => ?_)
  · replace hm := ite_t hc3 hm
    refine WP.seq ?_
    refine WP.region ?_
    refine WL.quiet (Runs.free rfl) rfl rfl (OV.quiet (ov_build (r := (.agg #[(.slice none 0 0), (.int .i64 0)])) rfl rfl (fun _ => by kernel_rfl))) ?_
    refine WL.quiet (Runs.free rfl) rfl rfl (OV.quiet (ov_move rfl rfl)) ?_
    refine WL.step0 (Runs.free rfl) rfl (os_store (i := 0) (vs := [(.slice none 0 0), (.int .i64 0)]) (cs' := [(.slice none 0 0), (.int .i64 0)]) Tryd.sizeOf34 rfl rfl rfl rfl rfl rfl rfl rfl rfl ?_)
    refine WL.quiet (Runs.free rfl) rfl rfl (OV.quiet (ov_assign rfl rfl)) ?_
    refine WL.nil ?_
    refine then_normal ?_
    refine WP.ret ?_
    refine then_ret ?_
    obtain rfl := Option.some.inj hm
    refine retQ_ret Tryd.results11 (Res.cell rfl (box_loads (i := 0) Tryd.isAgg34 Tryd.sizeOf34 rfl rfl) (Res.tmp rfl Res.nil)) rfl (fun w' s => ⟨s.below, ?_⟩)
    exact ⟨none, 0, rfl, SL.nil _ _ _, Nat.le_refl _⟩
  · replace hm := ite_f hc3 hm
    refine WP.skip ?_
    refine then_normal ?_
    refine WP.seq ?_
    refine WP.seq ?_
    refine WP.region ?_
    refine WL.quiet (Runs.free rfl) rfl rfl (OV.quiet (ov_load_whole (i := 1) Tryd.isAgg38 Tryd.sizeOf38 rfl rfl rfl rfl)) ?_
    obtain ⟨r2, e2, hm⟩ := bind_some hm
    refine WL.quiet (Runs.free rfl) rfl rfl (oq_con (r := (.int .i64 r2)) Tryd.call16 rfl rfl (fun w' s => ⟨_, (ref58_Right_con p_x  w' H s.hold hG r2 e2)⟩)) ?_
    refine WL.quiet (Runs.free rfl) rfl rfl (OV.quiet (ov_assign rfl rfl)) ?_
    refine WL.nil ?_
    refine then_normal ?_
    refine WP.seq ?_
    refine WP.region ?_
    refine WL.quiet (Runs.free rfl) rfl rfl (OV.quiet (ov_move rfl rfl)) ?_
    refine WL.quiet (Runs.free rfl) rfl rfl (OV.quiet (ov_neq rfl rfl rfl)) ?_
    refine WL.nil ?_
    refine then_normal ?_
    refine WP.cond rfl (fun hc4 => ?_) (fun hc4 => ?_)
    · replace hm := ite_t hc4 hm
      refine WP.seq ?_
      refine WP.region ?_
      refine WL.quiet (Runs.free rfl) rfl rfl (OV.quiet (ov_build (r := (.agg #[(.slice none 0 0), (.int .i64 0)])) rfl rfl (fun _ => by kernel_rfl))) ?_
      refine WL.quiet (Runs.free rfl) rfl rfl (OV.quiet (ov_move rfl rfl)) ?_
      refine WL.step0 (Runs.free rfl) rfl (os_store (i := 0) (vs := [(.slice none 0 0), (.int .i64 0)]) (cs' := [(.slice none 0 0), (.int .i64 0)]) Tryd.sizeOf34 rfl rfl rfl rfl rfl rfl rfl rfl rfl ?_)
      refine WL.quiet (Runs.free rfl) rfl rfl (OV.quiet (ov_assign rfl rfl)) ?_
      refine WL.nil ?_
      refine then_normal ?_
      refine WP.ret ?_
      refine then_ret ?_
      obtain rfl := Option.some.inj hm
      refine retQ_ret Tryd.results11 (Res.cell rfl (box_loads (i := 0) Tryd.isAgg34 Tryd.sizeOf34 rfl rfl) (Res.tmp rfl Res.nil)) rfl (fun w' s => ⟨s.below, ?_⟩)
      exact ⟨none, 0, rfl, SL.nil _ _ _, Nat.le_refl _⟩
    · replace hm := ite_f hc4 hm
      refine WP.skip ?_
      refine then_normal ?_
      refine WP.seq ?_
      refine WP.region ?_
      refine WL.quiet (Runs.free rfl) rfl rfl (OV.quiet (ov_load_whole (i := 2) Tryd.isAgg34 Tryd.sizeOf34 rfl rfl rfl rfl)) ?_
      refine WL.quiet (Runs.free rfl) rfl rfl (OV.quiet (ov_load_whole (i := 1) Tryd.isAgg38 Tryd.sizeOf38 rfl rfl rfl rfl)) ?_
      obtain ⟨r3, e3, hm⟩ := bind_some hm
      refine WL.step (Runs.free rfl) rfl rfl (os_con Tryd.call37 rfl rfl (fun w' s => (ref58_Done_con p_m p_x ao1 cap1  w' H s.hold h1 hc1 hG r3 e3)) (fun rr1 H1 hle1 hR1 => ?_))
      replace h1 := h1.mono hle1
      replace hG := hG.mono hle1
      obtain ⟨ao3, cap3, rfl, h3, hc5⟩ := hR1
      refine WL.quiet (Runs.free rfl) rfl rfl (OV.quiet (ov_extract rfl rfl rfl)) ?_
      refine WL.quiet (Runs.free rfl) rfl rfl (OV.quiet (ov_extract rfl rfl rfl)) ?_
      refine WL.step0 (Runs.free rfl) rfl (os_store (i := 0) (vs := [(.slice ao3 r3.1.items.length cap3), (.int .i64 r3.1.cycles)]) (cs' := [(.slice ao3 r3.1.items.length cap3), (.int .i64 r3.1.cycles)]) Tryd.sizeOf34 rfl rfl rfl rfl rfl rfl rfl rfl rfl ?_)
      refine WL.quiet (Runs.free rfl) rfl rfl (OV.quiet (ov_assign rfl rfl)) ?_
      refine WL.nil ?_
      refine then_normal ?_
      refine WP.ret ?_
      obtain rfl := Option.some.inj hm
      refine retQ_ret Tryd.results11 (Res.cell rfl (box_loads (i := 0) Tryd.isAgg34 Tryd.sizeOf34 rfl rfl) (Res.tmp rfl Res.nil)) rfl (fun w' s => ⟨s.below, ?_⟩)
      exact ⟨ao3, cap3, rfl, h3.mono s.le_newer, hc5⟩

theorem ref58_Same_con (p_a : Machine) (p_b : Machine) (ao1 : Option Addr) (cap1 : Nat) (ao2 : Option Addr) (cap2 : Nat) (w : World) (H : Heap) (hH : Le H (hp w)) (h1 : SL H encItem ao1 p_a.items) (hc1 : p_a.items.length ≤ cap1) (h2 : SL H encItem ao2 p_b.items) (hc2 : p_b.items.length ≤ cap2) (hG : Glob H) (r : Bool) (hm : ref58_Same p_a p_b = some r) :
    Con Tryd.prog 17 [(.agg #[(.slice ao1 p_a.items.length cap1), (.int .i64 p_a.cycles)]), (.agg #[(.slice ao2 p_b.items.length cap2), (.int .i64 p_b.cycles)])] w H (fun v _ => v = (.bool r)) := by
  unfold ref58_Same at hm
  refine con_of hH Tryd.func17 rfl 38 Tryd.ntmps17 rfl ?_
  refine WP.seq ?_
  refine WP.region ?_
  refine WL.step (Runs.free rfl) rfl rfl (os_box (cs := [(.slice ao1 p_a.items.length cap1), (.int .i64 p_a.cycles)]) rfl rfl rfl (fun b1 => ?_))
  refine WL.step (Runs.free rfl) rfl rfl (os_box (cs := [(.slice ao2 p_b.items.length cap2), (.int .i64 p_b.cycles)]) rfl rfl rfl (fun b2 => ?_))
  refine WL.quiet (Runs.free rfl) rfl rfl (OV.quiet (ov_assign rfl rfl)) ?_
  refine WL.nil ?_
  refine then_normal ?_
  refine WP.seq ?_
  refine WP.seq ?_
  refine WP.region ?_
  refine WL.quiet (Runs.free rfl) rfl rfl (OV.quiet (ov_fieldAddr Tryd.underlying34 rfl rfl rfl Tryd.sizeOf3 rfl rfl)) ?_
  refine WL.quiet (Runs.free rfl) rfl rfl (OV.quiet (ov_load_box (i := 1) Tryd.isAgg3 rfl rfl rfl rfl)) ?_
  refine WL.quiet (Runs.free rfl) rfl rfl (OV.quiet (ov_fieldAddr Tryd.underlying34 rfl rfl rfl Tryd.sizeOf3 rfl rfl)) ?_
  refine WL.quiet (Runs.free rfl) rfl rfl (OV.quiet (ov_load_box (i := 0) Tryd.isAgg3 rfl rfl rfl rfl)) ?_
  refine WL.quiet (Runs.free rfl) rfl rfl (OV.quiet (ov_neq rfl rfl rfl)) ?_
  refine WL.quiet (Runs.free rfl) rfl rfl (OV.quiet (ov_move rfl rfl)) ?_
  refine WL.cut_bool 8 19 (x := ((p_a.cycles != p_b.cycles) || ((p_a.items.length : Int) != (p_b.items.length : Int)))) ?_ ?_
  · rcases Bool.eq_false_or_eq_true (p_a.cycles != p_b.cycles) with hc3 | hc3
    · skip
      refine WL.idle (Idle.no rfl rfl rfl hc3) rfl rfl ?_
      refine WL.idle (Idle.no rfl rfl rfl hc3) rfl rfl ?_
      refine WL.idle (Idle.no rfl rfl rfl hc3) rfl rfl ?_
      refine WL.idle (Idle.no rfl rfl rfl hc3) rfl rfl ?_
      refine WL.idle (Idle.no rfl rfl rfl hc3) rfl rfl ?_
      refine WL.idle (Idle.no rfl rfl rfl hc3) rfl rfl ?_
      refine WL.idle (Idle.no rfl rfl rfl hc3) rfl rfl ?_
      refine WL.quiet (Runs.free rfl) rfl rfl (OV.quiet (ov_pick_true rfl (guard_eq rfl hc3) rfl)) ?_
      exact WL.nil ⟨Sub.cons' rfl (congrArg Value.bool (by rw [hc3]; rfl)) (Sub.skip rfl (Sub.skip rfl (Sub.skip rfl (Sub.skip rfl (Sub.skip rfl (Sub.skip rfl (Sub.skip rfl (Sub.skip rfl (Sub.refl _))))))))), fun _ s => s⟩
    · skip
      refine WL.quiet (Runs.yes rfl rfl rfl hc3) rfl rfl (OV.quiet (ov_fieldAddr Tryd.underlying34 rfl rfl rfl Tryd.sizeOf32 rfl rfl)) ?_
      refine WL.quiet (Runs.yes rfl rfl rfl hc3) rfl rfl (OV.quiet (ov_load_box (i := 1) Tryd.isAgg32 rfl rfl rfl rfl)) ?_
      refine WL.quiet (Runs.yes rfl rfl rfl hc3) rfl rfl (OV.quiet (ov_len_slice Tryd.underlying32 rfl rfl)) ?_
      refine WL.quiet (Runs.yes rfl rfl rfl hc3) rfl rfl (OV.quiet (ov_fieldAddr Tryd.underlying34 rfl rfl rfl Tryd.sizeOf32 rfl rfl)) ?_
      refine WL.quiet (Runs.yes rfl rfl rfl hc3) rfl rfl (OV.quiet (ov_load_box (i := 0) Tryd.isAgg32 rfl rfl rfl rfl)) ?_
      refine WL.quiet (Runs.yes rfl rfl rfl hc3) rfl rfl (OV.quiet (ov_len_slice Tryd.underlying32 rfl rfl)) ?_
      refine WL.quiet (Runs.yes rfl rfl rfl hc3) rfl rfl (OV.quiet (ov_neq rfl rfl rfl)) ?_
      refine WL.quiet (Runs.free rfl) rfl rfl (OV.quiet (ov_pick_false rfl (guard_eq rfl hc3) rfl)) ?_
      exact WL.nil ⟨Sub.cons' rfl (congrArg Value.bool (by rw [hc3]; rfl)) (Sub.skip rfl (Sub.skip rfl (Sub.skip rfl (Sub.skip rfl (Sub.skip rfl (Sub.skip rfl (Sub.skip rfl (Sub.skip rfl (Sub.refl _))))))))), fun _ s => s⟩
  refine WL.nil ?_
  refine then_normal ?_
  refine WP.cond rfl (fun hc4 => ?_) (fun hc4 => ?_)
  · replace hm := ite_t hc4 hm
    refine WP.seq ?_
    refine WP.region ?_
    refine WL.quiet (Runs.free rfl) rfl rfl (OV.quiet (ov_assign rfl rfl)) ?_
    refine WL.nil ?_
    refine then_normal ?_
    refine WP.ret ?_
    refine then_ret ?_
    obtain rfl := Option.some.inj hm
    refine retQ_ret Tryd.results17 (Res.tmp rfl Res.nil) rfl (fun w' s => ⟨s.below, ?_⟩)
    exact rfl
  · replace hm := ite_f hc4 hm
    refine WP.skip ?_
    refine then_normal ?_
    obtain ⟨k1, hk1, hm⟩ := joinK_some hm
    refine WP.seq_join (fun g' S' => Sub [] g' ∧ (∀ w', S' w' → St w H [] H w') ∧ k1 = some r) ?_ ?_
    · skip
      refine WP.seq ?_
      refine WP.region ?_
      refine WL.quiet (Runs.free rfl) rfl rfl (OV.quiet (ov_assign rfl rfl)) ?_
      refine WL.nil ?_
      refine then_normal ?_
      refine WP.block ?_
      refine WP.loop (fun m1 g' S' => ∃ (i1 : Int), Sub [(2, (pB b1 0)), (3, (pB b2 0)), (5, (.int .i64 i1))] g' ∧ (∀ w', S' w' → St w H [.blk b2 34 [(.slice ao2 p_b.items.length cap2), (.int .i64 p_b.cycles)], .blk b1 34 [(.slice ao1 p_a.items.length cap1), (.int .i64 p_a.cycles)]] H w') ∧ ref58_Same_loop1 p_a p_b k1 m1 i1 = some r) ((Int.toNat ((p_a.items.length : Int) - 0) + 1)) ⟨0, (Sub.cons rfl (Sub.cons rfl (Sub.cons rfl (Sub.nil _)))), fun w' s => s, hm⟩ ?_ ?_
      · rintro g' S' ⟨_, _, _, hm⟩
        exact none_some hm
      · rintro m1 g' S' ⟨i1, hsub1, hS1, hm⟩
        refine WP.sub hsub1 (WP.weaken hS1 ?_)
        rw [ref58_Same_loop1] at hm
        refine WP.seq ?_
        refine WP.seq ?_
        refine WP.region ?_
        refine WL.quiet (Runs.free rfl) rfl rfl (OV.quiet (ov_move rfl rfl)) ?_
        refine WL.quiet (Runs.free rfl) rfl rfl (OV.quiet (ov_fieldAddr Tryd.underlying34 rfl rfl rfl Tryd.sizeOf32 rfl rfl)) ?_
        refine WL.quiet (Runs.free rfl) rfl rfl (OV.quiet (ov_load_box (i := 1) Tryd.isAgg32 rfl rfl rfl rfl)) ?_
        refine WL.quiet (Runs.free rfl) rfl rfl (OV.quiet (ov_len_slice Tryd.underlying32 rfl rfl)) ?_
        refine WL.quiet (Runs.free rfl) rfl rfl (OV.quiet (ov_lss rfl rfl rfl)) ?_
        refine WL.nil ?_
        refine then_normal ?_
        refine WP.cond rfl (fun hc5 => ?_) (fun hc5 => ?_)
        · replace hm := ite_t hc5 hm
          refine WP.skip ?_
          refine then_normal ?_
          refine WP.seq ?_
          refine WP.block ?_
          refine WP.seq ?_
          refine WP.region_draws (by kernel_rfl) (by kernel_rfl) (fun _ s => s.drew) ?_
          refine QL.quiet (Runs.free rfl) rfl rfl (OV.quiet (ov_fieldAddr Tryd.underlying34 rfl rfl rfl Tryd.sizeOf32 rfl rfl)) ?_
          refine QL.quiet (Runs.free rfl) rfl rfl (OV.quiet (ov_load_box (i := 1) Tryd.isAgg32 rfl rfl rfl rfl)) ?_
          refine QL.quiet (Runs.free rfl) rfl rfl (OV.quiet (ov_move rfl rfl)) ?_
          obtain ⟨x1, e1, hm⟩ := bind_some hm
          obtain ⟨h3, h4, h5, cs1, h6, h7⟩ := h1.get e1 (by decide)
          obtain rfl : cs1 = [(mkS x1.name), (.int .i64 x1.life), (.int .i64 x1.used), (.int .i64 x1.faults), (.bool x1.faulty), (.int .i64 x1.since), (.int .i64 x1.cycles)] := h6
          refine QL.quiet (Runs.free rfl) rfl rfl (OV.quiet (ov_indexAddr Tryd.underlying32 Tryd.sizeOf80 rfl rfl rfl h3 h4 h5)) ?_
          refine QL.quiet (Runs.free rfl) rfl rfl (OV.quiet (ov_load_elems (vs := [(mkS x1.name), (.int .i64 x1.life), (.int .i64 x1.used), (.int .i64 x1.faults), (.bool x1.faulty), (.int .i64 x1.since), (.int .i64 x1.cycles)]) Tryd.isAgg80 Tryd.sizeOf80 rfl rfl rfl h7 h5)) ?_
          refine QL.quiet (Runs.free rfl) rfl rfl (OV.quiet (ov_fieldAddr Tryd.underlying34 rfl rfl rfl Tryd.sizeOf32 rfl rfl)) ?_
          refine QL.quiet (Runs.free rfl) rfl rfl (OV.quiet (ov_load_box (i := 0) Tryd.isAgg32 rfl rfl rfl rfl)) ?_
          refine QL.quiet (Runs.free rfl) rfl rfl (OV.quiet (ov_move rfl rfl)) ?_
          obtain ⟨x2, e2, hm⟩ := bind_some hm
          obtain ⟨h8, h9, h10, cs2, h11, h12⟩ := h2.get e2 (by decide)
          obtain rfl : cs2 = [(mkS x2.name), (.int .i64 x2.life), (.int .i64 x2.used), (.int .i64 x2.faults), (.bool x2.faulty), (.int .i64 x2.since), (.int .i64 x2.cycles)] := h11
          refine QL.quiet (Runs.free rfl) rfl rfl (OV.quiet (ov_indexAddr Tryd.underlying32 Tryd.sizeOf80 rfl rfl rfl h8 h9 h10)) ?_
          refine QL.quiet (Runs.free rfl) rfl rfl (OV.quiet (ov_load_elems (vs := [(mkS x2.name), (.int .i64 x2.life), (.int .i64 x2.used), (.int .i64 x2.faults), (.bool x2.faulty), (.int .i64 x2.since), (.int .i64 x2.cycles)]) Tryd.isAgg80 Tryd.sizeOf80 rfl rfl rfl h12 h10)) ?_
          refine QL.quiet (Runs.free rfl) rfl rfl (OV.quiet (neq_struct80 rfl rfl rfl)) ?_
          refine QL.nil ?_
          refine then_normal ?_
          refine WP.cond rfl (fun hc6 => ?_) (fun hc6 => ?_)
          · replace hm := ite_t hc6 hm
            refine WP.seq ?_
            refine WP.region ?_
            refine WL.quiet (Runs.free rfl) rfl rfl (OV.quiet (ov_assign rfl rfl)) ?_
            refine WL.nil ?_
            refine then_normal ?_
            refine WP.ret ?_
            refine block_ret ?_
            refine then_ret ?_
            refine then_ret ?_
            refine block_ret ?_
            refine then_ret ?_
            obtain rfl := Option.some.inj hm
            refine retQ_ret Tryd.results17 (Res.tmp rfl Res.nil) rfl (fun w' s => ⟨s.below, ?_⟩)
            exact rfl
          · replace hm := ite_f hc6 hm
            refine WP.skip ?_
            refine block_normal ?_
            refine then_normal ?_
            refine WP.region ?_
            refine WL.quiet (Runs.free rfl) rfl rfl (OV.quiet (ov_move rfl rfl)) ?_
            refine WL.quiet (Runs.free rfl) rfl rfl (OV.quiet (ov_add rfl rfl rfl)) ?_
            refine WL.quiet (Runs.free rfl) rfl rfl (OV.quiet (ov_assign rfl rfl)) ?_
            refine WL.nil ?_
            refine then_normal ?_
            exact ⟨(IntKind.wrap .i64 (i1 + 1)), (Sub.cons rfl (Sub.cons rfl (Sub.cons rfl (Sub.nil _)))), fun w' s => s, hm⟩
        · replace hm := ite_f hc5 hm
          refine WP.exit ?_
          refine then_exit ?_
          refine then_exit ?_
          refine block_here ?_
          refine then_normal ?_
          exact ⟨(Sub.nil _), fun w' s => (s.select [] (by decide) rfl), hm⟩
    · rintro g' S' ⟨hsub2, hS2, hm⟩
      refine WP.sub hsub2 (WP.weaken hS2 ?_)
      replace hm := hk1.symm.trans hm
      refine WP.seq ?_
      refine WP.region ?_
      refine WL.quiet (Runs.free rfl) rfl rfl (OV.quiet (ov_assign rfl rfl)) ?_
      refine WL.nil ?_
      refine then_normal ?_
      refine WP.ret ?_
      obtain rfl := Option.some.inj hm
      refine retQ_ret Tryd.results17 (Res.tmp rfl Res.nil) rfl (fun w' s => ⟨s.below, ?_⟩)
      exact rfl

theorem law58_JournalDoes_con (p_m : Machine) (p_x : Entry) (ao1 : Option Addr) (cap1 : Nat) (w : World) (H : Heap) (hH : Le H (hp w)) (h1 : SL H encItem ao1 p_m.items) (hc1 : p_m.items.length ≤ cap1) (hG : Glob H) (r : Bool) (hm : law58_JournalDoes p_m p_x = some r) :
    Con Tryd.prog 3 [(.agg #[(.slice ao1 p_m.items.length cap1), (.int .i64 p_m.cycles)]), (.agg #[(.int .i64 p_x.kind), (mkS p_x.name), (.int .i64 p_x.count), (.int .i64 p_x.strokes)])] w H (fun v _ => v = (.bool r)) := by
  unfold law58_JournalDoes at hm
  refine con_of hH Tryd.func3 rfl 55 Tryd.ntmps3 rfl ?_
  refine WP.seq ?_
  refine WP.region ?_
  refine WL.step (Runs.free rfl) rfl rfl (os_box (cs := [(.slice ao1 p_m.items.length cap1), (.int .i64 p_m.cycles)]) rfl rfl rfl (fun b1 => ?_))
  refine WL.step (Runs.free rfl) rfl rfl (os_box (cs := [(.int .i64 p_x.kind), (mkS p_x.name), (.int .i64 p_x.count), (.int .i64 p_x.strokes)]) rfl rfl rfl (fun b2 => ?_))
  refine WL.quiet (Runs.free rfl) rfl rfl (OV.quiet (ov_assign rfl rfl)) ?_
  refine WL.nil ?_
  refine then_normal ?_
  refine WP.seq ?_
  refine WP.seq ?_
  refine WP.region ?_
  refine WL.quiet (Runs.free rfl) rfl rfl (OV.quiet (ov_load_whole (i := 1) Tryd.isAgg24 Tryd.sizeOf24 rfl rfl rfl rfl)) ?_
  refine WL.quiet (Runs.free rfl) rfl rfl (OV.quiet (ov_fieldAddr Tryd.underlying26 rfl rfl rfl Tryd.sizeOf9 rfl rfl)) ?_
  refine WL.quiet (Runs.free rfl) rfl rfl (OV.quiet (ov_load_box (i := 0) Tryd.isAgg9 rfl rfl rfl rfl)) ?_
  obtain ⟨r1, e1, hm⟩ := bind_some hm
  refine WL.quiet (Runs.free rfl) rfl rfl (oq_con (r := (.bool r1)) Tryd.call8 rfl rfl (fun w' s => ⟨_, (law58_few_con p_m p_x.name ao1 cap1  w' H s.hold h1 hc1 hG r1 e1)⟩)) ?_
  refine WL.quiet (Runs.free rfl) rfl rfl (OV.quiet (ov_not rfl rfl)) ?_
  refine WL.nil ?_
  refine then_normal ?_
  refine WP.cond rfl (fun hc2 => ?_) (fun hc2 => ?_)
  · replace hm := ite_t hc2 hm
    refine WP.seq ?_
    refine WP.region ?_
    obtain ⟨r2, e2, hm⟩ := bind_some hm
    refine WL.quiet (Runs.free rfl) rfl rfl (oq_con (r := (.bool r2)) Tryd.call9 rfl rfl (fun w' s => ⟨_, (law58_awake_con   w' H s.hold hG r2 e2)⟩)) ?_
    refine WL.quiet (Runs.free rfl) rfl rfl (OV.quiet (ov_assign rfl rfl)) ?_
    refine WL.nil ?_
    refine then_normal ?_
    refine WP.ret ?_
    refine then_ret ?_
    obtain rfl := Option.some.inj hm
    refine retQ_ret Tryd.results3 (Res.tmp rfl Res.nil) rfl (fun w' s => ⟨s.below, ?_⟩)
    exact rfl
  · replace hm := ite_f hc2 hm
    refine WP.skip ?_
    refine then_normal ?_
    refine WP.seq ?_
    refine WP.region ?_
    refine WL.quiet (Runs.free rfl) rfl rfl (OV.quiet (ov_load_whole (i := 1) Tryd.isAgg24 Tryd.sizeOf24 rfl rfl rfl rfl)) ?_
    refine WL.quiet (Runs.free rfl) rfl rfl (OV.quiet (ov_load_whole (i := 0) Tryd.isAgg26 Tryd.sizeOf26 rfl rfl rfl rfl)) ?_
    obtain ⟨r3, e3, hm⟩ := bind_some hm
    refine WL.step (Runs.free rfl) rfl rfl (os_con Tryd.call10 rfl rfl (fun w' s => (journal_Do_con p_m p_x ao1 cap1  w' H s.hold h1 hc1 hG r3 e3)) (fun rr1 H1 hle1 hR1 => ?_))
    replace h1 := h1.mono hle1
    replace hG := hG.mono hle1
    obtain ⟨ao2, cap2, rfl, h2, hc3⟩ := hR1
    refine WL.quiet (Runs.free rfl) rfl rfl (OV.quiet (ov_move rfl rfl)) ?_
    refine WL.quiet (Runs.free rfl) rfl rfl (OV.quiet (ov_extract rfl rfl rfl)) ?_
    refine WL.quiet (Runs.free rfl) rfl rfl (OV.quiet (ov_extract rfl rfl rfl)) ?_
    refine WL.step (Runs.free rfl) rfl rfl (os_alloc (cs := [(.slice none 0 0), (.int .i64 0)]) Tryd.zeroValue24 rfl rfl (fun b3 => ?_))
    refine WL.step0 (Runs.free rfl) rfl (os_store (i := 0) (vs := [(.slice ao2 r3.1.items.length cap2), (.int .i64 r3.1.cycles)]) (cs' := [(.slice ao2 r3.1.items.length cap2), (.int .i64 r3.1.cycles)]) Tryd.sizeOf24 rfl rfl rfl rfl rfl rfl rfl rfl rfl ?_)
    refine WL.quiet (Runs.free rfl) rfl rfl (OV.quiet (ov_assign rfl rfl)) ?_
    refine WL.nil ?_
    refine then_normal ?_
    obtain ⟨k1, hk1, hm⟩ := joinK_some hm
    refine WP.seq_join (fun g' S' => ∃ (H7 : Heap) (b7 : Nat) (i1 : Int) (l1 : (List Item)) (ao8 : Option Addr) (cap8 : Nat) (i2 : Int), Le H1 H7 ∧ SL H7 encItem ao8 l1 ∧ l1.length ≤ cap8 ∧ Sub [(2, (pB b1 0)), (3, (pB b2 0)), (5, (pB b3 0)), (6, (.int .i64 r3.2)), (7, (pB b7 0)), (8, (.int .i64 i1))] g' ∧ (∀ w', S' w' → St w H [.blk b7 34 [(.slice ao8 l1.length cap8), (.int .i64 i2)], .blk b3 24 [(.slice ao2 r3.1.items.length cap2), (.int .i64 r3.1.cycles)], .blk b2 26 [(.int .i64 p_x.kind), (mkS p_x.name), (.int .i64 p_x.count), (.int .i64 p_x.strokes)], .blk b1 24 [(.slice ao1 p_m.items.length cap1), (.int .i64 p_m.cycles)]] H7 w') ∧ k1 i1 l1 i2 = some r) ?_ ?_
    · skip
      refine WP.region_any (S₀ := St w H [.blk b3 24 [(.slice ao2 r3.1.items.length cap2), (.int .i64 r3.1.cycles)], .blk b2 26 [(.int .i64 p_x.kind), (mkS p_x.name), (.int .i64 p_x.count), (.int .i64 p_x.strokes)], .blk b1 24 [(.slice ao1 p_m.items.length cap1), (.int .i64 p_m.cycles)]] H1) 10 rfl (by kernel_rfl) (fun w' s => s) (fun _ s => s.drew) ?_
      refine AL.take (i := 0) rfl (by kernel_rfl) (by kernel_rfl) (by kernel_rfl) (Runs.free rfl) rfl rfl (ov_load_whole (i := 2) Tryd.isAgg24 Tryd.sizeOf24 rfl rfl rfl rfl) ?_
      refine AL.take (i := 2) rfl (by kernel_rfl) (by kernel_rfl) (by kernel_rfl) (Runs.free rfl) rfl rfl (ov_load_whole (i := 1) Tryd.isAgg26 Tryd.sizeOf26 rfl rfl rfl rfl) ?_
      refine AL.any (rs := [1, 7]) (by kernel_rfl) (by decide) ?_
      refine ALs.cons (i := 1) rfl (Runs.free rfl) rfl rfl ?_ ?_
      · skip
        obtain ⟨r4, e4, hm⟩ := bind_some hm
        refine os_con Tryd.call12 rfl rfl (fun w' s => (law58_own_con p_m ao1 cap1  w' H1 s.hold h1 hc1 hG r4 e4)) (fun rr2 H2 hle2 hR2 => ?_)
        replace h1 := h1.mono hle2
        replace h2 := h2.mono hle2
        replace hG := hG.mono hle2
        obtain ⟨ao3, cap3, rfl, h3, hc4⟩ := hR2
        refine ⟨fun w' s => (s.heap hle2), ?_⟩
        refine AL.any (rs := [3, 7]) (by kernel_rfl) (by decide) ?_
        refine ALs.cons (i := 3) rfl (Runs.free rfl) rfl rfl ?_ ?_
        · skip
          obtain ⟨r5, e5, hm⟩ := bind_some hm
          refine os_con Tryd.call11 rfl rfl (fun w' s => (ref58_Do_con r4 p_x ao3 cap3  w' H2 s.hold h3 hc4 hG r5 e5)) (fun rr3 H3 hle3 hR3 => ?_)
          replace h1 := h1.mono hle3
          replace h2 := h2.mono hle3
          replace h3 := h3.mono hle3
          replace hG := hG.mono hle3
          obtain ⟨ao4, cap4, rfl, h4, hc5⟩ := hR3
          refine ⟨fun w' s => (s.heap (hle2.trans hle3)), ?_⟩
          refine AL.take (i := 4) rfl (by kernel_rfl) (by kernel_rfl) (by kernel_rfl) (Runs.free rfl) rfl rfl (ov_move rfl rfl) ?_
          refine AL.take (i := 5) rfl (by kernel_rfl) (by kernel_rfl) (by kernel_rfl) (Runs.free rfl) rfl rfl (ov_extract rfl rfl rfl) ?_
          refine AL.take (i := 6) rfl (by kernel_rfl) (by kernel_rfl) (by kernel_rfl) (Runs.free rfl) rfl rfl (ov_extract rfl rfl rfl) ?_
          refine AL.any (rs := [7]) (by kernel_rfl) (by decide) ?_
          refine ALs.cons (i := 7) rfl (Runs.free rfl) rfl rfl ?_ ?_
          · skip
            refine os_alloc (cs := [(.slice none 0 0), (.int .i64 0)]) Tryd.zeroValue34 rfl rfl (fun b4 => ?_)
            refine ⟨fun w' s => ((s.select [1, 2, 3] (by decide) rfl).heap (hle2.trans hle3)), ?_⟩
            refine AL.any (rs := [8]) (by kernel_rfl) (by decide) ?_
            refine ALs.cons0 (i := 8) rfl (Runs.free rfl) rfl ?_ ?_
            · skip
              refine os_store (i := 0) (vs := [(.slice ao4 r5.1.items.length cap4), (.int .i64 r5.1.cycles)]) (cs' := [(.slice ao4 r5.1.items.length cap4), (.int .i64 r5.1.cycles)]) Tryd.sizeOf34 rfl rfl rfl rfl rfl rfl rfl rfl rfl ?_
              refine ⟨fun w' s => ((s.select [1, 2, 3] (by decide) rfl).heap (hle2.trans hle3)), ?_⟩
              refine AL.take (i := 9) rfl (by kernel_rfl) (by kernel_rfl) (by kernel_rfl) (Runs.free rfl) rfl rfl (ov_assign rfl rfl) ?_
              refine AL.done (by kernel_rfl) ?_
              refine then_normal ?_
              exact ⟨H3, b4, r5.2, r5.1.items, ao4, cap4, r5.1.cycles, (hle2.trans hle3), h4, hc5, (Sub.cons rfl (Sub.cons rfl (Sub.cons rfl (Sub.cons rfl (Sub.cons rfl (Sub.cons rfl (Sub.nil _))))))), fun w' s => s, hm⟩
            exact ALs.nil
          exact ALs.nil
        refine ALs.cons (i := 7) rfl (Runs.free rfl) rfl rfl ?_ ?_
        · skip
          refine os_alloc (cs := [(.slice none 0 0), (.int .i64 0)]) Tryd.zeroValue34 rfl rfl (fun b5 => ?_)
          refine ⟨fun w' s => ((s.select [1, 2, 3] (by decide) rfl).heap hle2), ?_⟩
          refine AL.any (rs := [3]) (by kernel_rfl) (by decide) ?_
          refine ALs.cons (i := 3) rfl (Runs.free rfl) rfl rfl ?_ ?_
          · skip
            obtain ⟨r6, e6, hm⟩ := bind_some hm
            refine os_con Tryd.call11 rfl rfl (fun w' s => (ref58_Do_con r4 p_x ao3 cap3  w' H2 s.hold h3 hc4 hG r6 e6)) (fun rr4 H4 hle4 hR4 => ?_)
            replace h1 := h1.mono hle4
            replace h2 := h2.mono hle4
            replace h3 := h3.mono hle4
            replace hG := hG.mono hle4
            obtain ⟨ao5, cap5, rfl, h5, hc6⟩ := hR4
            refine ⟨fun w' s => ((s.select [1, 2, 3] (by decide) rfl).heap (hle2.trans hle4)), ?_⟩
            refine AL.take (i := 4) rfl (by kernel_rfl) (by kernel_rfl) (by kernel_rfl) (Runs.free rfl) rfl rfl (ov_move rfl rfl) ?_
            refine AL.take (i := 5) rfl (by kernel_rfl) (by kernel_rfl) (by kernel_rfl) (Runs.free rfl) rfl rfl (ov_extract rfl rfl rfl) ?_
            refine AL.take (i := 6) rfl (by kernel_rfl) (by kernel_rfl) (by kernel_rfl) (Runs.free rfl) rfl rfl (ov_extract rfl rfl rfl) ?_
            refine AL.any (rs := [8]) (by kernel_rfl) (by decide) ?_
            refine ALs.cons0 (i := 8) rfl (Runs.free rfl) rfl ?_ ?_
            · skip
              refine os_store (i := 0) (vs := [(.slice ao5 r6.1.items.length cap5), (.int .i64 r6.1.cycles)]) (cs' := [(.slice ao5 r6.1.items.length cap5), (.int .i64 r6.1.cycles)]) Tryd.sizeOf34 rfl rfl rfl rfl rfl rfl rfl rfl rfl ?_
              refine ⟨fun w' s => ((s.select [1, 2, 3] (by decide) rfl).heap (hle2.trans hle4)), ?_⟩
              refine AL.take (i := 9) rfl (by kernel_rfl) (by kernel_rfl) (by kernel_rfl) (Runs.free rfl) rfl rfl (ov_assign rfl rfl) ?_
              refine AL.done (by kernel_rfl) ?_
              refine then_normal ?_
              exact ⟨H4, b5, r6.2, r6.1.items, ao5, cap5, r6.1.cycles, (hle2.trans hle4), h5, hc6, (Sub.cons rfl (Sub.cons rfl (Sub.cons rfl (Sub.cons rfl (Sub.cons rfl (Sub.cons rfl (Sub.nil _))))))), fun w' s => s, hm⟩
            exact ALs.nil
          exact ALs.nil
        exact ALs.nil
      refine ALs.cons (i := 7) rfl (Runs.free rfl) rfl rfl ?_ ?_
      · skip
        refine os_alloc (cs := [(.slice none 0 0), (.int .i64 0)]) Tryd.zeroValue34 rfl rfl (fun b6 => ?_)
        refine ⟨fun w' s => (s.select [1, 2, 3] (by decide) rfl), ?_⟩
        refine AL.any (rs := [1]) (by kernel_rfl) (by decide) ?_
        refine ALs.cons (i := 1) rfl (Runs.free rfl) rfl rfl ?_ ?_
        · skip
          obtain ⟨r7, e7, hm⟩ := bind_some hm
          refine os_con Tryd.call12 rfl rfl (fun w' s => (law58_own_con p_m ao1 cap1  w' H1 s.hold h1 hc1 hG r7 e7)) (fun rr5 H5 hle5 hR5 => ?_)
          replace h1 := h1.mono hle5
          replace h2 := h2.mono hle5
          replace hG := hG.mono hle5
          obtain ⟨ao6, cap6, rfl, h6, hc7⟩ := hR5
          refine ⟨fun w' s => ((s.select [1, 2, 3] (by decide) rfl).heap hle5), ?_⟩
          refine AL.any (rs := [3]) (by kernel_rfl) (by decide) ?_
          refine ALs.cons (i := 3) rfl (Runs.free rfl) rfl rfl ?_ ?_
          · skip
            obtain ⟨r8, e8, hm⟩ := bind_some hm
            refine os_con Tryd.call11 rfl rfl (fun w' s => (ref58_Do_con r7 p_x ao6 cap6  w' H5 s.hold h6 hc7 hG r8 e8)) (fun rr6 H6 hle6 hR6 => ?_)
            replace h1 := h1.mono hle6
            replace h2 := h2.mono hle6
            replace h6 := h6.mono hle6
            replace hG := hG.mono hle6
            obtain ⟨ao7, cap7, rfl, h7, hc8⟩ := hR6
            refine ⟨fun w' s => ((s.select [1, 2, 3] (by decide) rfl).heap (hle5.trans hle6)), ?_⟩
            refine AL.take (i := 4) rfl (by kernel_rfl) (by kernel_rfl) (by kernel_rfl) (Runs.free rfl) rfl rfl (ov_move rfl rfl) ?_
            refine AL.take (i := 5) rfl (by kernel_rfl) (by kernel_rfl) (by kernel_rfl) (Runs.free rfl) rfl rfl (ov_extract rfl rfl rfl) ?_
            refine AL.take (i := 6) rfl (by kernel_rfl) (by kernel_rfl) (by kernel_rfl) (Runs.free rfl) rfl rfl (ov_extract rfl rfl rfl) ?_
            refine AL.any (rs := [8]) (by kernel_rfl) (by decide) ?_
            refine ALs.cons0 (i := 8) rfl (Runs.free rfl) rfl ?_ ?_
            · skip
              refine os_store (i := 0) (vs := [(.slice ao7 r8.1.items.length cap7), (.int .i64 r8.1.cycles)]) (cs' := [(.slice ao7 r8.1.items.length cap7), (.int .i64 r8.1.cycles)]) Tryd.sizeOf34 rfl rfl rfl rfl rfl rfl rfl rfl rfl ?_
              refine ⟨fun w' s => ((s.select [1, 2, 3] (by decide) rfl).heap (hle5.trans hle6)), ?_⟩
              refine AL.take (i := 9) rfl (by kernel_rfl) (by kernel_rfl) (by kernel_rfl) (Runs.free rfl) rfl rfl (ov_assign rfl rfl) ?_
              refine AL.done (by kernel_rfl) ?_
              refine then_normal ?_
              exact ⟨H6, b6, r8.2, r8.1.items, ao7, cap7, r8.1.cycles, (hle5.trans hle6), h7, hc8, (Sub.cons rfl (Sub.cons rfl (Sub.cons rfl (Sub.cons rfl (Sub.cons rfl (Sub.cons rfl (Sub.nil _))))))), fun w' s => s, hm⟩
            exact ALs.nil
          exact ALs.nil
        exact ALs.nil
      exact ALs.nil
    · rintro g' S' ⟨H7, b7, i1, l1, ao8, cap8, i2, hle7, h8, hc9, hsub1, hS1, hm⟩
      refine WP.sub hsub1 (WP.weaken hS1 ?_)
      replace hm := (congrFun (congrFun (congrFun hk1 i1) l1) i2).symm.trans hm
      replace h2 := h2.mono hle7
      replace h1 := h1.mono hle7
      replace hG := hG.mono hle7
      refine WP.seq ?_
      refine WP.region_any (S₀ := St w H [.blk b7 34 [(.slice ao8 l1.length cap8), (.int .i64 i2)], .blk b3 24 [(.slice ao2 r3.1.items.length cap2), (.int .i64 r3.1.cycles)], .blk b2 26 [(.int .i64 p_x.kind), (mkS p_x.name), (.int .i64 p_x.count), (.int .i64 p_x.strokes)], .blk b1 24 [(.slice ao1 p_m.items.length cap1), (.int .i64 p_m.cycles)]] H7) 28 rfl (by kernel_rfl) (fun w' s => s) (fun _ s => s.drew) ?_
      refine AL.any (rs := [0]) (by kernel_rfl) (by decide) ?_
      refine ALs.cons (i := 0) rfl (Runs.free rfl) rfl rfl ?_ ?_
      · skip
        obtain ⟨r9, e9, hm⟩ := bind_some hm
        refine OQ.step (oq_con (r := (.bool r9)) Tryd.call9 rfl rfl (fun w' s => ⟨_, (law58_awake_con   w' H7 s.hold hG r9 e9)⟩)) ?_
        refine ⟨fun w' s => s, ?_⟩
        refine AL.take (i := 1) rfl (by kernel_rfl) (by kernel_rfl) (by kernel_rfl) (Runs.free rfl) rfl rfl (ov_move rfl rfl) ?_
        rcases Bool.eq_false_or_eq_true r9 with hc10 | hc10
        · replace hm := ite_t hc10 hm
          refine AL.take (i := 2) rfl (by kernel_rfl) (by kernel_rfl) (by kernel_rfl) (Runs.yes rfl rfl rfl hc10) rfl rfl (ov_load_whole (i := 3) Tryd.isAgg24 Tryd.sizeOf24 rfl rfl rfl rfl) ?_
          refine AL.take (i := 4) rfl (by kernel_rfl) (by kernel_rfl) (by kernel_rfl) (Runs.yes rfl rfl rfl hc10) rfl rfl (ov_load_whole (i := 3) Tryd.isAgg24 Tryd.sizeOf24 rfl rfl rfl rfl) ?_
          refine AL.any (rs := [3]) (by kernel_rfl) (by decide) ?_
          refine ALs.cons (i := 3) rfl (Runs.yes rfl rfl rfl hc10) rfl rfl ?_ ?_
          · skip
            obtain ⟨r10, e10, hm⟩ := bind_some hm
            refine OQ.step (oq_con (r := (.int .i64 r10)) Tryd.call13 rfl rfl (fun w' s => ⟨_, (journal_Check_con p_m ao1 cap1  w' H7 s.hold h1 hc1 hG r10 e10)⟩)) ?_
            refine ⟨fun w' s => s, ?_⟩
            refine AL.any (rs := [5]) (by kernel_rfl) (by decide) ?_
            refine ALs.cons (i := 5) rfl (Runs.yes rfl rfl rfl hc10) rfl rfl ?_ ?_
            · skip
              obtain ⟨r11, e11, hm⟩ := bind_some hm
              refine os_con Tryd.call12 rfl rfl (fun w' s => (law58_own_con p_m ao1 cap1  w' H7 s.hold h1 hc1 hG r11 e11)) (fun rr7 H8 hle8 hR7 => ?_)
              replace h1 := h1.mono hle8
              replace h8 := h8.mono hle8
              replace h2 := h2.mono hle8
              replace hG := hG.mono hle8
              obtain ⟨ao9, cap9, rfl, h9, hc11⟩ := hR7
              refine ⟨fun w' s => (s.heap hle8), ?_⟩
              refine AL.any (rs := [6]) (by kernel_rfl) (by decide) ?_
              refine ALs.cons (i := 6) rfl (Runs.yes rfl rfl rfl hc10) rfl rfl ?_ ?_
              · skip
                obtain ⟨r12, e12, hm⟩ := bind_some hm
                refine OQ.step (oq_con (r := (.int .i64 r12)) Tryd.call14 rfl rfl (fun w' s => ⟨_, (ref58_Check_con r11 ao9 cap9  w' H8 s.hold h9 hc11 hG r12 e12)⟩)) ?_
                refine ⟨fun w' s => (s.heap hle8), ?_⟩
                refine AL.take (i := 7) rfl (by kernel_rfl) (by kernel_rfl) (by kernel_rfl) (Runs.yes rfl rfl rfl hc10) rfl rfl (ov_eql rfl rfl rfl) ?_
                refine AL.take (i := 8) rfl (by kernel_rfl) (by kernel_rfl) (by kernel_rfl) (Runs.free rfl) rfl rfl (ov_pick_true rfl (guard_eq rfl hc10) rfl) ?_
                refine AL.take (i := 9) rfl (by kernel_rfl) (by kernel_rfl) (by kernel_rfl) (Runs.free rfl) rfl rfl (ov_move rfl rfl) ?_
                rcases Bool.eq_false_or_eq_true (r10 == r12) with hc12 | hc12
                · replace hm := ite_t hc12 hm
                  refine AL.any (rs := [10, 12]) (by kernel_rfl) (by decide) ?_
                  refine ALs.cons (i := 10) rfl (Runs.yes rfl rfl rfl hc12) rfl rfl ?_ ?_
                  · skip
                    refine OQ.step (OV.quiet (ov_load_whole (i := 2) Tryd.isAgg26 Tryd.sizeOf26 rfl rfl rfl rfl)) ?_
                    refine ⟨fun w' s => (s.heap hle8), ?_⟩
                    refine AL.any (rs := [11, 12]) (by kernel_rfl) (by decide) ?_
                    refine ALs.cons (i := 11) rfl (Runs.yes rfl rfl rfl hc12) rfl rfl ?_ ?_
                    · skip
                      obtain ⟨r13, e13, hm⟩ := bind_some hm
                      refine OQ.step (oq_con (r := (.int .i64 r13)) Tryd.call15 rfl rfl (fun w' s => ⟨_, (journal_Right_con p_x  w' H8 s.hold hG r13 e13)⟩)) ?_
                      refine ⟨fun w' s => (s.heap hle8), ?_⟩
                      refine AL.any (rs := [12]) (by kernel_rfl) (by decide) ?_
                      refine ALs.cons (i := 12) rfl (Runs.yes rfl rfl rfl hc12) rfl rfl ?_ ?_
                      · skip
                        refine OQ.step (OV.quiet (ov_load_whole (i := 2) Tryd.isAgg26 Tryd.sizeOf26 rfl rfl rfl rfl)) ?_
                        refine ⟨fun w' s => (s.heap hle8), ?_⟩
                        refine AL.any (rs := [13]) (by kernel_rfl) (by decide) ?_
                        refine ALs.cons (i := 13) rfl (Runs.yes rfl rfl rfl hc12) rfl rfl ?_ ?_
                        · skip
                          obtain ⟨r14, e14, hm⟩ := bind_some hm
                          refine OQ.step (oq_con (r := (.int .i64 r14)) Tryd.call16 rfl rfl (fun w' s => ⟨_, (ref58_Right_con p_x  w' H8 s.hold hG r14 e14)⟩)) ?_
                          refine ⟨fun w' s => (s.heap hle8), ?_⟩
                          refine AL.take (i := 14) rfl (by kernel_rfl) (by kernel_rfl) (by kernel_rfl) (Runs.yes rfl rfl rfl hc12) rfl rfl (ov_eql rfl rfl rfl) ?_
                          refine AL.take (i := 15) rfl (by kernel_rfl) (by kernel_rfl) (by kernel_rfl) (Runs.free rfl) rfl rfl (ov_pick_true rfl (guard_eq rfl hc12) rfl) ?_
                          refine AL.take (i := 16) rfl (by kernel_rfl) (by kernel_rfl) (by kernel_rfl) (Runs.free rfl) rfl rfl (ov_move rfl rfl) ?_
                          rcases Bool.eq_false_or_eq_true (r13 == r14) with hc13 | hc13
                          · replace hm := ite_t hc13 hm
                            refine AL.any (rs := [17, 19]) (by kernel_rfl) (by decide) ?_
                            refine ALs.cons (i := 17) rfl (Runs.yes rfl rfl rfl hc13) rfl rfl ?_ ?_
                            · skip
                              refine OQ.step (OV.quiet (ov_load_whole (i := 1) Tryd.isAgg24 Tryd.sizeOf24 rfl rfl rfl rfl)) ?_
                              refine ⟨fun w' s => (s.heap hle8), ?_⟩
                              refine AL.any (rs := [18, 19]) (by kernel_rfl) (by decide) ?_
                              refine ALs.cons (i := 18) rfl (Runs.yes rfl rfl rfl hc13) rfl rfl ?_ ?_
                              · skip
                                obtain ⟨r15, e15, hm⟩ := bind_some hm
                                refine os_con Tryd.call12 rfl rfl (fun w' s => (law58_own_con r3.1 ao2 cap2  w' H8 s.hold h2 hc3 hG r15 e15)) (fun rr8 H9 hle9 hR8 => ?_)
                                replace h1 := h1.mono hle9
                                replace h9 := h9.mono hle9
                                replace h2 := h2.mono hle9
                                replace h8 := h8.mono hle9
                                replace hG := hG.mono hle9
                                obtain ⟨ao10, cap10, rfl, h10, hc14⟩ := hR8
                                refine ⟨fun w' s => (s.heap (hle8.trans hle9)), ?_⟩
                                refine AL.any (rs := [19]) (by kernel_rfl) (by decide) ?_
                                refine ALs.cons (i := 19) rfl (Runs.yes rfl rfl rfl hc13) rfl rfl ?_ ?_
                                · skip
                                  refine OQ.step (OV.quiet (ov_load_whole (i := 0) Tryd.isAgg34 Tryd.sizeOf34 rfl rfl rfl rfl)) ?_
                                  refine ⟨fun w' s => (s.heap (hle8.trans hle9)), ?_⟩
                                  refine AL.any (rs := [20]) (by kernel_rfl) (by decide) ?_
                                  refine ALs.cons (i := 20) rfl (Runs.yes rfl rfl rfl hc13) rfl rfl ?_ ?_
                                  · skip
                                    obtain ⟨r16, e16, hm⟩ := bind_some hm
                                    refine OQ.step (oq_con (r := (.bool r16)) Tryd.call17 rfl rfl (fun w' s => ⟨_, (ref58_Same_con r15 (Machine.mk l1 i2) ao10 cap10 ao8 cap8  w' H9 s.hold h10 hc14 h8 hc9 hG r16 e16)⟩)) ?_
                                    refine ⟨fun w' s => (s.heap (hle8.trans hle9)), ?_⟩
                                    refine AL.take (i := 21) rfl (by kernel_rfl) (by kernel_rfl) (by kernel_rfl) (Runs.free rfl) rfl rfl (ov_pick_true rfl (guard_eq rfl hc13) rfl) ?_
                                    refine AL.take (i := 22) rfl (by kernel_rfl) (by kernel_rfl) (by kernel_rfl) (Runs.free rfl) rfl rfl (ov_move rfl rfl) ?_
                                    rcases Bool.eq_false_or_eq_true r16 with hc15 | hc15
                                    · replace hm := ite_t hc15 hm
                                      refine AL.take (i := 23) rfl (by kernel_rfl) (by kernel_rfl) (by kernel_rfl) (Runs.yes rfl rfl rfl hc15) rfl rfl (ov_move rfl rfl) ?_
                                      refine AL.take (i := 24) rfl (by kernel_rfl) (by kernel_rfl) (by kernel_rfl) (Runs.yes rfl rfl rfl hc15) rfl rfl (ov_move rfl rfl) ?_
                                      refine AL.take (i := 25) rfl (by kernel_rfl) (by kernel_rfl) (by kernel_rfl) (Runs.yes rfl rfl rfl hc15) rfl rfl (ov_eql rfl rfl rfl) ?_
                                      refine AL.take (i := 26) rfl (by kernel_rfl) (by kernel_rfl) (by kernel_rfl) (Runs.free rfl) rfl rfl (ov_pick_true rfl (guard_eq rfl hc15) rfl) ?_
                                      refine AL.take (i := 27) rfl (by kernel_rfl) (by kernel_rfl) (by kernel_rfl) (Runs.free rfl) rfl rfl (ov_assign rfl rfl) ?_
                                      refine AL.done (by kernel_rfl) ?_
                                      refine then_normal ?_
                                      refine WP.ret ?_
                                      obtain rfl := Option.some.inj hm
                                      refine retQ_ret Tryd.results3 (Res.tmp rfl Res.nil) rfl (fun w' s => ⟨s.below, ?_⟩)
                                      exact rfl
                                    · replace hm := ite_f hc15 hm
                                      refine AL.idle (i := 23) rfl (by kernel_rfl) (by kernel_rfl) (by kernel_rfl) (Idle.no rfl rfl rfl hc15) rfl rfl ?_
                                      refine AL.idle (i := 24) rfl (by kernel_rfl) (by kernel_rfl) (by kernel_rfl) (Idle.no rfl rfl rfl hc15) rfl rfl ?_
                                      refine AL.idle (i := 25) rfl (by kernel_rfl) (by kernel_rfl) (by kernel_rfl) (Idle.no rfl rfl rfl hc15) rfl rfl ?_
                                      refine AL.take (i := 26) rfl (by kernel_rfl) (by kernel_rfl) (by kernel_rfl) (Runs.free rfl) rfl rfl (ov_pick_false rfl (guard_eq rfl hc15) rfl) ?_
                                      refine AL.take (i := 27) rfl (by kernel_rfl) (by kernel_rfl) (by kernel_rfl) (Runs.free rfl) rfl rfl (ov_assign rfl rfl) ?_
                                      refine AL.done (by kernel_rfl) ?_
                                      refine then_normal ?_
                                      refine WP.ret ?_
                                      obtain rfl := Option.some.inj hm
                                      refine retQ_ret Tryd.results3 (Res.tmp rfl Res.nil) rfl (fun w' s => ⟨s.below, ?_⟩)
                                      exact rfl
                                  exact ALs.nil
                                exact ALs.nil
                              refine ALs.cons (i := 19) rfl (Runs.yes rfl rfl rfl hc13) rfl rfl ?_ ?_
                              · skip
                                refine OQ.step (OV.quiet (ov_load_whole (i := 0) Tryd.isAgg34 Tryd.sizeOf34 rfl rfl rfl rfl)) ?_
                                refine ⟨fun w' s => (s.heap hle8), ?_⟩
                                refine AL.any (rs := [18]) (by kernel_rfl) (by decide) ?_
                                refine ALs.cons (i := 18) rfl (Runs.yes rfl rfl rfl hc13) rfl rfl ?_ ?_
                                · skip
                                  obtain ⟨r17, e17, hm⟩ := bind_some hm
                                  refine os_con Tryd.call12 rfl rfl (fun w' s => (law58_own_con r3.1 ao2 cap2  w' H8 s.hold h2 hc3 hG r17 e17)) (fun rr9 H10 hle10 hR9 => ?_)
                                  replace h1 := h1.mono hle10
                                  replace h9 := h9.mono hle10
                                  replace h2 := h2.mono hle10
                                  replace h8 := h8.mono hle10
                                  replace hG := hG.mono hle10
                                  obtain ⟨ao11, cap11, rfl, h11, hc16⟩ := hR9
                                  refine ⟨fun w' s => (s.heap (hle8.trans hle10)), ?_⟩
                                  refine AL.any (rs := [20]) (by kernel_rfl) (by decide) ?_
                                  refine ALs.cons (i := 20) rfl (Runs.yes rfl rfl rfl hc13) rfl rfl ?_ ?_
                                  · skip
                                    obtain ⟨r18, e18, hm⟩ := bind_some hm
                                    refine OQ.step (oq_con (r := (.bool r18)) Tryd.call17 rfl rfl (fun w' s => ⟨_, (ref58_Same_con r17 (Machine.mk l1 i2) ao11 cap11 ao8 cap8  w' H10 s.hold h11 hc16 h8 hc9 hG r18 e18)⟩)) ?_
                                    refine ⟨fun w' s => (s.heap (hle8.trans hle10)), ?_⟩
                                    refine AL.take (i := 21) rfl (by kernel_rfl) (by kernel_rfl) (by kernel_rfl) (Runs.free rfl) rfl rfl (ov_pick_true rfl (guard_eq rfl hc13) rfl) ?_
                                    refine AL.take (i := 22) rfl (by kernel_rfl) (by kernel_rfl) (by kernel_rfl) (Runs.free rfl) rfl rfl (ov_move rfl rfl) ?_
                                    rcases Bool.eq_false_or_eq_true r18 with hc17 | hc17
                                    · replace hm := ite_t hc17 hm
                                      refine AL.take (i := 23) rfl (by kernel_rfl) (by kernel_rfl) (by kernel_rfl) (Runs.yes rfl rfl rfl hc17) rfl rfl (ov_move rfl rfl) ?_
                                      refine AL.take (i := 24) rfl (by kernel_rfl) (by kernel_rfl) (by kernel_rfl) (Runs.yes rfl rfl rfl hc17) rfl rfl (ov_move rfl rfl) ?_
                                      refine AL.take (i := 25) rfl (by kernel_rfl) (by kernel_rfl) (by kernel_rfl) (Runs.yes rfl rfl rfl hc17) rfl rfl (ov_eql rfl rfl rfl) ?_
                                      refine AL.take (i := 26) rfl (by kernel_rfl) (by kernel_rfl) (by kernel_rfl) (Runs.free rfl) rfl rfl (ov_pick_true rfl (guard_eq rfl hc17) rfl) ?_
                                      refine AL.take (i := 27) rfl (by kernel_rfl) (by kernel_rfl) (by kernel_rfl) (Runs.free rfl) rfl rfl (ov_assign rfl rfl) ?_
                                      refine AL.done (by kernel_rfl) ?_
                                      refine then_normal ?_
                                      refine WP.ret ?_
                                      obtain rfl := Option.some.inj hm
                                      refine retQ_ret Tryd.results3 (Res.tmp rfl Res.nil) rfl (fun w' s => ⟨s.below, ?_⟩)
                                      exact rfl
                                    · replace hm := ite_f hc17 hm
                                      refine AL.idle (i := 23) rfl (by kernel_rfl) (by kernel_rfl) (by kernel_rfl) (Idle.no rfl rfl rfl hc17) rfl rfl ?_
                                      refine AL.idle (i := 24) rfl (by kernel_rfl) (by kernel_rfl) (by kernel_rfl) (Idle.no rfl rfl rfl hc17) rfl rfl ?_
                                      refine AL.idle (i := 25) rfl (by kernel_rfl) (by kernel_rfl) (by kernel_rfl) (Idle.no rfl rfl rfl hc17) rfl rfl ?_
                                      refine AL.take (i := 26) rfl (by kernel_rfl) (by kernel_rfl) (by kernel_rfl) (Runs.free rfl) rfl rfl (ov_pick_false rfl (guard_eq rfl hc17) rfl) ?_
                                      refine AL.take (i := 27) rfl (by kernel_rfl) (by kernel_rfl) (by kernel_rfl) (Runs.free rfl) rfl rfl (ov_assign rfl rfl) ?_
                                      refine AL.done (by kernel_rfl) ?_
                                      refine then_normal ?_
                                      refine WP.ret ?_
                                      obtain rfl := Option.some.inj hm
                                      refine retQ_ret Tryd.results3 (Res.tmp rfl Res.nil) rfl (fun w' s => ⟨s.below, ?_⟩)
                                      exact rfl
                                  exact ALs.nil
                                exact ALs.nil
                              exact ALs.nil
                            refine ALs.cons (i := 19) rfl (Runs.yes rfl rfl rfl hc13) rfl rfl ?_ ?_
                            · skip
                              refine OQ.step (OV.quiet (ov_load_whole (i := 0) Tryd.isAgg34 Tryd.sizeOf34 rfl rfl rfl rfl)) ?_
                              refine ⟨fun w' s => (s.heap hle8), ?_⟩
                              refine AL.any (rs := [17]) (by kernel_rfl) (by decide) ?_
                              refine ALs.cons (i := 17) rfl (Runs.yes rfl rfl rfl hc13) rfl rfl ?_ ?_
                              · skip
                                refine OQ.step (OV.quiet (ov_load_whole (i := 1) Tryd.isAgg24 Tryd.sizeOf24 rfl rfl rfl rfl)) ?_
                                refine ⟨fun w' s => (s.heap hle8), ?_⟩
                                refine AL.any (rs := [18]) (by kernel_rfl) (by decide) ?_
                                refine ALs.cons (i := 18) rfl (Runs.yes rfl rfl rfl hc13) rfl rfl ?_ ?_
                                · skip
                                  obtain ⟨r19, e19, hm⟩ := bind_some hm
                                  refine os_con Tryd.call12 rfl rfl (fun w' s => (law58_own_con r3.1 ao2 cap2  w' H8 s.hold h2 hc3 hG r19 e19)) (fun rr10 H11 hle11 hR10 => ?_)
                                  replace h1 := h1.mono hle11
                                  replace h9 := h9.mono hle11
                                  replace h8 := h8.mono hle11
                                  replace h2 := h2.mono hle11
                                  replace hG := hG.mono hle11
                                  obtain ⟨ao12, cap12, rfl, h12, hc18⟩ := hR10
                                  refine ⟨fun w' s => (s.heap (hle8.trans hle11)), ?_⟩
                                  refine AL.any (rs := [20]) (by kernel_rfl) (by decide) ?_
                                  refine ALs.cons (i := 20) rfl (Runs.yes rfl rfl rfl hc13) rfl rfl ?_ ?_
                                  · skip
                                    obtain ⟨r20, e20, hm⟩ := bind_some hm
                                    refine OQ.step (oq_con (r := (.bool r20)) Tryd.call17 rfl rfl (fun w' s => ⟨_, (ref58_Same_con r19 (Machine.mk l1 i2) ao12 cap12 ao8 cap8  w' H11 s.hold h12 hc18 h8 hc9 hG r20 e20)⟩)) ?_
                                    refine ⟨fun w' s => (s.heap (hle8.trans hle11)), ?_⟩
                                    refine AL.take (i := 21) rfl (by kernel_rfl) (by kernel_rfl) (by kernel_rfl) (Runs.free rfl) rfl rfl (ov_pick_true rfl (guard_eq rfl hc13) rfl) ?_
                                    refine AL.take (i := 22) rfl (by kernel_rfl) (by kernel_rfl) (by kernel_rfl) (Runs.free rfl) rfl rfl (ov_move rfl rfl) ?_
                                    rcases Bool.eq_false_or_eq_true r20 with hc19 | hc19
                                    · replace hm := ite_t hc19 hm
                                      refine AL.take (i := 23) rfl (by kernel_rfl) (by kernel_rfl) (by kernel_rfl) (Runs.yes rfl rfl rfl hc19) rfl rfl (ov_move rfl rfl) ?_
                                      refine AL.take (i := 24) rfl (by kernel_rfl) (by kernel_rfl) (by kernel_rfl) (Runs.yes rfl rfl rfl hc19) rfl rfl (ov_move rfl rfl) ?_
                                      refine AL.take (i := 25) rfl (by kernel_rfl) (by kernel_rfl) (by kernel_rfl) (Runs.yes rfl rfl rfl hc19) rfl rfl (ov_eql rfl rfl rfl) ?_
                                      refine AL.take (i := 26) rfl (by kernel_rfl) (by kernel_rfl) (by kernel_rfl) (Runs.free rfl) rfl rfl (ov_pick_true rfl (guard_eq rfl hc19) rfl) ?_
                                      refine AL.take (i := 27) rfl (by kernel_rfl) (by kernel_rfl) (by kernel_rfl) (Runs.free rfl) rfl rfl (ov_assign rfl rfl) ?_
                                      refine AL.done (by kernel_rfl) ?_
                                      refine then_normal ?_
                                      refine WP.ret ?_
                                      obtain rfl := Option.some.inj hm
                                      refine retQ_ret Tryd.results3 (Res.tmp rfl Res.nil) rfl (fun w' s => ⟨s.below, ?_⟩)
                                      exact rfl
                                    · replace hm := ite_f hc19 hm
                                      refine AL.idle (i := 23) rfl (by kernel_rfl) (by kernel_rfl) (by kernel_rfl) (Idle.no rfl rfl rfl hc19) rfl rfl ?_
                                      refine AL.idle (i := 24) rfl (by kernel_rfl) (by kernel_rfl) (by kernel_rfl) (Idle.no rfl rfl rfl hc19) rfl rfl ?_
                                      refine AL.idle (i := 25) rfl (by kernel_rfl) (by kernel_rfl) (by kernel_rfl) (Idle.no rfl rfl rfl hc19) rfl rfl ?_
                                      refine AL.take (i := 26) rfl (by kernel_rfl) (by kernel_rfl) (by kernel_rfl) (Runs.free rfl) rfl rfl (ov_pick_false rfl (guard_eq rfl hc19) rfl) ?_
                                      refine AL.take (i := 27) rfl (by kernel_rfl) (by kernel_rfl) (by kernel_rfl) (Runs.free rfl) rfl rfl (ov_assign rfl rfl) ?_
                                      refine AL.done (by kernel_rfl) ?_
                                      refine then_normal ?_
                                      refine WP.ret ?_
                                      obtain rfl := Option.some.inj hm
                                      refine retQ_ret Tryd.results3 (Res.tmp rfl Res.nil) rfl (fun w' s => ⟨s.below, ?_⟩)
                                      exact rfl
                                  exact ALs.nil
                                exact ALs.nil
                              exact ALs.nil
                            exact ALs.nil
                          · replace hm := ite_f hc13 hm
                            refine AL.idle (i := 17) rfl (by kernel_rfl) (by kernel_rfl) (by kernel_rfl) (Idle.no rfl rfl rfl hc13) rfl rfl ?_
                            refine AL.idle (i := 18) rfl (by kernel_rfl) (by kernel_rfl) (by kernel_rfl) (Idle.no rfl rfl rfl hc13) rfl rfl ?_
                            refine AL.idle (i := 19) rfl (by kernel_rfl) (by kernel_rfl) (by kernel_rfl) (Idle.no rfl rfl rfl hc13) rfl rfl ?_
                            refine AL.idle (i := 20) rfl (by kernel_rfl) (by kernel_rfl) (by kernel_rfl) (Idle.no rfl rfl rfl hc13) rfl rfl ?_
                            refine AL.take (i := 21) rfl (by kernel_rfl) (by kernel_rfl) (by kernel_rfl) (Runs.free rfl) rfl rfl (ov_pick_false rfl (guard_eq rfl hc13) rfl) ?_
                            refine AL.take (i := 22) rfl (by kernel_rfl) (by kernel_rfl) (by kernel_rfl) (Runs.free rfl) rfl rfl (ov_move rfl rfl) ?_
                            refine AL.idle (i := 23) rfl (by kernel_rfl) (by kernel_rfl) (by kernel_rfl) (Idle.no rfl rfl rfl rfl) rfl rfl ?_
                            refine AL.idle (i := 24) rfl (by kernel_rfl) (by kernel_rfl) (by kernel_rfl) (Idle.no rfl rfl rfl rfl) rfl rfl ?_
                            refine AL.idle (i := 25) rfl (by kernel_rfl) (by kernel_rfl) (by kernel_rfl) (Idle.no rfl rfl rfl rfl) rfl rfl ?_
                            refine AL.take (i := 26) rfl (by kernel_rfl) (by kernel_rfl) (by kernel_rfl) (Runs.free rfl) rfl rfl (ov_pick_false rfl (guard_eq rfl rfl) rfl) ?_
                            refine AL.take (i := 27) rfl (by kernel_rfl) (by kernel_rfl) (by kernel_rfl) (Runs.free rfl) rfl rfl (ov_assign rfl rfl) ?_
                            refine AL.done (by kernel_rfl) ?_
                            refine then_normal ?_
                            refine WP.ret ?_
                            obtain rfl := Option.some.inj hm
                            refine retQ_ret Tryd.results3 (Res.tmp rfl Res.nil) rfl (fun w' s => ⟨s.below, ?_⟩)
                            exact rfl
                        exact ALs.nil
                      exact ALs.nil
                    refine ALs.cons (i := 12) rfl (Runs.yes rfl rfl rfl hc12) rfl rfl ?_ ?_
                    · skip
                      refine OQ.step (OV.quiet (ov_load_whole (i := 2) Tryd.isAgg26 Tryd.sizeOf26 rfl rfl rfl rfl)) ?_
                      refine ⟨fun w' s => (s.heap hle8), ?_⟩
                      refine AL.any (rs := [11]) (by kernel_rfl) (by decide) ?_
                      refine ALs.cons (i := 11) rfl (Runs.yes rfl rfl rfl hc12) rfl rfl ?_ ?_
                      · skip
                        obtain ⟨r21, e21, hm⟩ := bind_some hm
                        refine OQ.step (oq_con (r := (.int .i64 r21)) Tryd.call15 rfl rfl (fun w' s => ⟨_, (journal_Right_con p_x  w' H8 s.hold hG r21 e21)⟩)) ?_
                        refine ⟨fun w' s => (s.heap hle8), ?_⟩
                        refine AL.any (rs := [13]) (by kernel_rfl) (by decide) ?_
                        refine ALs.cons (i := 13) rfl (Runs.yes rfl rfl rfl hc12) rfl rfl ?_ ?_
                        · skip
                          obtain ⟨r22, e22, hm⟩ := bind_some hm
                          refine OQ.step (oq_con (r := (.int .i64 r22)) Tryd.call16 rfl rfl (fun w' s => ⟨_, (ref58_Right_con p_x  w' H8 s.hold hG r22 e22)⟩)) ?_
                          refine ⟨fun w' s => (s.heap hle8), ?_⟩
                          refine AL.take (i := 14) rfl (by kernel_rfl) (by kernel_rfl) (by kernel_rfl) (Runs.yes rfl rfl rfl hc12) rfl rfl (ov_eql rfl rfl rfl) ?_
                          refine AL.take (i := 15) rfl (by kernel_rfl) (by kernel_rfl) (by kernel_rfl) (Runs.free rfl) rfl rfl (ov_pick_true rfl (guard_eq rfl hc12) rfl) ?_
                          refine AL.take (i := 16) rfl (by kernel_rfl) (by kernel_rfl) (by kernel_rfl) (Runs.free rfl) rfl rfl (ov_move rfl rfl) ?_
                          rcases Bool.eq_false_or_eq_true (r21 == r22) with hc20 | hc20
                          · replace hm := ite_t hc20 hm
                            refine AL.any (rs := [17, 19]) (by kernel_rfl) (by decide) ?_
                            refine ALs.cons (i := 17) rfl (Runs.yes rfl rfl rfl hc20) rfl rfl ?_ ?_
                            · skip
                              refine OQ.step (OV.quiet (ov_load_whole (i := 1) Tryd.isAgg24 Tryd.sizeOf24 rfl rfl rfl rfl)) ?_
                              refine ⟨fun w' s => (s.heap hle8), ?_⟩
                              refine AL.any (rs := [18, 19]) (by kernel_rfl) (by decide) ?_
                              refine ALs.cons (i := 18) rfl (Runs.yes rfl rfl rfl hc20) rfl rfl ?_ ?_
                              · skip
                                obtain ⟨r23, e23, hm⟩ := bind_some hm
                                refine os_con Tryd.call12 rfl rfl (fun w' s => (law58_own_con r3.1 ao2 cap2  w' H8 s.hold h2 hc3 hG r23 e23)) (fun rr11 H12 hle12 hR11 => ?_)
                                replace h1 := h1.mono hle12
                                replace h9 := h9.mono hle12
                                replace h2 := h2.mono hle12
                                replace h8 := h8.mono hle12
                                replace hG := hG.mono hle12
                                obtain ⟨ao13, cap13, rfl, h13, hc21⟩ := hR11
                                refine ⟨fun w' s => (s.heap (hle8.trans hle12)), ?_⟩
                                refine AL.any (rs := [19]) (by kernel_rfl) (by decide) ?_
                                refine ALs.cons (i := 19) rfl (Runs.yes rfl rfl rfl hc20) rfl rfl ?_ ?_
                                · skip
                                  refine OQ.step (OV.quiet (ov_load_whole (i := 0) Tryd.isAgg34 Tryd.sizeOf34 rfl rfl rfl rfl)) ?_
                                  refine ⟨fun w' s => (s.heap (hle8.trans hle12)), ?_⟩
                                  refine AL.any (rs := [20]) (by kernel_rfl) (by decide) ?_
                                  refine ALs.cons (i := 20) rfl (Runs.yes rfl rfl rfl hc20) rfl rfl ?_ ?_
                                  · skip
                                    obtain ⟨r24, e24, hm⟩ := bind_some hm
                                    refine OQ.step (oq_con (r := (.bool r24)) Tryd.call17 rfl rfl (fun w' s => ⟨_, (ref58_Same_con r23 (Machine.mk l1 i2) ao13 cap13 ao8 cap8  w' H12 s.hold h13 hc21 h8 hc9 hG r24 e24)⟩)) ?_
                                    refine ⟨fun w' s => (s.heap (hle8.trans hle12)), ?_⟩
                                    refine AL.take (i := 21) rfl (by kernel_rfl) (by kernel_rfl) (by kernel_rfl) (Runs.free rfl) rfl rfl (ov_pick_true rfl (guard_eq rfl hc20) rfl) ?_
                                    refine AL.take (i := 22) rfl (by kernel_rfl) (by kernel_rfl) (by kernel_rfl) (Runs.free rfl) rfl rfl (ov_move rfl rfl) ?_
                                    rcases Bool.eq_false_or_eq_true r24 with hc22 | hc22
                                    · replace hm := ite_t hc22 hm
                                      refine AL.take (i := 23) rfl (by kernel_rfl) (by kernel_rfl) (by kernel_rfl) (Runs.yes rfl rfl rfl hc22) rfl rfl (ov_move rfl rfl) ?_
                                      refine AL.take (i := 24) rfl (by kernel_rfl) (by kernel_rfl) (by kernel_rfl) (Runs.yes rfl rfl rfl hc22) rfl rfl (ov_move rfl rfl) ?_
                                      refine AL.take (i := 25) rfl (by kernel_rfl) (by kernel_rfl) (by kernel_rfl) (Runs.yes rfl rfl rfl hc22) rfl rfl (ov_eql rfl rfl rfl) ?_
                                      refine AL.take (i := 26) rfl (by kernel_rfl) (by kernel_rfl) (by kernel_rfl) (Runs.free rfl) rfl rfl (ov_pick_true rfl (guard_eq rfl hc22) rfl) ?_
                                      refine AL.take (i := 27) rfl (by kernel_rfl) (by kernel_rfl) (by kernel_rfl) (Runs.free rfl) rfl rfl (ov_assign rfl rfl) ?_
                                      refine AL.done (by kernel_rfl) ?_
                                      refine then_normal ?_
                                      refine WP.ret ?_
                                      obtain rfl := Option.some.inj hm
                                      refine retQ_ret Tryd.results3 (Res.tmp rfl Res.nil) rfl (fun w' s => ⟨s.below, ?_⟩)
                                      exact rfl
                                    · replace hm := ite_f hc22 hm
                                      refine AL.idle (i := 23) rfl (by kernel_rfl) (by kernel_rfl) (by kernel_rfl) (Idle.no rfl rfl rfl hc22) rfl rfl ?_
                                      refine AL.idle (i := 24) rfl (by kernel_rfl) (by kernel_rfl) (by kernel_rfl) (Idle.no rfl rfl rfl hc22) rfl rfl ?_
                                      refine AL.idle (i := 25) rfl (by kernel_rfl) (by kernel_rfl) (by kernel_rfl) (Idle.no rfl rfl rfl hc22) rfl rfl ?_
                                      refine AL.take (i := 26) rfl (by kernel_rfl) (by kernel_rfl) (by kernel_rfl) (Runs.free rfl) rfl rfl (ov_pick_false rfl (guard_eq rfl hc22) rfl) ?_
                                      refine AL.take (i := 27) rfl (by kernel_rfl) (by kernel_rfl) (by kernel_rfl) (Runs.free rfl) rfl rfl (ov_assign rfl rfl) ?_
                                      refine AL.done (by kernel_rfl) ?_
                                      refine then_normal ?_
                                      refine WP.ret ?_
                                      obtain rfl := Option.some.inj hm
                                      refine retQ_ret Tryd.results3 (Res.tmp rfl Res.nil) rfl (fun w' s => ⟨s.below, ?_⟩)
                                      exact rfl
                                  exact ALs.nil
                                exact ALs.nil
                              refine ALs.cons (i := 19) rfl (Runs.yes rfl rfl rfl hc20) rfl rfl ?_ ?_
                              · skip
                                refine OQ.step (OV.quiet (ov_load_whole (i := 0) Tryd.isAgg34 Tryd.sizeOf34 rfl rfl rfl rfl)) ?_
                                refine ⟨fun w' s => (s.heap hle8), ?_⟩
                                refine AL.any (rs := [18]) (by kernel_rfl) (by decide) ?_
                                refine ALs.cons (i := 18) rfl (Runs.yes rfl rfl rfl hc20) rfl rfl ?_ ?_
                                · skip
                                  obtain ⟨r25, e25, hm⟩ := bind_some hm
                                  refine os_con Tryd.call12 rfl rfl (fun w' s => (law58_own_con r3.1 ao2 cap2  w' H8 s.hold h2 hc3 hG r25 e25)) (fun rr12 H13 hle13 hR12 => ?_)
                                  replace h1 := h1.mono hle13
                                  replace h9 := h9.mono hle13
                                  replace h2 := h2.mono hle13
                                  replace h8 := h8.mono hle13
                                  replace hG := hG.mono hle13
                                  obtain ⟨ao14, cap14, rfl, h14, hc23⟩ := hR12
                                  refine ⟨fun w' s => (s.heap (hle8.trans hle13)), ?_⟩
                                  refine AL.any (rs := [20]) (by kernel_rfl) (by decide) ?_
                                  refine ALs.cons (i := 20) rfl (Runs.yes rfl rfl rfl hc20) rfl rfl ?_ ?_
                                  · skip
                                    obtain ⟨r26, e26, hm⟩ := bind_some hm
                                    refine OQ.step (oq_con (r := (.bool r26)) Tryd.call17 rfl rfl (fun w' s => ⟨_, (ref58_Same_con r25 (Machine.mk l1 i2) ao14 cap14 ao8 cap8  w' H13 s.hold h14 hc23 h8 hc9 hG r26 e26)⟩)) ?_
                                    refine ⟨fun w' s => (s.heap (hle8.trans hle13)), ?_⟩
                                    refine AL.take (i := 21) rfl (by kernel_rfl) (by kernel_rfl) (by kernel_rfl) (Runs.free rfl) rfl rfl (ov_pick_true rfl (guard_eq rfl hc20) rfl) ?_
                                    refine AL.take (i := 22) rfl (by kernel_rfl) (by kernel_rfl) (by kernel_rfl) (Runs.free rfl) rfl rfl (ov_move rfl rfl) ?_
                                    rcases Bool.eq_false_or_eq_true r26 with hc24 | hc24
                                    · replace hm := ite_t hc24 hm
                                      refine AL.take (i := 23) rfl (by kernel_rfl) (by kernel_rfl) (by kernel_rfl) (Runs.yes rfl rfl rfl hc24) rfl rfl (ov_move rfl rfl) ?_
                                      refine AL.take (i := 24) rfl (by kernel_rfl) (by kernel_rfl) (by kernel_rfl) (Runs.yes rfl rfl rfl hc24) rfl rfl (ov_move rfl rfl) ?_
                                      refine AL.take (i := 25) rfl (by kernel_rfl) (by kernel_rfl) (by kernel_rfl) (Runs.yes rfl rfl rfl hc24) rfl rfl (ov_eql rfl rfl rfl) ?_
                                      refine AL.take (i := 26) rfl (by kernel_rfl) (by kernel_rfl) (by kernel_rfl) (Runs.free rfl) rfl rfl (ov_pick_true rfl (guard_eq rfl hc24) rfl) ?_
                                      refine AL.take (i := 27) rfl (by kernel_rfl) (by kernel_rfl) (by kernel_rfl) (Runs.free rfl) rfl rfl (ov_assign rfl rfl) ?_
                                      refine AL.done (by kernel_rfl) ?_
                                      refine then_normal ?_
                                      refine WP.ret ?_
                                      obtain rfl := Option.some.inj hm
                                      refine retQ_ret Tryd.results3 (Res.tmp rfl Res.nil) rfl (fun w' s => ⟨s.below, ?_⟩)
                                      exact rfl
                                    · replace hm := ite_f hc24 hm
                                      refine AL.idle (i := 23) rfl (by kernel_rfl) (by kernel_rfl) (by kernel_rfl) (Idle.no rfl rfl rfl hc24) rfl rfl ?_
                                      refine AL.idle (i := 24) rfl (by kernel_rfl) (by kernel_rfl) (by kernel_rfl) (Idle.no rfl rfl rfl hc24) rfl rfl ?_
                                      refine AL.idle (i := 25) rfl (by kernel_rfl) (by kernel_rfl) (by kernel_rfl) (Idle.no rfl rfl rfl hc24) rfl rfl ?_
                                      refine AL.take (i := 26) rfl (by kernel_rfl) (by kernel_rfl) (by kernel_rfl) (Runs.free rfl) rfl rfl (ov_pick_false rfl (guard_eq rfl hc24) rfl) ?_
                                      refine AL.take (i := 27) rfl (by kernel_rfl) (by kernel_rfl) (by kernel_rfl) (Runs.free rfl) rfl rfl (ov_assign rfl rfl) ?_
                                      refine AL.done (by kernel_rfl) ?_
                                      refine then_normal ?_
                                      refine WP.ret ?_
                                      obtain rfl := Option.some.inj hm
                                      refine retQ_ret Tryd.results3 (Res.tmp rfl Res.nil) rfl (fun w' s => ⟨s.below, ?_⟩)
                                      exact rfl
                                  exact ALs.nil
                                exact ALs.nil
                              exact ALs.nil
                            refine ALs.cons (i := 19) rfl (Runs.yes rfl rfl rfl hc20) rfl rfl ?_ ?_
                            · skip
                              refine OQ.step (OV.quiet (ov_load_whole (i := 0) Tryd.isAgg34 Tryd.sizeOf34 rfl rfl rfl rfl)) ?_
                              refine ⟨fun w' s => (s.heap hle8), ?_⟩
                              refine AL.any (rs := [17]) (by kernel_rfl) (by decide) ?_
                              refine ALs.cons (i := 17) rfl (Runs.yes rfl rfl rfl hc20) rfl rfl ?_ ?_
                              · skip
                                refine OQ.step (OV.quiet (ov_load_whole (i := 1) Tryd.isAgg24 Tryd.sizeOf24 rfl rfl rfl rfl)) ?_
                                refine ⟨fun w' s => (s.heap hle8), ?_⟩
                                refine AL.any (rs := [18]) (by kernel_rfl) (by decide) ?_
                                refine ALs.cons (i := 18) rfl (Runs.yes rfl rfl rfl hc20) rfl rfl ?_ ?_
                                · skip
                                  obtain ⟨r27, e27, hm⟩ := bind_some hm
                                  refine os_con Tryd.call12 rfl rfl (fun w' s => (law58_own_con r3.1 ao2 cap2  w' H8 s.hold h2 hc3 hG r27 e27)) (fun rr13 H14 hle14 hR13 => ?_)
                                  replace h1 := h1.mono hle14
                                  replace h9 := h9.mono hle14
                                  replace h8 := h8.mono hle14
                                  replace h2 := h2.mono hle14
                                  replace hG := hG.mono hle14
                                  obtain ⟨ao15, cap15, rfl, h15, hc25⟩ := hR13
                                  refine ⟨fun w' s => (s.heap (hle8.trans hle14)), ?_⟩
                                  refine AL.any (rs := [20]) (by kernel_rfl) (by decide) ?_
                                  refine ALs.cons (i := 20) rfl (Runs.yes rfl rfl rfl hc20) rfl rfl ?_ ?_
                                  · skip
                                    obtain ⟨r28, e28, hm⟩ := bind_some hm
                                    refine OQ.step (oq_con (r := (.bool r28)) Tryd.call17 rfl rfl (fun w' s => ⟨_, (ref58_Same_con r27 (Machine.mk l1 i2) ao15 cap15 ao8 cap8  w' H14 s.hold h15 hc25 h8 hc9 hG r28 e28)⟩)) ?_
                                    refine ⟨fun w' s => (s.heap (hle8.trans hle14)), ?_⟩
                                    refine AL.take (i := 21) rfl (by kernel_rfl) (by kernel_rfl) (by kernel_rfl) (Runs.free rfl) rfl rfl (ov_pick_true rfl (guard_eq rfl hc20) rfl) ?_
                                    refine AL.take (i := 22) rfl (by kernel_rfl) (by kernel_rfl) (by kernel_rfl) (Runs.free rfl) rfl rfl (ov_move rfl rfl) ?_
                                    rcases Bool.eq_false_or_eq_true r28 with hc26 | hc26
                                    · replace hm := ite_t hc26 hm
                                      refine AL.take (i := 23) rfl (by kernel_rfl) (by kernel_rfl) (by kernel_rfl) (Runs.yes rfl rfl rfl hc26) rfl rfl (ov_move rfl rfl) ?_
                                      refine AL.take (i := 24) rfl (by kernel_rfl) (by kernel_rfl) (by kernel_rfl) (Runs.yes rfl rfl rfl hc26) rfl rfl (ov_move rfl rfl) ?_
                                      refine AL.take (i := 25) rfl (by kernel_rfl) (by kernel_rfl) (by kernel_rfl) (Runs.yes rfl rfl rfl hc26) rfl rfl (ov_eql rfl rfl rfl) ?_
                                      refine AL.take (i := 26) rfl (by kernel_rfl) (by kernel_rfl) (by kernel_rfl) (Runs.free rfl) rfl rfl (ov_pick_true rfl (guard_eq rfl hc26) rfl) ?_
                                      refine AL.take (i := 27) rfl (by kernel_rfl) (by kernel_rfl) (by kernel_rfl) (Runs.free rfl) rfl rfl (ov_assign rfl rfl) ?_
                                      refine AL.done (by kernel_rfl) ?_
                                      refine then_normal ?_
                                      refine WP.ret ?_
                                      obtain rfl := Option.some.inj hm
                                      refine retQ_ret Tryd.results3 (Res.tmp rfl Res.nil) rfl (fun w' s => ⟨s.below, ?_⟩)
                                      exact rfl
                                    · replace hm := ite_f hc26 hm
                                      refine AL.idle (i := 23) rfl (by kernel_rfl) (by kernel_rfl) (by kernel_rfl) (Idle.no rfl rfl rfl hc26) rfl rfl ?_
                                      refine AL.idle (i := 24) rfl (by kernel_rfl) (by kernel_rfl) (by kernel_rfl) (Idle.no rfl rfl rfl hc26) rfl rfl ?_
                                      refine AL.idle (i := 25) rfl (by kernel_rfl) (by kernel_rfl) (by kernel_rfl) (Idle.no rfl rfl rfl hc26) rfl rfl ?_
                                      refine AL.take (i := 26) rfl (by kernel_rfl) (by kernel_rfl) (by kernel_rfl) (Runs.free rfl) rfl rfl (ov_pick_false rfl (guard_eq rfl hc26) rfl) ?_
                                      refine AL.take (i := 27) rfl (by kernel_rfl) (by kernel_rfl) (by kernel_rfl) (Runs.free rfl) rfl rfl (ov_assign rfl rfl) ?_
                                      refine AL.done (by kernel_rfl) ?_
                                      refine then_normal ?_
                                      refine WP.ret ?_
                                      obtain rfl := Option.some.inj hm
                                      refine retQ_ret Tryd.results3 (Res.tmp rfl Res.nil) rfl (fun w' s => ⟨s.below, ?_⟩)
                                      exact rfl
                                  exact ALs.nil
                                exact ALs.nil
                              exact ALs.nil
                            exact ALs.nil
                          · replace hm := ite_f hc20 hm
                            refine AL.idle (i := 17) rfl (by kernel_rfl) (by kernel_rfl) (by kernel_rfl) (Idle.no rfl rfl rfl hc20) rfl rfl ?_
                            refine AL.idle (i := 18) rfl (by kernel_rfl) (by kernel_rfl) (by kernel_rfl) (Idle.no rfl rfl rfl hc20) rfl rfl ?_
                            refine AL.idle (i := 19) rfl (by kernel_rfl) (by kernel_rfl) (by kernel_rfl) (Idle.no rfl rfl rfl hc20) rfl rfl ?_
                            refine AL.idle (i := 20) rfl (by kernel_rfl) (by kernel_rfl) (by kernel_rfl) (Idle.no rfl rfl rfl hc20) rfl rfl ?_
                            refine AL.take (i := 21) rfl (by kernel_rfl) (by kernel_rfl) (by kernel_rfl) (Runs.free rfl) rfl rfl (ov_pick_false rfl (guard_eq rfl hc20) rfl) ?_
                            refine AL.take (i := 22) rfl (by kernel_rfl) (by kernel_rfl) (by kernel_rfl) (Runs.free rfl) rfl rfl (ov_move rfl rfl) ?_
                            refine AL.idle (i := 23) rfl (by kernel_rfl) (by kernel_rfl) (by kernel_rfl) (Idle.no rfl rfl rfl rfl) rfl rfl ?_
                            refine AL.idle (i := 24) rfl (by kernel_rfl) (by kernel_rfl) (by kernel_rfl) (Idle.no rfl rfl rfl rfl) rfl rfl ?_
                            refine AL.idle (i := 25) rfl (by kernel_rfl) (by kernel_rfl) (by kernel_rfl) (Idle.no rfl rfl rfl rfl) rfl rfl ?_
                            refine AL.take (i := 26) rfl (by kernel_rfl) (by kernel_rfl) (by kernel_rfl) (Runs.free rfl) rfl rfl (ov_pick_false rfl (guard_eq rfl rfl) rfl) ?_
                            refine AL.take (i := 27) rfl (by kernel_rfl) (by kernel_rfl) (by kernel_rfl) (Runs.free rfl) rfl rfl (ov_assign rfl rfl) ?_
                            refine AL.done (by kernel_rfl) ?_
                            refine then_normal ?_
                            refine WP.ret ?_
                            obtain rfl := Option.some.inj hm
                            refine retQ_ret Tryd.results3 (Res.tmp rfl Res.nil) rfl (fun w' s => ⟨s.below, ?_⟩)
                            exact rfl
                        exact ALs.nil
                      exact ALs.nil
                    exact ALs.nil
                  refine ALs.cons (i := 12) rfl (Runs.yes rfl rfl rfl hc12) rfl rfl ?_ ?_
                  · skip
                    refine OQ.step (OV.quiet (ov_load_whole (i := 2) Tryd.isAgg26 Tryd.sizeOf26 rfl rfl rfl rfl)) ?_
                    refine ⟨fun w' s => (s.heap hle8), ?_⟩
                    refine AL.any (rs := [10]) (by kernel_rfl) (by decide) ?_
                    refine ALs.cons (i := 10) rfl (Runs.yes rfl rfl rfl hc12) rfl rfl ?_ ?_
                    · skip
                      refine OQ.step (OV.quiet (ov_load_whole (i := 2) Tryd.isAgg26 Tryd.sizeOf26 rfl rfl rfl rfl)) ?_
                      refine ⟨fun w' s => (s.heap hle8), ?_⟩
                      refine AL.any (rs := [11]) (by kernel_rfl) (by decide) ?_
                      refine ALs.cons (i := 11) rfl (Runs.yes rfl rfl rfl hc12) rfl rfl ?_ ?_
                      · skip
                        obtain ⟨r29, e29, hm⟩ := bind_some hm
                        refine OQ.step (oq_con (r := (.int .i64 r29)) Tryd.call15 rfl rfl (fun w' s => ⟨_, (journal_Right_con p_x  w' H8 s.hold hG r29 e29)⟩)) ?_
                        refine ⟨fun w' s => (s.heap hle8), ?_⟩
                        refine AL.any (rs := [13]) (by kernel_rfl) (by decide) ?_
                        refine ALs.cons (i := 13) rfl (Runs.yes rfl rfl rfl hc12) rfl rfl ?_ ?_
                        · skip
                          obtain ⟨r30, e30, hm⟩ := bind_some hm
                          refine OQ.step (oq_con (r := (.int .i64 r30)) Tryd.call16 rfl rfl (fun w' s => ⟨_, (ref58_Right_con p_x  w' H8 s.hold hG r30 e30)⟩)) ?_
                          refine ⟨fun w' s => (s.heap hle8), ?_⟩
                          refine AL.take (i := 14) rfl (by kernel_rfl) (by kernel_rfl) (by kernel_rfl) (Runs.yes rfl rfl rfl hc12) rfl rfl (ov_eql rfl rfl rfl) ?_
                          refine AL.take (i := 15) rfl (by kernel_rfl) (by kernel_rfl) (by kernel_rfl) (Runs.free rfl) rfl rfl (ov_pick_true rfl (guard_eq rfl hc12) rfl) ?_
                          refine AL.take (i := 16) rfl (by kernel_rfl) (by kernel_rfl) (by kernel_rfl) (Runs.free rfl) rfl rfl (ov_move rfl rfl) ?_
                          rcases Bool.eq_false_or_eq_true (r29 == r30) with hc27 | hc27
                          · replace hm := ite_t hc27 hm
                            refine AL.any (rs := [17, 19]) (by kernel_rfl) (by decide) ?_
                            refine ALs.cons (i := 17) rfl (Runs.yes rfl rfl rfl hc27) rfl rfl ?_ ?_
                            · skip
                              refine OQ.step (OV.quiet (ov_load_whole (i := 1) Tryd.isAgg24 Tryd.sizeOf24 rfl rfl rfl rfl)) ?_
                              refine ⟨fun w' s => (s.heap hle8), ?_⟩
                              refine AL.any (rs := [18, 19]) (by kernel_rfl) (by decide) ?_
                              refine ALs.cons (i := 18) rfl (Runs.yes rfl rfl rfl hc27) rfl rfl ?_ ?_
                              · skip
                                obtain ⟨r31, e31, hm⟩ := bind_some hm
                                refine os_con Tryd.call12 rfl rfl (fun w' s => (law58_own_con r3.1 ao2 cap2  w' H8 s.hold h2 hc3 hG r31 e31)) (fun rr14 H15 hle15 hR14 => ?_)
                                replace h1 := h1.mono hle15
                                replace h9 := h9.mono hle15
                                replace h2 := h2.mono hle15
                                replace h8 := h8.mono hle15
                                replace hG := hG.mono hle15
                                obtain ⟨ao16, cap16, rfl, h16, hc28⟩ := hR14
                                refine ⟨fun w' s => (s.heap (hle8.trans hle15)), ?_⟩
                                refine AL.any (rs := [19]) (by kernel_rfl) (by decide) ?_
                                refine ALs.cons (i := 19) rfl (Runs.yes rfl rfl rfl hc27) rfl rfl ?_ ?_
                                · skip
                                  refine OQ.step (OV.quiet (ov_load_whole (i := 0) Tryd.isAgg34 Tryd.sizeOf34 rfl rfl rfl rfl)) ?_
                                  refine ⟨fun w' s => (s.heap (hle8.trans hle15)), ?_⟩
                                  refine AL.any (rs := [20]) (by kernel_rfl) (by decide) ?_
                                  refine ALs.cons (i := 20) rfl (Runs.yes rfl rfl rfl hc27) rfl rfl ?_ ?_
                                  · skip
                                    obtain ⟨r32, e32, hm⟩ := bind_some hm
                                    refine OQ.step (oq_con (r := (.bool r32)) Tryd.call17 rfl rfl (fun w' s => ⟨_, (ref58_Same_con r31 (Machine.mk l1 i2) ao16 cap16 ao8 cap8  w' H15 s.hold h16 hc28 h8 hc9 hG r32 e32)⟩)) ?_
                                    refine ⟨fun w' s => (s.heap (hle8.trans hle15)), ?_⟩
                                    refine AL.take (i := 21) rfl (by kernel_rfl) (by kernel_rfl) (by kernel_rfl) (Runs.free rfl) rfl rfl (ov_pick_true rfl (guard_eq rfl hc27) rfl) ?_
                                    refine AL.take (i := 22) rfl (by kernel_rfl) (by kernel_rfl) (by kernel_rfl) (Runs.free rfl) rfl rfl (ov_move rfl rfl) ?_
                                    rcases Bool.eq_false_or_eq_true r32 with hc29 | hc29
                                    · replace hm := ite_t hc29 hm
                                      refine AL.take (i := 23) rfl (by kernel_rfl) (by kernel_rfl) (by kernel_rfl) (Runs.yes rfl rfl rfl hc29) rfl rfl (ov_move rfl rfl) ?_
                                      refine AL.take (i := 24) rfl (by kernel_rfl) (by kernel_rfl) (by kernel_rfl) (Runs.yes rfl rfl rfl hc29) rfl rfl (ov_move rfl rfl) ?_
                                      refine AL.take (i := 25) rfl (by kernel_rfl) (by kernel_rfl) (by kernel_rfl) (Runs.yes rfl rfl rfl hc29) rfl rfl (ov_eql rfl rfl rfl) ?_
                                      refine AL.take (i := 26) rfl (by kernel_rfl) (by kernel_rfl) (by kernel_rfl) (Runs.free rfl) rfl rfl (ov_pick_true rfl (guard_eq rfl hc29) rfl) ?_
                                      refine AL.take (i := 27) rfl (by kernel_rfl) (by kernel_rfl) (by kernel_rfl) (Runs.free rfl) rfl rfl (ov_assign rfl rfl) ?_
                                      refine AL.done (by kernel_rfl) ?_
                                      refine then_normal ?_
                                      refine WP.ret ?_
                                      obtain rfl := Option.some.inj hm
                                      refine retQ_ret Tryd.results3 (Res.tmp rfl Res.nil) rfl (fun w' s => ⟨s.below, ?_⟩)
                                      exact rfl
                                    · replace hm := ite_f hc29 hm
                                      refine AL.idle (i := 23) rfl (by kernel_rfl) (by kernel_rfl) (by kernel_rfl) (Idle.no rfl rfl rfl hc29) rfl rfl ?_
                                      refine AL.idle (i := 24) rfl (by kernel_rfl) (by kernel_rfl) (by kernel_rfl) (Idle.no rfl rfl rfl hc29) rfl rfl ?_
                                      refine AL.idle (i := 25) rfl (by kernel_rfl) (by kernel_rfl) (by kernel_rfl) (Idle.no rfl rfl rfl hc29) rfl rfl ?_
                                      refine AL.take (i := 26) rfl (by kernel_rfl) (by kernel_rfl) (by kernel_rfl) (Runs.free rfl) rfl rfl (ov_pick_false rfl (guard_eq rfl hc29) rfl) ?_
                                      refine AL.take (i := 27) rfl (by kernel_rfl) (by kernel_rfl) (by kernel_rfl) (Runs.free rfl) rfl rfl (ov_assign rfl rfl) ?_
                                      refine AL.done (by kernel_rfl) ?_
                                      refine then_normal ?_
                                      refine WP.ret ?_
                                      obtain rfl := Option.some.inj hm
                                      refine retQ_ret Tryd.results3 (Res.tmp rfl Res.nil) rfl (fun w' s => ⟨s.below, ?_⟩)
                                      exact rfl
                                  exact ALs.nil
                                exact ALs.nil
                              refine ALs.cons (i := 19) rfl (Runs.yes rfl rfl rfl hc27) rfl rfl ?_ ?_
                              · skip
                                refine OQ.step (OV.quiet (ov_load_whole (i := 0) Tryd.isAgg34 Tryd.sizeOf34 rfl rfl rfl rfl)) ?_
                                refine ⟨fun w' s => (s.heap hle8), ?_⟩
                                refine AL.any (rs := [18]) (by kernel_rfl) (by decide) ?_
                                refine ALs.cons (i := 18) rfl (Runs.yes rfl rfl rfl hc27) rfl rfl ?_ ?_
                                · skip
                                  obtain ⟨r33, e33, hm⟩ := bind_some hm
                                  refine os_con Tryd.call12 rfl rfl (fun w' s => (law58_own_con r3.1 ao2 cap2  w' H8 s.hold h2 hc3 hG r33 e33)) (fun rr15 H16 hle16 hR15 => ?_)
                                  replace h1 := h1.mono hle16
                                  replace h9 := h9.mono hle16
                                  replace h2 := h2.mono hle16
                                  replace h8 := h8.mono hle16
                                  replace hG := hG.mono hle16
                                  obtain ⟨ao17, cap17, rfl, h17, hc30⟩ := hR15
                                  refine ⟨fun w' s => (s.heap (hle8.trans hle16)), ?_⟩
                                  refine AL.any (rs := [20]) (by kernel_rfl) (by decide) ?_
                                  refine ALs.cons (i := 20) rfl (Runs.yes rfl rfl rfl hc27) rfl rfl ?_ ?_
                                  · skip
                                    obtain ⟨r34, e34, hm⟩ := bind_some hm
                                    refine OQ.step (oq_con (r := (.bool r34)) Tryd.call17 rfl rfl (fun w' s => ⟨_, (ref58_Same_con r33 (Machine.mk l1 i2) ao17 cap17 ao8 cap8  w' H16 s.hold h17 hc30 h8 hc9 hG r34 e34)⟩)) ?_
                                    refine ⟨fun w' s => (s.heap (hle8.trans hle16)), ?_⟩
                                    refine AL.take (i := 21) rfl (by kernel_rfl) (by kernel_rfl) (by kernel_rfl) (Runs.free rfl) rfl rfl (ov_pick_true rfl (guard_eq rfl hc27) rfl) ?_
                                    refine AL.take (i := 22) rfl (by kernel_rfl) (by kernel_rfl) (by kernel_rfl) (Runs.free rfl) rfl rfl (ov_move rfl rfl) ?_
                                    rcases Bool.eq_false_or_eq_true r34 with hc31 | hc31
                                    · replace hm := ite_t hc31 hm
                                      refine AL.take (i := 23) rfl (by kernel_rfl) (by kernel_rfl) (by kernel_rfl) (Runs.yes rfl rfl rfl hc31) rfl rfl (ov_move rfl rfl) ?_
                                      refine AL.take (i := 24) rfl (by kernel_rfl) (by kernel_rfl) (by kernel_rfl) (Runs.yes rfl rfl rfl hc31) rfl rfl (ov_move rfl rfl) ?_
                                      refine AL.take (i := 25) rfl (by kernel_rfl) (by kernel_rfl) (by kernel_rfl) (Runs.yes rfl rfl rfl hc31) rfl rfl (ov_eql rfl rfl rfl) ?_
                                      refine AL.take (i := 26) rfl (by kernel_rfl) (by kernel_rfl) (by kernel_rfl) (Runs.free rfl) rfl rfl (ov_pick_true rfl (guard_eq rfl hc31) rfl) ?_
                                      refine AL.take (i := 27) rfl (by kernel_rfl) (by kernel_rfl) (by kernel_rfl) (Runs.free rfl) rfl rfl (ov_assign rfl rfl) ?_
                                      refine AL.done (by kernel_rfl) ?_
                                      refine then_normal ?_
                                      refine WP.ret ?_
                                      obtain rfl := Option.some.inj hm
                                      refine retQ_ret Tryd.results3 (Res.tmp rfl Res.nil) rfl (fun w' s => ⟨s.below, ?_⟩)
                                      exact rfl
                                    · replace hm := ite_f hc31 hm
                                      refine AL.idle (i := 23) rfl (by kernel_rfl) (by kernel_rfl) (by kernel_rfl) (Idle.no rfl rfl rfl hc31) rfl rfl ?_
                                      refine AL.idle (i := 24) rfl (by kernel_rfl) (by kernel_rfl) (by kernel_rfl) (Idle.no rfl rfl rfl hc31) rfl rfl ?_
                                      refine AL.idle (i := 25) rfl (by kernel_rfl) (by kernel_rfl) (by kernel_rfl) (Idle.no rfl rfl rfl hc31) rfl rfl ?_
                                      refine AL.take (i := 26) rfl (by kernel_rfl) (by kernel_rfl) (by kernel_rfl) (Runs.free rfl) rfl rfl (ov_pick_false rfl (guard_eq rfl hc31) rfl) ?_
                                      refine AL.take (i := 27) rfl (by kernel_rfl) (by kernel_rfl) (by kernel_rfl) (Runs.free rfl) rfl rfl (ov_assign rfl rfl) ?_
                                      refine AL.done (by kernel_rfl) ?_
                                      refine then_normal ?_
                                      refine WP.ret ?_
                                      obtain rfl := Option.some.inj hm
                                      refine retQ_ret Tryd.results3 (Res.tmp rfl Res.nil) rfl (fun w' s => ⟨s.below, ?_⟩)
                                      exact rfl
                                  exact ALs.nil
                                exact ALs.nil
                              exact ALs.nil
                            refine ALs.cons (i := 19) rfl (Runs.yes rfl rfl rfl hc27) rfl rfl ?_ ?_
                            · skip
                              refine OQ.step (OV.quiet (ov_load_whole (i := 0) Tryd.isAgg34 Tryd.sizeOf34 rfl rfl rfl rfl)) ?_
                              refine ⟨fun w' s => (s.heap hle8), ?_⟩
                              refine AL.any (rs := [17]) (by kernel_rfl) (by decide) ?_
                              refine ALs.cons (i := 17) rfl (Runs.yes rfl rfl rfl hc27) rfl rfl ?_ ?_
                              · skip
                                refine OQ.step (OV.quiet (ov_load_whole (i := 1) Tryd.isAgg24 Tryd.sizeOf24 rfl rfl rfl rfl)) ?_
                                refine ⟨fun w' s => (s.heap hle8), ?_⟩
                                refine AL.any (rs := [18]) (by kernel_rfl) (by decide) ?_
                                refine ALs.cons (i := 18) rfl (Runs.yes rfl rfl rfl hc27) rfl rfl ?_ ?_
                                · skip
                                  obtain ⟨r35, e35, hm⟩ := bind_some hm
                                  refine os_con Tryd.call12 rfl rfl (fun w' s => (law58_own_con r3.1 ao2 cap2  w' H8 s.hold h2 hc3 hG r35 e35)) (fun rr16 H17 hle17 hR16 => ?_)
                                  replace h1 := h1.mono hle17
                                  replace h9 := h9.mono hle17
                                  replace h8 := h8.mono hle17
                                  replace h2 := h2.mono hle17
                                  replace hG := hG.mono hle17
                                  obtain ⟨ao18, cap18, rfl, h18, hc32⟩ := hR16
                                  refine ⟨fun w' s => (s.heap (hle8.trans hle17)), ?_⟩
                                  refine AL.any (rs := [20]) (by kernel_rfl) (by decide) ?_
                                  refine ALs.cons (i := 20) rfl (Runs.yes rfl rfl rfl hc27) rfl rfl ?_ ?_
                                  · skip
                                    obtain ⟨r36, e36, hm⟩ := bind_some hm
                                    refine OQ.step (oq_con (r := (.bool r36)) Tryd.call17 rfl rfl (fun w' s => ⟨_, (ref58_Same_con r35 (Machine.mk l1 i2) ao18 cap18 ao8 cap8  w' H17 s.hold h18 hc32 h8 hc9 hG r36 e36)⟩)) ?_
                                    refine ⟨fun w' s => (s.heap (hle8.trans hle17)), ?_⟩
                                    refine AL.take (i := 21) rfl (by kernel_rfl) (by kernel_rfl) (by kernel_rfl) (Runs.free rfl) rfl rfl (ov_pick_true rfl (guard_eq rfl hc27) rfl) ?_
                                    refine AL.take (i := 22) rfl (by kernel_rfl) (by kernel_rfl) (by kernel_rfl) (Runs.free rfl) rfl rfl (ov_move rfl rfl) ?_
                                    rcases Bool.eq_false_or_eq_true r36 with hc33 | hc33
                                    · replace hm := ite_t hc33 hm
                                      refine AL.take (i := 23) rfl (by kernel_rfl) (by kernel_rfl) (by kernel_rfl) (Runs.yes rfl rfl rfl hc33) rfl rfl (ov_move rfl rfl) ?_
                                      refine AL.take (i := 24) rfl (by kernel_rfl) (by kernel_rfl) (by kernel_rfl) (Runs.yes rfl rfl rfl hc33) rfl rfl (ov_move rfl rfl) ?_
                                      refine AL.take (i := 25) rfl (by kernel_rfl) (by kernel_rfl) (by kernel_rfl) (Runs.yes rfl rfl rfl hc33) rfl rfl (ov_eql rfl rfl rfl) ?_
                                      refine AL.take (i := 26) rfl (by kernel_rfl) (by kernel_rfl) (by kernel_rfl) (Runs.free rfl) rfl rfl (ov_pick_true rfl (guard_eq rfl hc33) rfl) ?_
                                      refine AL.take (i := 27) rfl (by kernel_rfl) (by kernel_rfl) (by kernel_rfl) (Runs.free rfl) rfl rfl (ov_assign rfl rfl) ?_
                                      refine AL.done (by kernel_rfl) ?_
                                      refine then_normal ?_
                                      refine WP.ret ?_
                                      obtain rfl := Option.some.inj hm
                                      refine retQ_ret Tryd.results3 (Res.tmp rfl Res.nil) rfl (fun w' s => ⟨s.below, ?_⟩)
                                      exact rfl
                                    · replace hm := ite_f hc33 hm
                                      refine AL.idle (i := 23) rfl (by kernel_rfl) (by kernel_rfl) (by kernel_rfl) (Idle.no rfl rfl rfl hc33) rfl rfl ?_
                                      refine AL.idle (i := 24) rfl (by kernel_rfl) (by kernel_rfl) (by kernel_rfl) (Idle.no rfl rfl rfl hc33) rfl rfl ?_
                                      refine AL.idle (i := 25) rfl (by kernel_rfl) (by kernel_rfl) (by kernel_rfl) (Idle.no rfl rfl rfl hc33) rfl rfl ?_
                                      refine AL.take (i := 26) rfl (by kernel_rfl) (by kernel_rfl) (by kernel_rfl) (Runs.free rfl) rfl rfl (ov_pick_false rfl (guard_eq rfl hc33) rfl) ?_
                                      refine AL.take (i := 27) rfl (by kernel_rfl) (by kernel_rfl) (by kernel_rfl) (Runs.free rfl) rfl rfl (ov_assign rfl rfl) ?_
                                      refine AL.done (by kernel_rfl) ?_
                                      refine then_normal ?_
                                      refine WP.ret ?_
                                      obtain rfl := Option.some.inj hm
                                      refine retQ_ret Tryd.results3 (Res.tmp rfl Res.nil) rfl (fun w' s => ⟨s.below, ?_⟩)
                                      exact rfl
                                  exact ALs.nil
                                exact ALs.nil
                              exact ALs.nil
                            exact ALs.nil
                          · replace hm := ite_f hc27 hm
                            refine AL.idle (i := 17) rfl (by kernel_rfl) (by kernel_rfl) (by kernel_rfl) (Idle.no rfl rfl rfl hc27) rfl rfl ?_
                            refine AL.idle (i := 18) rfl (by kernel_rfl) (by kernel_rfl) (by kernel_rfl) (Idle.no rfl rfl rfl hc27) rfl rfl ?_
                            refine AL.idle (i := 19) rfl (by kernel_rfl) (by kernel_rfl) (by kernel_rfl) (Idle.no rfl rfl rfl hc27) rfl rfl ?_
                            refine AL.idle (i := 20) rfl (by kernel_rfl) (by kernel_rfl) (by kernel_rfl) (Idle.no rfl rfl rfl hc27) rfl rfl ?_
                            refine AL.take (i := 21) rfl (by kernel_rfl) (by kernel_rfl) (by kernel_rfl) (Runs.free rfl) rfl rfl (ov_pick_false rfl (guard_eq rfl hc27) rfl) ?_
                            refine AL.take (i := 22) rfl (by kernel_rfl) (by kernel_rfl) (by kernel_rfl) (Runs.free rfl) rfl rfl (ov_move rfl rfl) ?_
                            refine AL.idle (i := 23) rfl (by kernel_rfl) (by kernel_rfl) (by kernel_rfl) (Idle.no rfl rfl rfl rfl) rfl rfl ?_
                            refine AL.idle (i := 24) rfl (by kernel_rfl) (by kernel_rfl) (by kernel_rfl) (Idle.no rfl rfl rfl rfl) rfl rfl ?_
                            refine AL.idle (i := 25) rfl (by kernel_rfl) (by kernel_rfl) (by kernel_rfl) (Idle.no rfl rfl rfl rfl) rfl rfl ?_
                            refine AL.take (i := 26) rfl (by kernel_rfl) (by kernel_rfl) (by kernel_rfl) (Runs.free rfl) rfl rfl (ov_pick_false rfl (guard_eq rfl rfl) rfl) ?_
                            refine AL.take (i := 27) rfl (by kernel_rfl) (by kernel_rfl) (by kernel_rfl) (Runs.free rfl) rfl rfl (ov_assign rfl rfl) ?_
                            refine AL.done (by kernel_rfl) ?_
                            refine then_normal ?_
                            refine WP.ret ?_
                            obtain rfl := Option.some.inj hm
                            refine retQ_ret Tryd.results3 (Res.tmp rfl Res.nil) rfl (fun w' s => ⟨s.below, ?_⟩)
                            exact rfl
                        exact ALs.nil
                      exact ALs.nil
                    exact ALs.nil
                  exact ALs.nil
                · replace hm := ite_f hc12 hm
                  refine AL.idle (i := 10) rfl (by kernel_rfl) (by kernel_rfl) (by kernel_rfl) (Idle.no rfl rfl rfl hc12) rfl rfl ?_
                  refine AL.idle (i := 11) rfl (by kernel_rfl) (by kernel_rfl) (by kernel_rfl) (Idle.no rfl rfl rfl hc12) rfl rfl ?_
                  refine AL.idle (i := 12) rfl (by kernel_rfl) (by kernel_rfl) (by kernel_rfl) (Idle.no rfl rfl rfl hc12) rfl rfl ?_
                  refine AL.idle (i := 13) rfl (by kernel_rfl) (by kernel_rfl) (by kernel_rfl) (Idle.no rfl rfl rfl hc12) rfl rfl ?_
                  refine AL.idle (i := 14) rfl (by kernel_rfl) (by kernel_rfl) (by kernel_rfl) (Idle.no rfl rfl rfl hc12) rfl rfl ?_
                  refine AL.take (i := 15) rfl (by kernel_rfl) (by kernel_rfl) (by kernel_rfl) (Runs.free rfl) rfl rfl (ov_pick_false rfl (guard_eq rfl hc12) rfl) ?_
                  refine AL.take (i := 16) rfl (by kernel_rfl) (by kernel_rfl) (by kernel_rfl) (Runs.free rfl) rfl rfl (ov_move rfl rfl) ?_
                  refine AL.idle (i := 17) rfl (by kernel_rfl) (by kernel_rfl) (by kernel_rfl) (Idle.no rfl rfl rfl rfl) rfl rfl ?_
                  refine AL.idle (i := 18) rfl (by kernel_rfl) (by kernel_rfl) (by kernel_rfl) (Idle.no rfl rfl rfl rfl) rfl rfl ?_
                  refine AL.idle (i := 19) rfl (by kernel_rfl) (by kernel_rfl) (by kernel_rfl) (Idle.no rfl rfl rfl rfl) rfl rfl ?_
                  refine AL.idle (i := 20) rfl (by kernel_rfl) (by kernel_rfl) (by kernel_rfl) (Idle.no rfl rfl rfl rfl) rfl rfl ?_
                  refine AL.take (i := 21) rfl (by kernel_rfl) (by kernel_rfl) (by kernel_rfl) (Runs.free rfl) rfl rfl (ov_pick_false rfl (guard_eq rfl rfl) rfl) ?_
                  refine AL.take (i := 22) rfl (by kernel_rfl) (by kernel_rfl) (by kernel_rfl) (Runs.free rfl) rfl rfl (ov_move rfl rfl) ?_
                  refine AL.idle (i := 23) rfl (by kernel_rfl) (by kernel_rfl) (by kernel_rfl) (Idle.no rfl rfl rfl rfl) rfl rfl ?_
                  refine AL.idle (i := 24) rfl (by kernel_rfl) (by kernel_rfl) (by kernel_rfl) (Idle.no rfl rfl rfl rfl) rfl rfl ?_
                  refine AL.idle (i := 25) rfl (by kernel_rfl) (by kernel_rfl) (by kernel_rfl) (Idle.no rfl rfl rfl rfl) rfl rfl ?_
                  refine AL.take (i := 26) rfl (by kernel_rfl) (by kernel_rfl) (by kernel_rfl) (Runs.free rfl) rfl rfl (ov_pick_false rfl (guard_eq rfl rfl) rfl) ?_
                  refine AL.take (i := 27) rfl (by kernel_rfl) (by kernel_rfl) (by kernel_rfl) (Runs.free rfl) rfl rfl (ov_assign rfl rfl) ?_
                  refine AL.done (by kernel_rfl) ?_
                  refine then_normal ?_
                  refine WP.ret ?_
                  obtain rfl := Option.some.inj hm
                  refine retQ_ret Tryd.results3 (Res.tmp rfl Res.nil) rfl (fun w' s => ⟨s.below, ?_⟩)
                  exact rfl
              exact ALs.nil
            exact ALs.nil
          exact ALs.nil
        · replace hm := ite_f hc10 hm
          refine AL.idle (i := 2) rfl (by kernel_rfl) (by kernel_rfl) (by kernel_rfl) (Idle.no rfl rfl rfl hc10) rfl rfl ?_
          refine AL.idle (i := 3) rfl (by kernel_rfl) (by kernel_rfl) (by kernel_rfl) (Idle.no rfl rfl rfl hc10) rfl rfl ?_
          refine AL.idle (i := 4) rfl (by kernel_rfl) (by kernel_rfl) (by kernel_rfl) (Idle.no rfl rfl rfl hc10) rfl rfl ?_
          refine AL.idle (i := 5) rfl (by kernel_rfl) (by kernel_rfl) (by kernel_rfl) (Idle.no rfl rfl rfl hc10) rfl rfl ?_
          refine AL.idle (i := 6) rfl (by kernel_rfl) (by kernel_rfl) (by kernel_rfl) (Idle.no rfl rfl rfl hc10) rfl rfl ?_
          refine AL.idle (i := 7) rfl (by kernel_rfl) (by kernel_rfl) (by kernel_rfl) (Idle.no rfl rfl rfl hc10) rfl rfl ?_
          refine AL.take (i := 8) rfl (by kernel_rfl) (by kernel_rfl) (by kernel_rfl) (Runs.free rfl) rfl rfl (ov_pick_false rfl (guard_eq rfl hc10) rfl) ?_
          refine AL.take (i := 9) rfl (by kernel_rfl) (by kernel_rfl) (by kernel_rfl) (Runs.free rfl) rfl rfl (ov_move rfl rfl) ?_
          refine AL.idle (i := 10) rfl (by kernel_rfl) (by kernel_rfl) (by kernel_rfl) (Idle.no rfl rfl rfl rfl) rfl rfl ?_
          refine AL.idle (i := 11) rfl (by kernel_rfl) (by kernel_rfl) (by kernel_rfl) (Idle.no rfl rfl rfl rfl) rfl rfl ?_
          refine AL.idle (i := 12) rfl (by kernel_rfl) (by kernel_rfl) (by kernel_rfl) (Idle.no rfl rfl rfl rfl) rfl rfl ?_
          refine AL.idle (i := 13) rfl (by kernel_rfl) (by kernel_rfl) (by kernel_rfl) (Idle.no rfl rfl rfl rfl) rfl rfl ?_
          refine AL.idle (i := 14) rfl (by kernel_rfl) (by kernel_rfl) (by kernel_rfl) (Idle.no rfl rfl rfl rfl) rfl rfl ?_
          refine AL.take (i := 15) rfl (by kernel_rfl) (by kernel_rfl) (by kernel_rfl) (Runs.free rfl) rfl rfl (ov_pick_false rfl (guard_eq rfl rfl) rfl) ?_
          refine AL.take (i := 16) rfl (by kernel_rfl) (by kernel_rfl) (by kernel_rfl) (Runs.free rfl) rfl rfl (ov_move rfl rfl) ?_
          refine AL.idle (i := 17) rfl (by kernel_rfl) (by kernel_rfl) (by kernel_rfl) (Idle.no rfl rfl rfl rfl) rfl rfl ?_
          refine AL.idle (i := 18) rfl (by kernel_rfl) (by kernel_rfl) (by kernel_rfl) (Idle.no rfl rfl rfl rfl) rfl rfl ?_
          refine AL.idle (i := 19) rfl (by kernel_rfl) (by kernel_rfl) (by kernel_rfl) (Idle.no rfl rfl rfl rfl) rfl rfl ?_
          refine AL.idle (i := 20) rfl (by kernel_rfl) (by kernel_rfl) (by kernel_rfl) (Idle.no rfl rfl rfl rfl) rfl rfl ?_
          refine AL.take (i := 21) rfl (by kernel_rfl) (by kernel_rfl) (by kernel_rfl) (Runs.free rfl) rfl rfl (ov_pick_false rfl (guard_eq rfl rfl) rfl) ?_
          refine AL.take (i := 22) rfl (by kernel_rfl) (by kernel_rfl) (by kernel_rfl) (Runs.free rfl) rfl rfl (ov_move rfl rfl) ?_
          refine AL.idle (i := 23) rfl (by kernel_rfl) (by kernel_rfl) (by kernel_rfl) (Idle.no rfl rfl rfl rfl) rfl rfl ?_
          refine AL.idle (i := 24) rfl (by kernel_rfl) (by kernel_rfl) (by kernel_rfl) (Idle.no rfl rfl rfl rfl) rfl rfl ?_
          refine AL.idle (i := 25) rfl (by kernel_rfl) (by kernel_rfl) (by kernel_rfl) (Idle.no rfl rfl rfl rfl) rfl rfl ?_
          refine AL.take (i := 26) rfl (by kernel_rfl) (by kernel_rfl) (by kernel_rfl) (Runs.free rfl) rfl rfl (ov_pick_false rfl (guard_eq rfl rfl) rfl) ?_
          refine AL.take (i := 27) rfl (by kernel_rfl) (by kernel_rfl) (by kernel_rfl) (Runs.free rfl) rfl rfl (ov_assign rfl rfl) ?_
          refine AL.done (by kernel_rfl) ?_
          refine then_normal ?_
          refine WP.ret ?_
          obtain rfl := Option.some.inj hm
          refine retQ_ret Tryd.results3 (Res.tmp rfl Res.nil) rfl (fun w' s => ⟨s.below, ?_⟩)
          exact rfl
      exact ALs.nil

theorem ref58_Due_con (p_m : Machine) (ao1 : Option Addr) (cap1 : Nat) (w : World) (H : Heap) (hH : Le H (hp w)) (h1 : SL H encItem ao1 p_m.items) (hc1 : p_m.items.length ≤ cap1) (hG : Glob H) (r : ((List (List UInt8)) × Int)) (hm : ref58_Due p_m = some r) :
    Con Tryd.prog 19 [(.agg #[(.slice ao1 p_m.items.length cap1), (.int .i64 p_m.cycles)])] w H (fun v H' => ∃ (ao2 : Option Addr) (cap2 : Nat), v = (.tuple #[(.slice ao2 r.1.length cap2), (.int .i64 r.2)]) ∧ SL H' encStr ao2 r.1 ∧ r.1.length ≤ cap2) := by
  unfold ref58_Due at hm
  refine con_of hH Tryd.func19 rfl 40 Tryd.ntmps19 rfl ?_
  refine WP.seq ?_
  refine WP.region ?_
  refine WL.step (Runs.free rfl) rfl rfl (os_box (cs := [(.slice ao1 p_m.items.length cap1), (.int .i64 p_m.cycles)]) rfl rfl rfl (fun b1 => ?_))
  refine WL.quiet (Runs.free rfl) rfl rfl (OV.quiet (ov_assign rfl rfl)) ?_
  refine WL.quiet (Runs.free rfl) rfl rfl (OV.quiet (ov_assign rfl rfl)) ?_
  refine WL.nil ?_
  refine then_normal ?_
  refine WP.seq ?_
  refine WP.seq ?_
  refine WP.region ?_
  refine WL.quiet (Runs.free rfl) rfl rfl (OV.quiet (ov_load_whole (i := 0) Tryd.isAgg34 Tryd.sizeOf34 rfl rfl rfl rfl)) ?_
  obtain ⟨r1, e1, hm⟩ := bind_some hm
  refine WL.quiet (Runs.free rfl) rfl rfl (oq_con (r := (.int .i64 r1)) Tryd.call14 rfl rfl (fun w' s => ⟨_, (ref58_Check_con p_m ao1 cap1  w' H s.hold h1 hc1 hG r1 e1)⟩)) ?_
  refine WL.quiet (Runs.free rfl) rfl rfl (OV.quiet (ov_assign rfl rfl)) ?_
  refine WL.nil ?_
  refine then_normal ?_
  refine WP.seq ?_
  refine WP.region ?_
  refine WL.quiet (Runs.free rfl) rfl rfl (OV.quiet (ov_move rfl rfl)) ?_
  refine WL.quiet (Runs.free rfl) rfl rfl (OV.quiet (ov_neq rfl rfl rfl)) ?_
  refine WL.nil ?_
  refine then_normal ?_
  refine WP.cond rfl (fun hc3 => ?_) (fun hc3 => ?_)
  · replace hm := ite_t hc3 hm
    refine WP.seq ?_
    refine WP.region ?_
    refine WL.quiet (Runs.free rfl) rfl rfl (OV.quiet (ov_move rfl rfl)) ?_
    refine WL.quiet (Runs.free rfl) rfl rfl (OV.quiet (ov_assign rfl rfl)) ?_
    refine WL.quiet (Runs.free rfl) rfl rfl (OV.quiet (ov_assign rfl rfl)) ?_
    refine WL.nil ?_
    refine then_normal ?_
    refine WP.ret ?_
    refine then_ret ?_
    obtain rfl := Option.some.inj hm
    refine retQ_ret Tryd.results19 (Res.tmp rfl (Res.tmp rfl Res.nil)) rfl (fun w' s => ⟨s.below, ?_⟩)
    exact ⟨none, 0, rfl, SL.nil _ _ _, Nat.le_refl _⟩
  · replace hm := ite_f hc3 hm
    refine WP.skip ?_
    refine then_normal ?_
    refine WP.seq ?_
    refine WP.region ?_
    refine WL.quiet (Runs.free rfl) rfl rfl (OV.quiet (ov_assign rfl rfl)) ?_
    refine WL.nil ?_
    refine then_normal ?_
    obtain ⟨k1, hk1, hm⟩ := joinK_some hm
    refine WP.seq_join (fun g' S' => ∃ (l4 : (List (List UInt8))) (ao6 : Option Addr) (cap6 : Nat) (xs3 : List Value), RL H encStr l4 xs3 ∧ Sub [(5, (.slice ao6 l4.length cap6))] g' ∧ (∀ w', S' w' → St w H [.row 9 (encStr).size l4.length (.slice ao6 l4.length cap6) xs3] H w') ∧ k1 l4 = some r) ?_ ?_
    · skip
      refine WP.seq ?_
      refine WP.region ?_
      refine WL.quiet (Runs.free rfl) rfl rfl (OV.quiet (ov_assign rfl rfl)) ?_
      refine WL.nil ?_
      refine then_normal ?_
      refine WP.block ?_
      have rl1 := RL.nil (α := (List UInt8)) H encStr
      refine WP.weaken (fun _ s => s.nilrow 9 (encStr).size) ?_
      refine WP.loop (fun m1 g' S' => ∃ (i1 : Int) (l1 : (List (List UInt8))) (ao3 : Option Addr) (cap3 : Nat) (xs1 : List Value), RL H encStr l1 xs1 ∧ Sub [(1, (pB b1 0)), (5, (.slice ao3 l1.length cap3)), (6, (.int .i64 i1))] g' ∧ (∀ w', S' w' → St w H [.row 9 (encStr).size l1.length (.slice ao3 l1.length cap3) xs1, .blk b1 34 [(.slice ao1 p_m.items.length cap1), (.int .i64 p_m.cycles)]] H w') ∧ ref58_Due_loop1 p_m k1 m1 i1 l1 = some r) ((Int.toNat ((p_m.items.length : Int) - 0) + 1)) ⟨0, ([] : List (List UInt8)), none, 0, [], rl1, (Sub.cons rfl (Sub.cons rfl (Sub.cons rfl (Sub.nil _)))), fun w' s => s, hm⟩ ?_ ?_
      · rintro g' S' ⟨_, _, _, _, _, _, _, _, hm⟩
        exact none_some hm
      · rintro m1 g' S' ⟨i1, l1, ao3, cap3, xs1, rl2, hsub1, hS1, hm⟩
        refine WP.sub hsub1 (WP.weaken hS1 ?_)
        rw [ref58_Due_loop1] at hm
        refine WP.seq ?_
        refine WP.seq ?_
        refine WP.region ?_
        refine WL.quiet (Runs.free rfl) rfl rfl (OV.quiet (ov_move rfl rfl)) ?_
        refine WL.quiet (Runs.free rfl) rfl rfl (OV.quiet (ov_fieldAddr Tryd.underlying34 rfl rfl rfl Tryd.sizeOf32 rfl rfl)) ?_
        refine WL.quiet (Runs.free rfl) rfl rfl (OV.quiet (ov_load_box (i := 1) Tryd.isAgg32 rfl rfl rfl rfl)) ?_
        refine WL.quiet (Runs.free rfl) rfl rfl (OV.quiet (ov_len_slice Tryd.underlying32 rfl rfl)) ?_
        refine WL.quiet (Runs.free rfl) rfl rfl (OV.quiet (ov_lss rfl rfl rfl)) ?_
        refine WL.nil ?_
        refine then_normal ?_
        refine WP.cond rfl (fun hc4 => ?_) (fun hc4 => ?_)
        · replace hm := ite_t hc4 hm
          refine WP.skip ?_
          refine then_normal ?_
          obtain ⟨k2, hk2, hm⟩ := joinK_some hm
          refine WP.seq_join (fun g' S' => ∃ (l3 : (List (List UInt8))) (ao5 : Option Addr) (cap5 : Nat) (xs2 : List Value), RL H encStr l3 xs2 ∧ Sub [(1, (pB b1 0)), (5, (.slice ao5 l3.length cap5)), (6, (.int .i64 i1))] g' ∧ (∀ w', S' w' → St w H [.row 9 (encStr).size l3.length (.slice ao5 l3.length cap5) xs2, .blk b1 34 [(.slice ao1 p_m.items.length cap1), (.int .i64 p_m.cycles)]] H w') ∧ k2 l3 = some r) ?_ ?_
          · skip
            refine WP.block ?_
            refine WP.seq ?_
            refine WP.region ?_
            refine WL.quiet (Runs.free rfl) rfl rfl (OV.quiet (ov_fieldAddr Tryd.underlying34 rfl rfl rfl Tryd.sizeOf32 rfl rfl)) ?_
            refine WL.quiet (Runs.free rfl) rfl rfl (OV.quiet (ov_load_box (i := 1) Tryd.isAgg32 rfl rfl rfl rfl)) ?_
            refine WL.quiet (Runs.free rfl) rfl rfl (OV.quiet (ov_move rfl rfl)) ?_
            obtain ⟨x1, e2, hm⟩ := bind_some hm
            obtain ⟨h3, h4, h5, cs1, h6, h7⟩ := h1.get e2 (by decide)
            obtain rfl : cs1 = [(mkS x1.name), (.int .i64 x1.life), (.int .i64 x1.used), (.int .i64 x1.faults), (.bool x1.faulty), (.int .i64 x1.since), (.int .i64 x1.cycles)] := h6
            refine WL.quiet (Runs.free rfl) rfl rfl (OV.quiet (ov_indexAddr Tryd.underlying32 Tryd.sizeOf80 rfl rfl rfl h3 h4 h5)) ?_
            refine WL.quiet (Runs.free rfl) rfl rfl (OV.quiet (ov_load_elems (vs := [(mkS x1.name), (.int .i64 x1.life), (.int .i64 x1.used), (.int .i64 x1.faults), (.bool x1.faulty), (.int .i64 x1.since), (.int .i64 x1.cycles)]) Tryd.isAgg80 Tryd.sizeOf80 rfl rfl rfl h7 h5)) ?_
            refine WL.step (Runs.free rfl) rfl rfl (os_alloc (cs := [(mkS []), (.int .i64 0), (.int .i64 0), (.int .i64 0), (.bool false), (.int .i64 0), (.int .i64 0)]) Tryd.zeroValue80 rfl rfl (fun b2 => ?_))
            refine WL.step0 (Runs.free rfl) rfl (os_store (i := 0) (vs := [(mkS x1.name), (.int .i64 x1.life), (.int .i64 x1.used), (.int .i64 x1.faults), (.bool x1.faulty), (.int .i64 x1.since), (.int .i64 x1.cycles)]) (cs' := [(mkS x1.name), (.int .i64 x1.life), (.int .i64 x1.used), (.int .i64 x1.faults), (.bool x1.faulty), (.int .i64 x1.since), (.int .i64 x1.cycles)]) Tryd.sizeOf80 rfl rfl rfl rfl rfl rfl rfl rfl rfl ?_)
            refine WL.nil ?_
            refine then_normal ?_
            refine WP.seq ?_
            refine WP.region ?_
            refine WL.quiet (Runs.free rfl) rfl rfl (OV.quiet (ov_fieldAddr Tryd.underlying80 rfl rfl rfl Tryd.sizeOf4 rfl rfl)) ?_
            refine WL.quiet (Runs.free rfl) rfl rfl (OV.quiet (ov_load_box (i := 0) Tryd.isAgg4 rfl rfl rfl rfl)) ?_
            refine WL.quiet (Runs.free rfl) rfl rfl (OV.quiet (ov_move rfl rfl)) ?_
            refine WL.cut_bool 6 33 (x := (x1.faulty || (decide (x1.used ≥ x1.life)))) ?_ ?_
            · rcases Bool.eq_false_or_eq_true x1.faulty with hc5 | hc5
              · skip
                refine WL.idle (Idle.no rfl rfl rfl hc5) rfl rfl ?_
                refine WL.idle (Idle.no rfl rfl rfl hc5) rfl rfl ?_
                refine WL.idle (Idle.no rfl rfl rfl hc5) rfl rfl ?_
                refine WL.idle (Idle.no rfl rfl rfl hc5) rfl rfl ?_
                refine WL.idle (Idle.no rfl rfl rfl hc5) rfl rfl ?_
                refine WL.quiet (Runs.free rfl) rfl rfl (OV.quiet (ov_pick_true rfl (guard_eq rfl hc5) rfl)) ?_
                exact WL.nil ⟨Sub.cons' rfl (congrArg Value.bool (by rw [hc5]; rfl)) (Sub.skip rfl (Sub.skip rfl (Sub.skip rfl (Sub.skip rfl (Sub.skip rfl (Sub.skip rfl (Sub.refl _))))))), fun _ s => s⟩
              · skip
                refine WL.quiet (Runs.yes rfl rfl rfl hc5) rfl rfl (OV.quiet (ov_fieldAddr Tryd.underlying80 rfl rfl rfl Tryd.sizeOf3 rfl rfl)) ?_
                refine WL.quiet (Runs.yes rfl rfl rfl hc5) rfl rfl (OV.quiet (ov_load_box (i := 0) Tryd.isAgg3 rfl rfl rfl rfl)) ?_
                refine WL.quiet (Runs.yes rfl rfl rfl hc5) rfl rfl (OV.quiet (ov_fieldAddr Tryd.underlying80 rfl rfl rfl Tryd.sizeOf3 rfl rfl)) ?_
                refine WL.quiet (Runs.yes rfl rfl rfl hc5) rfl rfl (OV.quiet (ov_load_box (i := 0) Tryd.isAgg3 rfl rfl rfl rfl)) ?_
                refine WL.quiet (Runs.yes rfl rfl rfl hc5) rfl rfl (OV.quiet (ov_geq rfl rfl rfl)) ?_
                refine WL.quiet (Runs.free rfl) rfl rfl (OV.quiet (ov_pick_false rfl (guard_eq rfl hc5) rfl)) ?_
                exact WL.nil ⟨Sub.cons' rfl (congrArg Value.bool (by rw [hc5]; rfl)) (Sub.skip rfl (Sub.skip rfl (Sub.skip rfl (Sub.skip rfl (Sub.skip rfl (Sub.skip rfl (Sub.refl _))))))), fun _ s => s⟩
            refine WL.nil ?_
            refine then_normal ?_
            refine WP.cond rfl (fun hc6 => ?_) (fun hc6 => ?_)
            · replace hm := ite_t hc6 hm
              refine WP.region ?_
              refine WL.quiet (Runs.free rfl) rfl rfl (OV.quiet (ov_move rfl rfl)) ?_
              refine WL.quiet (Runs.free rfl) rfl rfl (OV.quiet (ov_fieldAddr Tryd.underlying80 rfl rfl rfl Tryd.sizeOf9 rfl rfl)) ?_
              refine WL.quiet (Runs.free rfl) rfl rfl (OV.quiet (ov_load_box (i := 0) Tryd.isAgg9 rfl rfl rfl rfl)) ?_
              have rl3 : RL H encStr ([x1.name] : List (List UInt8)) [(mkS x1.name)] := RL.cons (cs := [(mkS x1.name)]) (xs := []) rfl (RL.nil _ _)
              refine WL.step (Runs.free rfl) rfl rfl (os_buildSlice (cs := [(mkS x1.name)]) (E := 9) (sz := 1) rfl rfl (fun _ => by kernel_rfl) rfl (by decide) (fun b3 => ?_))
              obtain ⟨l2, e3, hm⟩ := bind_some hm
              refine WL.step (Runs.free rfl) rfl rfl (os_app (i := 2) (j := 0) (En := encStr) (xs := xs1) (ys := [(mkS x1.name)]) Tryd.underlying45 (by kernel_rfl : (Tryd.prog.info? 9).map (fun i => (i.zero, i.size, i.bytes)) = some (some (mkS []), (encStr).size, 16)) rfl (by decide) rfl rfl rfl rfl rfl rfl rl2 rl3 e3 (fun ao4 cap4 rl4 => ?_))
              refine WL.quiet (Runs.free rfl) rfl rfl (OV.quiet (ov_assign rfl rfl)) ?_
              refine WL.nil ?_
              refine block_normal ?_
              refine then_normal ?_
              exact ⟨(l1 ++ ([x1.name] : List (List UInt8))), ao4, cap4, (xs1 ++ [(mkS x1.name)]), rl4, (Sub.cons rfl (Sub.cons rfl (Sub.cons rfl (Sub.nil _)))), fun w' s => (s.select [2, 3] (by decide) rfl), hm⟩
            · replace hm := ite_f hc6 hm
              refine WP.skip ?_
              refine block_normal ?_
              refine then_normal ?_
              exact ⟨l1, ao3, cap3, xs1, rl2, (Sub.cons rfl (Sub.cons rfl (Sub.cons rfl (Sub.nil _)))), fun w' s => (s.select [1, 2] (by decide) rfl), hm⟩
          · rintro g' S' ⟨l3, ao5, cap5, xs2, rl5, hsub2, hS2, hm⟩
            refine WP.sub hsub2 (WP.weaken hS2 ?_)
            replace hm := (congrFun hk2 l3).symm.trans hm
            refine WP.region ?_
            refine WL.quiet (Runs.free rfl) rfl rfl (OV.quiet (ov_move rfl rfl)) ?_
            refine WL.quiet (Runs.free rfl) rfl rfl (OV.quiet (ov_add rfl rfl rfl)) ?_
            refine WL.quiet (Runs.free rfl) rfl rfl (OV.quiet (ov_assign rfl rfl)) ?_
            refine WL.nil ?_
            refine then_normal ?_
            exact ⟨(IntKind.wrap .i64 (i1 + 1)), l3, ao5, cap5, xs2, rl5, (Sub.cons rfl (Sub.cons rfl (Sub.cons rfl (Sub.nil _)))), fun w' s => s, hm⟩
        · replace hm := ite_f hc4 hm
          refine WP.exit ?_
          refine then_exit ?_
          refine then_exit ?_
          refine block_here ?_
          refine then_normal ?_
          exact ⟨l1, ao3, cap3, xs1, rl2, (Sub.cons rfl (Sub.nil _)), fun w' s => (s.select [0] (by decide) rfl), hm⟩
    · rintro g' S' ⟨l4, ao6, cap6, xs3, rl6, hsub3, hS3, hm⟩
      refine WP.sub hsub3 (WP.weaken hS3 ?_)
      replace hm := (congrFun hk1 l4).symm.trans hm
      refine WP.seq ?_
      refine WP.region ?_
      refine WL.quiet (Runs.free rfl) rfl rfl (OV.quiet (ov_move rfl rfl)) ?_
      refine WL.quiet (Runs.free rfl) rfl rfl (OV.quiet (ov_assign rfl rfl)) ?_
      refine WL.quiet (Runs.free rfl) rfl rfl (OV.quiet (ov_assign rfl rfl)) ?_
      refine WL.nil ?_
      refine then_normal ?_
      refine WP.ret ?_
      obtain rfl := Option.some.inj hm
      refine retQ_ret Tryd.results19 (Res.tmp rfl (Res.tmp rfl Res.nil)) rfl (fun w' s => ⟨s.below, ?_⟩)
      obtain ⟨h8, hc7⟩ := s.ret_row (i := 0) rfl rl6
      exact ⟨ao6, cap6, rfl, h8, hc7⟩

theorem ref58_Left_con (p_m : Machine) (p_name : (List UInt8)) (p_strokes : Int) (ao1 : Option Addr) (cap1 : Nat) (w : World) (H : Heap) (hH : Le H (hp w)) (h1 : SL H encItem ao1 p_m.items) (hc1 : p_m.items.length ≤ cap1) (hG : Glob H) (r : (Int × Int)) (hm : ref58_Left p_m p_name p_strokes = some r) :
    Con Tryd.prog 21 [(.agg #[(.slice ao1 p_m.items.length cap1), (.int .i64 p_m.cycles)]), (mkS p_name), (.int .i64 p_strokes)] w H (fun v _ => v = (.tuple #[(.int .i64 r.1), (.int .i64 r.2)])) := by
  unfold ref58_Left at hm
  refine con_of hH Tryd.func21 rfl 44 Tryd.ntmps21 rfl ?_
  refine WP.seq ?_
  refine WP.region ?_
  refine WL.step (Runs.free rfl) rfl rfl (os_box (cs := [(.slice ao1 p_m.items.length cap1), (.int .i64 p_m.cycles)]) rfl rfl rfl (fun b1 => ?_))
  refine WL.quiet (Runs.free rfl) rfl rfl (OV.quiet (ov_assign rfl rfl)) ?_
  refine WL.quiet (Runs.free rfl) rfl rfl (OV.quiet (ov_assign rfl rfl)) ?_
  refine WL.nil ?_
  refine then_normal ?_
  refine WP.seq ?_
  refine WP.seq ?_
  refine WP.region ?_
  refine WL.quiet (Runs.free rfl) rfl rfl (OV.quiet (ov_load_whole (i := 0) Tryd.isAgg34 Tryd.sizeOf34 rfl rfl rfl rfl)) ?_
  obtain ⟨r1, e1, hm⟩ := bind_some hm
  refine WL.quiet (Runs.free rfl) rfl rfl (oq_con (r := (.int .i64 r1)) Tryd.call14 rfl rfl (fun w' s => ⟨_, (ref58_Check_con p_m ao1 cap1  w' H s.hold h1 hc1 hG r1 e1)⟩)) ?_
  refine WL.quiet (Runs.free rfl) rfl rfl (OV.quiet (ov_assign rfl rfl)) ?_
  refine WL.nil ?_
  refine then_normal ?_
  refine WP.seq ?_
  refine WP.region ?_
  refine WL.quiet (Runs.free rfl) rfl rfl (OV.quiet (ov_move rfl rfl)) ?_
  refine WL.quiet (Runs.free rfl) rfl rfl (OV.quiet (ov_neq rfl rfl rfl)) ?_
  refine WL.nil ?_
  refine then_normal ?_
  refine WP.cond rfl (fun hc2 => ?_) (fun hc2 => ?_)
  · replace hm := ite_t hc2 hm
    refine WP.seq ?_
    refine WP.region ?_
    refine WL.quiet (Runs.free rfl) rfl rfl (OV.quiet (ov_move rfl rfl)) ?_
    refine WL.quiet (Runs.free rfl) rfl rfl (OV.quiet (ov_assign rfl rfl)) ?_
    refine WL.quiet (Runs.free rfl) rfl rfl (OV.quiet (ov_assign rfl rfl)) ?_
    refine WL.nil ?_
    refine then_normal ?_
    refine WP.ret ?_
    refine then_ret ?_
    obtain rfl := Option.some.inj hm
    refine retQ_ret Tryd.results21 (Res.tmp rfl (Res.tmp rfl Res.nil)) rfl (fun w' s => ⟨s.below, ?_⟩)
    exact rfl
  · replace hm := ite_f hc2 hm
    refine WP.skip ?_
    refine then_normal ?_
    refine WP.seq ?_
    refine WP.region ?_
    refine WL.quiet (Runs.free rfl) rfl rfl (OV.quiet (ov_load_whole (i := 0) Tryd.isAgg34 Tryd.sizeOf34 rfl rfl rfl rfl)) ?_
    refine WL.quiet (Runs.free rfl) rfl rfl (OV.quiet (ov_move rfl rfl)) ?_
    obtain ⟨r2, e2, hm⟩ := bind_some hm
    refine WL.quiet (Runs.free rfl) rfl rfl (oq_con (r := (.int .i64 r2)) Tryd.call46 rfl rfl (fun w' s => ⟨_, (ref58_Place_con p_m p_name ao1 cap1  w' H s.hold h1 hc1 hG r2 e2)⟩)) ?_
    refine WL.quiet (Runs.free rfl) rfl rfl (OV.quiet (ov_assign rfl rfl)) ?_
    refine WL.nil ?_
    refine then_normal ?_
    refine WP.seq ?_
    refine WP.seq ?_
    refine WP.region ?_
    refine WL.quiet (Runs.free rfl) rfl rfl (OV.quiet (ov_move rfl rfl)) ?_
    refine WL.quiet (Runs.free rfl) rfl rfl (OV.quiet (ov_lss rfl rfl rfl)) ?_
    refine WL.nil ?_
    refine then_normal ?_
    refine WP.cond rfl (fun hc3 => ?_) (fun hc3 => ?_)
    · replace hm := ite_t hc3 hm
      refine WP.seq ?_
      refine WP.region ?_
      refine WL.quiet (Runs.free rfl) rfl rfl (OV.quiet (ov_assign rfl rfl)) ?_
      refine WL.quiet (Runs.free rfl) rfl rfl (OV.quiet (ov_assign rfl rfl)) ?_
      refine WL.nil ?_
      refine then_normal ?_
      refine WP.ret ?_
      refine then_ret ?_
      obtain rfl := Option.some.inj hm
      refine retQ_ret Tryd.results21 (Res.tmp rfl (Res.tmp rfl Res.nil)) rfl (fun w' s => ⟨s.below, ?_⟩)
      exact rfl
    · replace hm := ite_f hc3 hm
      refine WP.skip ?_
      refine then_normal ?_
      refine WP.seq ?_
      refine WP.seq ?_
      refine WP.region ?_
      refine WL.quiet (Runs.free rfl) rfl rfl (OV.quiet (ov_move rfl rfl)) ?_
      obtain ⟨r3, e3, hm⟩ := bind_some hm
      refine WL.quiet (Runs.free rfl) rfl rfl (oq_con (r := (.bool r3)) Tryd.call40 rfl rfl (fun w' s => ⟨_, (ref58_in_con p_strokes 1 1048576  w' H s.hold hG r3 e3)⟩)) ?_
      refine WL.quiet (Runs.free rfl) rfl rfl (OV.quiet (ov_not rfl rfl)) ?_
      refine WL.nil ?_
      refine then_normal ?_
      refine WP.cond rfl (fun hc4 => ?_) (fun hc4 => ?_)
      · replace hm := ite_t hc4 hm
        refine WP.seq ?_
        refine WP.region ?_
        refine WL.quiet (Runs.free rfl) rfl rfl (OV.quiet (ov_assign rfl rfl)) ?_
        refine WL.quiet (Runs.free rfl) rfl rfl (OV.quiet (ov_assign rfl rfl)) ?_
        refine WL.nil ?_
        refine then_normal ?_
        refine WP.ret ?_
        refine then_ret ?_
        obtain rfl := Option.some.inj hm
        refine retQ_ret Tryd.results21 (Res.tmp rfl (Res.tmp rfl Res.nil)) rfl (fun w' s => ⟨s.below, ?_⟩)
        exact rfl
      · replace hm := ite_f hc4 hm
        refine WP.skip ?_
        refine then_normal ?_
        refine WP.seq ?_
        refine WP.region ?_
        refine WL.quiet (Runs.free rfl) rfl rfl (OV.quiet (ov_fieldAddr Tryd.underlying34 rfl rfl rfl Tryd.sizeOf32 rfl rfl)) ?_
        refine WL.quiet (Runs.free rfl) rfl rfl (OV.quiet (ov_load_box (i := 0) Tryd.isAgg32 rfl rfl rfl rfl)) ?_
        refine WL.quiet (Runs.free rfl) rfl rfl (OV.quiet (ov_move rfl rfl)) ?_
        obtain ⟨x1, e4, hm⟩ := bind_some hm
        obtain ⟨h2, h3, h4, cs1, h5, h6⟩ := h1.get e4 (by decide)
        obtain rfl : cs1 = [(mkS x1.name), (.int .i64 x1.life), (.int .i64 x1.used), (.int .i64 x1.faults), (.bool x1.faulty), (.int .i64 x1.since), (.int .i64 x1.cycles)] := h5
        refine WL.quiet (Runs.free rfl) rfl rfl (OV.quiet (ov_indexAddr Tryd.underlying32 Tryd.sizeOf80 rfl rfl rfl h2 h3 h4)) ?_
        refine WL.quiet (Runs.free rfl) rfl rfl (OV.quiet (ov_load_elems (vs := [(mkS x1.name), (.int .i64 x1.life), (.int .i64 x1.used), (.int .i64 x1.faults), (.bool x1.faulty), (.int .i64 x1.since), (.int .i64 x1.cycles)]) Tryd.isAgg80 Tryd.sizeOf80 rfl rfl rfl h6 h4)) ?_
        refine WL.step (Runs.free rfl) rfl rfl (os_alloc (cs := [(mkS []), (.int .i64 0), (.int .i64 0), (.int .i64 0), (.bool false), (.int .i64 0), (.int .i64 0)]) Tryd.zeroValue80 rfl rfl (fun b2 => ?_))
        refine WL.step0 (Runs.free rfl) rfl (os_store (i := 0) (vs := [(mkS x1.name), (.int .i64 x1.life), (.int .i64 x1.used), (.int .i64 x1.faults), (.bool x1.faulty), (.int .i64 x1.since), (.int .i64 x1.cycles)]) (cs' := [(mkS x1.name), (.int .i64 x1.life), (.int .i64 x1.used), (.int .i64 x1.faults), (.bool x1.faulty), (.int .i64 x1.since), (.int .i64 x1.cycles)]) Tryd.sizeOf80 rfl rfl rfl rfl rfl rfl rfl rfl rfl ?_)
        refine WL.nil ?_
        refine then_normal ?_
        refine WP.seq ?_
        refine WP.seq ?_
        refine WP.region ?_
        refine WL.quiet (Runs.free rfl) rfl rfl (OV.quiet (ov_fieldAddr Tryd.underlying80 rfl rfl rfl Tryd.sizeOf3 rfl rfl)) ?_
        refine WL.quiet (Runs.free rfl) rfl rfl (OV.quiet (ov_load_box (i := 0) Tryd.isAgg3 rfl rfl rfl rfl)) ?_
        refine WL.quiet (Runs.free rfl) rfl rfl (OV.quiet (ov_fieldAddr Tryd.underlying80 rfl rfl rfl Tryd.sizeOf3 rfl rfl)) ?_
        refine WL.quiet (Runs.free rfl) rfl rfl (OV.quiet (ov_load_box (i := 0) Tryd.isAgg3 rfl rfl rfl rfl)) ?_
        refine WL.quiet (Runs.free rfl) rfl rfl (OV.quiet (ov_geq rfl rfl rfl)) ?_
        refine WL.nil ?_
        refine then_normal ?_
        refine WP.cond rfl (fun hc5 => ?_) (fun hc5 => ?_)
        · replace hm := ite_t hc5 hm
          refine WP.seq ?_
          refine WP.region ?_
          refine WL.quiet (Runs.free rfl) rfl rfl (OV.quiet (ov_assign rfl rfl)) ?_
          refine WL.quiet (Runs.free rfl) rfl rfl (OV.quiet (ov_assign rfl rfl)) ?_
          refine WL.nil ?_
          refine then_normal ?_
          refine WP.ret ?_
          refine then_ret ?_
          obtain rfl := Option.some.inj hm
          refine retQ_ret Tryd.results21 (Res.tmp rfl (Res.tmp rfl Res.nil)) rfl (fun w' s => ⟨s.below, ?_⟩)
          exact rfl
        · replace hm := ite_f hc5 hm
          refine WP.skip ?_
          refine then_normal ?_
          refine WP.seq ?_
          refine WP.region ?_
          refine WL.quiet (Runs.free rfl) rfl rfl (OV.quiet (ov_fieldAddr Tryd.underlying80 rfl rfl rfl Tryd.sizeOf3 rfl rfl)) ?_
          refine WL.quiet (Runs.free rfl) rfl rfl (OV.quiet (ov_load_box (i := 0) Tryd.isAgg3 rfl rfl rfl rfl)) ?_
          refine WL.quiet (Runs.free rfl) rfl rfl (OV.quiet (ov_fieldAddr Tryd.underlying80 rfl rfl rfl Tryd.sizeOf3 rfl rfl)) ?_
          refine WL.quiet (Runs.free rfl) rfl rfl (OV.quiet (ov_load_box (i := 0) Tryd.isAgg3 rfl rfl rfl rfl)) ?_
          refine WL.quiet (Runs.free rfl) rfl rfl (OV.quiet (ov_sub rfl rfl rfl)) ?_
          refine WL.quiet (Runs.free rfl) rfl rfl (OV.quiet (ov_move rfl rfl)) ?_
          refine WL.quiet (Runs.free rfl) rfl rfl (OV.quiet (ov_add rfl rfl rfl)) ?_
          refine WL.quiet (Runs.free rfl) rfl rfl (OV.quiet (ov_sub rfl rfl rfl)) ?_
          refine WL.quiet (Runs.free rfl) rfl rfl (OV.quiet (ov_move rfl rfl)) ?_
          obtain ⟨u1, e5, hm⟩ := bind_some hm
          replace e5 := guardO_some e5
          refine WL.quiet (Runs.free rfl) rfl rfl (OV.quiet (ov_quo rfl rfl rfl (by simpa using e5))) ?_
          refine WL.quiet (Runs.free rfl) rfl rfl (OV.quiet (ov_assign rfl rfl)) ?_
          refine WL.quiet (Runs.free rfl) rfl rfl (OV.quiet (ov_assign rfl rfl)) ?_
          refine WL.nil ?_
          refine then_normal ?_
          refine WP.ret ?_
          obtain rfl := Option.some.inj hm
          refine retQ_ret Tryd.results21 (Res.tmp rfl (Res.tmp rfl Res.nil)) rfl (fun w' s => ⟨s.below, ?_⟩)
          exact rfl

end Go.Proofs.YtpigfknmlmeihaaDoor.W
