/- The walks. Written by our own program gen.py; Lean checks it. -/
import Derived.Test.YtcgmhlakihjbkaaGreatDoorPlain
import Derived.Test.YtcgmhlakihjbkaaGreatDoorEqs
import Derived.Test.YtcgmhlakihjbkaaGreatDoorProg
import Derived.Test.YtcgmhlakihjbkaaGreatDoorExt
import Derived.Test.YtcgmhlakihjbkaaGreatDoorClone
import Derived.Test.YtcgmhlakihjbkaaGreatDoorInsert
import Derived.Test.YtcgmhlakihjbkaaGreatDoorBuild
import Derived.Test.YtcgmhlakihjbkaaGreatDoorWalk0
set_option linter.unusedVariables false
set_option maxRecDepth 100000
set_option maxHeartbeats 4000000
namespace Go.Proofs.YtcgmhlakihjbkaaGreatDoor.W
open Go Go.RowKit
theorem journal_done_con (p_m : Machine) (p_x : Entry) (ao1 : Option Addr) (cap1 : Nat) (w : World) (H : Heap) (hH : Le H (hp w)) (h1 : SL H encItem ao1 p_m.items) (hc1 : p_m.items.length ≤ cap1) (hG : Glob H) (r : (Machine × Int)) (hm : journal_done p_m p_x = some r) :
  Con Tryz.prog 21 [(.agg #[(.slice ao1 p_m.items.length cap1), (.int .i64 p_m.cycles)]), (.agg #[(.int .i64 p_x.kind), (mkS p_x.name), (.int .i64 p_x.count), (.int .i64 p_x.strokes)])] w H (fun v H' => ∃ (ao2 : Option Addr) (cap2 : Nat), v = (.tuple #[(.agg #[(.slice ao2 r.1.items.length cap2), (.int .i64 r.1.cycles)]), (.int .i64 r.2)]) ∧ SL H' encItem ao2 r.1.items ∧ r.1.items.length ≤ cap2) := by
 unfold journal_done at hm
 refine con_of hH Tryz.func21 rfl 53 Tryz.ntmps21 rfl ?_
 refine WP.seq (WP.region ?_)
 refine WL.step (Runs.free rfl) rfl rfl (os_box (cs := [(.slice ao1 p_m.items.length cap1), (.int .i64 p_m.cycles)]) rfl rfl rfl (fun b1 => ?_))
 refine WL.step (Runs.free rfl) rfl rfl (os_box (cs := [(.int .i64 p_x.kind), (mkS p_x.name), (.int .i64 p_x.count), (.int .i64 p_x.strokes)]) rfl rfl rfl (fun b2 => ?_))
 refine WL.step (Runs.free rfl) rfl rfl (os_alloc (cs := [(.slice none 0 0), (.int .i64 0)]) Tryz.zeroValue35 rfl rfl (fun b3 => ?_))
 refine wq rfl rfl rfl (ov_assign rfl rfl) ?_
 refine WL.nil (then_normal (WP.seq (WP.region ?_)))
 refine wq rfl rfl rfl (ov_load_whole (i := 2) Tryz.isAgg35 Tryz.sizeOf35 rfl rfl rfl rfl) ?_
 refine wq rfl rfl rfl (ov_fieldAddr Tryz.underlying39 rfl rfl rfl Tryz.sizeOf9 rfl rfl) ?_
 refine wq rfl rfl rfl (ov_load_box (i := 1) Tryz.isAgg9 rfl rfl rfl rfl) ?_
 obtain ⟨r1, e1, hm⟩ := bind_some hm
 refine WL.quiet (Runs.free rfl) rfl rfl (oq_con (r := (.tuple #[(.int .i64 r1.1), (.bool r1.2)])) Tryz.call23 rfl rfl (fun w' s => ⟨_, (journal_find_con p_m p_x.name ao1 cap1  w' H s.hold h1 hc1 hG r1 e1)⟩)) ?_
 refine wq rfl rfl rfl (ov_move rfl rfl) ?_
 refine wq rfl rfl rfl (ov_extract rfl rfl rfl) ?_
 refine wq rfl rfl rfl (ov_extract rfl rfl rfl) ?_
 refine wq rfl rfl rfl (ov_assign rfl rfl) ?_
 refine wq rfl rfl rfl (ov_assign rfl rfl) ?_
 refine WL.nil (then_normal (WP.seq (WP.block (WP.seq (WP.region ?_)))))
 refine wq rfl rfl rfl (ov_fieldAddr Tryz.underlying39 rfl rfl rfl Tryz.sizeOf3 rfl rfl) ?_
 refine wq rfl rfl rfl (ov_load_box (i := 1) Tryz.isAgg3 rfl rfl rfl rfl) ?_
 refine wq rfl rfl rfl (ov_eql rfl rfl rfl) ?_
 refine wq rfl rfl rfl (ov_move rfl rfl) ?_
 refine WL.cut_bool 2 23 (x := ((p_x.kind == 0) && r1.2)) ?_ ?_
 ·
  rcases Bool.eq_false_or_eq_true (p_x.kind == 0) with hc3 | hc3
  ·
   skip
   refine WL.quiet (Runs.yes rfl rfl rfl hc3) rfl rfl (OV.quiet (ov_move rfl rfl)) ?_
   refine wq rfl rfl rfl (ov_pick_true rfl (guard_eq rfl hc3) rfl) ?_
   exact WL.nil ⟨Sub.cons' rfl (congrArg Value.bool (andT hc3)) (Sub.skip rfl (Sub.skip rfl (Sub.refl _))), fun _ s => s⟩
  ·
   skip
   refine WL.idle (Idle.no rfl rfl rfl hc3) rfl rfl ?_
   refine wq rfl rfl rfl (ov_pick_false rfl (guard_eq rfl hc3) rfl) ?_
   exact WL.nil ⟨Sub.cons' rfl (congrArg Value.bool (andF hc3)) (Sub.skip rfl (Sub.skip rfl (Sub.refl _))), fun _ s => s⟩
 refine wq rfl rfl rfl (ov_assign rfl rfl) ?_
 refine WL.nil (then_normal ?_)
 refine WP.cond rfl (fun hc4 => ?_) (fun hc4 => ?_)
 ·
  replace hm := ite_t hc4 hm
  refine WP.seq (WP.region ?_)
  refine wq rfl rfl rfl (ov_build (r := (.agg #[(.slice none 0 0), (.int .i64 0)])) rfl rfl (fun _ => by kernel_rfl)) ?_
  refine WL.step0 (Runs.free rfl) rfl (os_store (i := 0) (vs := [(.slice none 0 0), (.int .i64 0)]) (cs' := [(.slice none 0 0), (.int .i64 0)]) Tryz.sizeOf35 rfl rfl rfl rfl rfl rfl rfl rfl rfl ?_)
  refine wq rfl rfl rfl (ov_assign rfl rfl) ?_
  refine WL.nil (then_normal (WP.ret (block_ret (then_ret ?_))))
  obtain rfl := Option.some.inj hm
  refine retQ_ret Tryz.results21 (Res.cell rfl (box_loads (i := 0) Tryz.isAgg35 Tryz.sizeOf35 rfl rfl) (Res.tmp rfl Res.nil)) rfl (fun w' s => ⟨s.below, ?_⟩)
  exact ⟨none, 0, rfl, SL.nil _ _ _, Nat.le_refl _⟩
 ·
  replace hm := ite_f hc4 hm
  refine WP.seq (WP.region ?_)
  refine wq rfl rfl rfl (ov_fieldAddr Tryz.underlying39 rfl rfl rfl Tryz.sizeOf3 rfl rfl) ?_
  refine wq rfl rfl rfl (ov_load_box (i := 1) Tryz.isAgg3 rfl rfl rfl rfl) ?_
  refine wq rfl rfl rfl (ov_neq rfl rfl rfl) ?_
  refine wq rfl rfl rfl (ov_move rfl rfl) ?_
  refine WL.cut_bool 3 32 (x := ((p_x.kind != 0) && (!r1.2))) ?_ ?_
  ·
   rcases Bool.eq_false_or_eq_true (p_x.kind != 0) with hc5 | hc5
   ·
    skip
    refine WL.quiet (Runs.yes rfl rfl rfl hc5) rfl rfl (OV.quiet (ov_move rfl rfl)) ?_
    refine WL.quiet (Runs.yes rfl rfl rfl hc5) rfl rfl (OV.quiet (ov_not rfl rfl)) ?_
    refine wq rfl rfl rfl (ov_pick_true rfl (guard_eq rfl hc5) rfl) ?_
    exact WL.nil ⟨Sub.cons' rfl (congrArg Value.bool (andT hc5)) (Sub.skip rfl (Sub.skip rfl (Sub.skip rfl (Sub.refl _)))), fun _ s => s⟩
   ·
    skip
    refine WL.idle (Idle.no rfl rfl rfl hc5) rfl rfl ?_
    refine WL.idle (Idle.no rfl rfl rfl hc5) rfl rfl ?_
    refine wq rfl rfl rfl (ov_pick_false rfl (guard_eq rfl hc5) rfl) ?_
    exact WL.nil ⟨Sub.cons' rfl (congrArg Value.bool (andF hc5)) (Sub.skip rfl (Sub.skip rfl (Sub.skip rfl (Sub.refl _)))), fun _ s => s⟩
  refine wq rfl rfl rfl (ov_assign rfl rfl) ?_
  refine WL.nil (then_normal ?_)
  refine WP.cond rfl (fun hc6 => ?_) (fun hc6 => ?_)
  ·
   replace hm := ite_t hc6 hm
   refine WP.seq (WP.region ?_)
   refine wq rfl rfl rfl (ov_build (r := (.agg #[(.slice none 0 0), (.int .i64 0)])) rfl rfl (fun _ => by kernel_rfl)) ?_
   refine WL.step0 (Runs.free rfl) rfl (os_store (i := 0) (vs := [(.slice none 0 0), (.int .i64 0)]) (cs' := [(.slice none 0 0), (.int .i64 0)]) Tryz.sizeOf35 rfl rfl rfl rfl rfl rfl rfl rfl rfl ?_)
   refine wq rfl rfl rfl (ov_assign rfl rfl) ?_
   refine WL.nil (then_normal (WP.ret (block_ret (then_ret ?_))))
   obtain rfl := Option.some.inj hm
   refine retQ_ret Tryz.results21 (Res.cell rfl (box_loads (i := 0) Tryz.isAgg35 Tryz.sizeOf35 rfl rfl) (Res.tmp rfl Res.nil)) rfl (fun w' s => ⟨s.below, ?_⟩)
   exact ⟨none, 0, rfl, SL.nil _ _ _, Nat.le_refl _⟩
  ·
   replace hm := ite_f hc6 hm
   refine WP.skip (block_normal (then_normal ?_))
   obtain ⟨k1, hk1, hm⟩ := joinK_some hm
   refine WP.seq_join (fun g' S' => ∃ (b5 : Nat) (l2 : (List Item)) (ao4 : Option Addr) (cap4 : Nat) (xs2 : List Value), RL H encItem l2 xs2 ∧ Sub [(3, (pB b2 0)), (4, (pB b3 0)), (6, (.int .i64 r1.1)), (8, (pB b5 0)), (1000000007, (.bool false))] g' ∧ (∀ w', S' w' → St w H [.blk b5 35 [(.slice ao4 l2.length cap4), (.int .i64 p_m.cycles)], .row 68 (encItem).size l2.length (.slice ao4 l2.length cap4) xs2, .blk b3 35 [(.slice none 0 0), (.int .i64 0)], .blk b2 39 [(.int .i64 p_x.kind), (mkS p_x.name), (.int .i64 p_x.count), (.int .i64 p_x.strokes)]] H w') ∧ k1 l2 = some r) ?_ ?_
   ·
    skip
    refine WP.region_any (S₀ := St w H [.blk b3 35 [(.slice none 0 0), (.int .i64 0)], .blk b2 39 [(.int .i64 p_x.kind), (mkS p_x.name), (.int .i64 p_x.count), (.int .i64 p_x.strokes)], .blk b1 35 [(.slice ao1 p_m.items.length cap1), (.int .i64 p_m.cycles)]] H) 8 rfl (by kernel_rfl) (fun w' s => s) (fun _ s => s.drew) ?_
    refine tq (i := 0) rfl (by kernel_rfl) rfl rfl rfl (ov_fieldAddr Tryz.underlying35 rfl rfl rfl Tryz.sizeOf33 rfl rfl) ?_
    refine tq (i := 1) rfl (by kernel_rfl) rfl rfl rfl (ov_load_box (i := 2) Tryz.isAgg33 rfl rfl rfl rfl) ?_
    refine tq (i := 3) rfl (by kernel_rfl) rfl rfl rfl (ov_fieldAddr Tryz.underlying35 rfl rfl rfl Tryz.sizeOf3 rfl rfl) ?_
    refine tq (i := 4) rfl (by kernel_rfl) rfl rfl rfl (ov_load_box (i := 2) Tryz.isAgg3 rfl rfl rfl rfl) ?_
    refine AL.any (rs := [2, 6]) (by kernel_rfl) (by decide) ?_
    refine ALs.cons (i := 2) rfl (Runs.free rfl) rfl rfl ?_ ?_
    ·
     skip
     obtain ⟨l1, e2, hm⟩ := bind_some hm
     refine os_clone rfl rfl h1 hc1 e2 (fun ao3 cap3 xs1 rl1 => ?_)
     refine ⟨fun w' s => (s.select [1, 2, 3] (by decide) rfl), ?_⟩
     refine tq (i := 5) rfl (by kernel_rfl) rfl rfl rfl (ov_build (r := (.agg #[(.slice ao3 p_m.items.length cap3), (.int .i64 p_m.cycles)])) rfl rfl (fun _ => by kernel_rfl)) ?_
     refine AL.any (rs := [6]) (by kernel_rfl) (by decide) ?_
     refine ALs.cons (i := 6) rfl (Runs.free rfl) rfl rfl ?_ ?_
     ·
      skip
      refine os_alloc (cs := [(.slice none 0 0), (.int .i64 0)]) Tryz.zeroValue35 rfl rfl (fun b4 => ?_)
      refine ⟨fun w' s => (s.select [2, 3, 4] (by decide) rfl), ?_⟩
      refine AL.any (rs := [7]) (by kernel_rfl) (by decide) ?_
      refine ALs.cons0 (i := 7) rfl (Runs.free rfl) rfl ?_ ?_
      ·
       skip
       refine os_store (i := 0) (vs := [(.slice ao3 p_m.items.length cap3), (.int .i64 p_m.cycles)]) (cs' := [(.slice ao3 p_m.items.length cap3), (.int .i64 p_m.cycles)]) Tryz.sizeOf35 rfl rfl rfl rfl rfl rfl rfl rfl rfl ?_
       refine ⟨fun w' s => (s.select [2, 3, 4] (by decide) rfl), ?_⟩
       refine AL.done (by kernel_rfl) ?_
       refine then_normal ?_
       exact ⟨b4, p_m.items, ao3, cap3, xs1, rl1, (Sub.cons rfl (Sub.cons rfl (Sub.cons rfl (Sub.cons rfl (Sub.cons rfl (Sub.nil _)))))), fun w' s => (s.select [0, 1, 2, 3] (by decide) rfl), hm⟩
      exact ALs.nil
     exact ALs.nil
    refine ALs.cons (i := 6) rfl (Runs.free rfl) rfl rfl ?_ ?_
    ·
     skip
     refine os_alloc (cs := [(.slice none 0 0), (.int .i64 0)]) Tryz.zeroValue35 rfl rfl (fun b4 => ?_)
     refine ⟨fun w' s => (s.select [1, 2, 3] (by decide) rfl), ?_⟩
     refine AL.any (rs := [2]) (by kernel_rfl) (by decide) ?_
     refine ALs.cons (i := 2) rfl (Runs.free rfl) rfl rfl ?_ ?_
     ·
      skip
      obtain ⟨l1, e2, hm⟩ := bind_some hm
      refine os_clone rfl rfl h1 hc1 e2 (fun ao3 cap3 xs1 rl1 => ?_)
      refine ⟨fun w' s => (s.select [2, 3, 4] (by decide) rfl), ?_⟩
      refine tq (i := 5) rfl (by kernel_rfl) rfl rfl rfl (ov_build (r := (.agg #[(.slice ao3 p_m.items.length cap3), (.int .i64 p_m.cycles)])) rfl rfl (fun _ => by kernel_rfl)) ?_
      refine AL.any (rs := [7]) (by kernel_rfl) (by decide) ?_
      refine ALs.cons0 (i := 7) rfl (Runs.free rfl) rfl ?_ ?_
      ·
       skip
       refine os_store (i := 1) (vs := [(.slice ao3 p_m.items.length cap3), (.int .i64 p_m.cycles)]) (cs' := [(.slice ao3 p_m.items.length cap3), (.int .i64 p_m.cycles)]) Tryz.sizeOf35 rfl rfl rfl rfl rfl rfl rfl rfl rfl ?_
       refine ⟨fun w' s => (s.select [2, 3, 4] (by decide) rfl), ?_⟩
       refine AL.done (by kernel_rfl) ?_
       refine then_normal ?_
       exact ⟨b4, p_m.items, ao3, cap3, xs1, rl1, (Sub.cons rfl (Sub.cons rfl (Sub.cons rfl (Sub.cons rfl (Sub.cons rfl (Sub.nil _)))))), fun w' s => (s.select [1, 0, 2, 3] (by decide) rfl), hm⟩
      exact ALs.nil
     exact ALs.nil
    exact ALs.nil
   ·
    rintro g' S' ⟨b5, l2, ao4, cap4, xs2, rl2, hsub1, hS1, hm⟩
    refine WP.sub hsub1 (WP.weaken hS1 ?_)
    replace hm := (congrFun hk1 l2).symm.trans hm
    refine WP.seq ?_
    obtain ⟨k2, hk2, hm⟩ := joinK_some hm
    refine WP.seq_join (fun g' S' => ∃ (i1 : Int) (i2 : Int) (l7 : (List Item)) (ao9 : Option Addr) (cap9 : Nat) (xs5 : List Value), RL H encItem l7 xs5 ∧ Sub [(4, (pB b3 0)), (8, (pB b5 0)), (9, (.int .i64 i1)), (1000000007, (.bool false))] g' ∧ (∀ w', S' w' → St w H [.blk b5 35 [(.slice ao9 l7.length cap9), (.int .i64 i2)], .row 68 (encItem).size l7.length (.slice ao9 l7.length cap9) xs5, .blk b3 35 [(.slice none 0 0), (.int .i64 0)]] H w') ∧ k2 i1 i2 l7 = some r) ?_ ?_
    ·
     skip
     refine WP.region_any (S₀ := St w H [.blk b3 35 [(.slice none 0 0), (.int .i64 0)], .blk b2 39 [(.int .i64 p_x.kind), (mkS p_x.name), (.int .i64 p_x.count), (.int .i64 p_x.strokes)]] H) 9 rfl (by kernel_rfl) (fun w' s => (s.select [2, 3] (by decide) rfl)) (fun _ s => s.drew) ?_
     refine tq (i := 1) rfl (by kernel_rfl) rfl rfl rfl (ov_fieldAddr Tryz.underlying39 rfl rfl rfl Tryz.sizeOf3 rfl rfl) ?_
     refine tq (i := 2) rfl (by kernel_rfl) rfl rfl rfl (ov_load_box (i := 1) Tryz.isAgg3 rfl rfl rfl rfl) ?_
     refine tq (i := 5) rfl (by kernel_rfl) rfl rfl rfl (ov_move rfl rfl) ?_
     refine tq (i := 6) rfl (by kernel_rfl) rfl rfl rfl (ov_load_whole (i := 1) Tryz.isAgg39 Tryz.sizeOf39 rfl rfl rfl rfl) ?_
     refine AL.any (rs := [0]) (by kernel_rfl) (by decide) ?_
     refine ALs.cons (i := 0) rfl (Runs.free rfl) rfl rfl ?_ ?_
     ·
      skip
      refine os_inline (cap := []) (vs := []) Tryz.call41 rfl rfl rfl Tryz.func41 rfl 8 Tryz.ntmps41 rfl (fun w' s => ?_)
      refine WP.seq (WP.region ?_)
      refine WL.step (Runs.free rfl) rfl rfl (os_alloc (cs := [(mkS []), (.bool false), (.bool false), .nilFunc, (mkS []), (.bool false), (.bool false), .nilFunc, (mkS []), (.bool false), (.bool false), .nilFunc, (mkS []), (.bool false), (.bool false), .nilFunc, (mkS []), (.bool false), (.bool false), .nilFunc, (mkS []), (.bool false), (.bool false), .nilFunc]) Tryz.zeroValue101 rfl rfl (fun b6 => ?_))
      refine WL.nil (then_normal (WP.seq (WP.region ?_)))
      refine wq rfl rfl rfl (ov_build (r := (.agg #[(mkS [112, 97, 114, 116]), (.bool true), (.bool false), (.func (.func 56) #[] #[])])) rfl rfl (fun _ => by kernel_rfl)) ?_
      refine wq rfl rfl rfl (ov_build (r := (.agg #[(mkS [99, 121, 99, 108, 101, 115]), (.bool true), (.bool true), (.func (.func 57) #[] #[])])) rfl rfl (fun _ => by kernel_rfl)) ?_
      refine wq rfl rfl rfl (ov_build (r := (.agg #[(mkS [102, 97, 117, 108, 116]), (.bool false), (.bool false), (.func (.func 58) #[] #[])])) rfl rfl (fun _ => by kernel_rfl)) ?_
      refine wq rfl rfl rfl (ov_build (r := (.agg #[(mkS [114, 101, 112, 97, 105, 114]), (.bool false), (.bool false), (.func (.func 59) #[] #[])])) rfl rfl (fun _ => by kernel_rfl)) ?_
      refine wq rfl rfl rfl (ov_build (r := (.agg #[(mkS [114, 101, 112, 108, 97, 99, 101]), (.bool true), (.bool false), (.func (.func 60) #[] #[])])) rfl rfl (fun _ => by kernel_rfl)) ?_
      refine wq rfl rfl rfl (ov_build (r := (.agg #[(mkS [114, 101, 109, 111, 118, 101]), (.bool false), (.bool false), (.func (.func 61) #[] #[])])) rfl rfl (fun _ => by kernel_rfl)) ?_
      refine wq rfl rfl rfl (ov_build (r := (.agg #[(mkS [112, 97, 114, 116]), (.bool true), (.bool false), (.func (.func 56) #[] #[]), (mkS [99, 121, 99, 108, 101, 115]), (.bool true), (.bool true), (.func (.func 57) #[] #[]), (mkS [102, 97, 117, 108, 116]), (.bool false), (.bool false), (.func (.func 58) #[] #[]), (mkS [114, 101, 112, 97, 105, 114]), (.bool false), (.bool false), (.func (.func 59) #[] #[]), (mkS [114, 101, 112, 108, 97, 99, 101]), (.bool true), (.bool false), (.func (.func 60) #[] #[]), (mkS [114, 101, 109, 111, 118, 101]), (.bool false), (.bool false), (.func (.func 61) #[] #[])])) rfl rfl (fun _ => by kernel_rfl)) ?_
      refine WL.step0 (Runs.free rfl) rfl (os_store (i := 0) (vs := [(mkS [112, 97, 114, 116]), (.bool true), (.bool false), (.func (.func 56) #[] #[]), (mkS [99, 121, 99, 108, 101, 115]), (.bool true), (.bool true), (.func (.func 57) #[] #[]), (mkS [102, 97, 117, 108, 116]), (.bool false), (.bool false), (.func (.func 58) #[] #[]), (mkS [114, 101, 112, 97, 105, 114]), (.bool false), (.bool false), (.func (.func 59) #[] #[]), (mkS [114, 101, 112, 108, 97, 99, 101]), (.bool true), (.bool false), (.func (.func 60) #[] #[]), (mkS [114, 101, 109, 111, 118, 101]), (.bool false), (.bool false), (.func (.func 61) #[] #[])]) (cs' := [(mkS [112, 97, 114, 116]), (.bool true), (.bool false), (.func (.func 56) #[] #[]), (mkS [99, 121, 99, 108, 101, 115]), (.bool true), (.bool true), (.func (.func 57) #[] #[]), (mkS [102, 97, 117, 108, 116]), (.bool false), (.bool false), (.func (.func 58) #[] #[]), (mkS [114, 101, 112, 97, 105, 114]), (.bool false), (.bool false), (.func (.func 59) #[] #[]), (mkS [114, 101, 112, 108, 97, 99, 101]), (.bool true), (.bool false), (.func (.func 60) #[] #[]), (mkS [114, 101, 109, 111, 118, 101]), (.bool false), (.bool false), (.func (.func 61) #[] #[])]) Tryz.sizeOf101 rfl rfl rfl rfl rfl rfl rfl rfl rfl ?_)
      refine WL.nil (then_normal (WP.ret ?_))
      refine retQ_ret (v := (.agg #[(mkS [112, 97, 114, 116]), (.bool true), (.bool false), (.func (.func 56) #[] #[]), (mkS [99, 121, 99, 108, 101, 115]), (.bool true), (.bool true), (.func (.func 57) #[] #[]), (mkS [102, 97, 117, 108, 116]), (.bool false), (.bool false), (.func (.func 58) #[] #[]), (mkS [114, 101, 112, 97, 105, 114]), (.bool false), (.bool false), (.func (.func 59) #[] #[]), (mkS [114, 101, 112, 108, 97, 99, 101]), (.bool true), (.bool false), (.func (.func 60) #[] #[]), (mkS [114, 101, 109, 111, 118, 101]), (.bool false), (.bool false), (.func (.func 61) #[] #[])])) Tryz.results41 (Res.cell rfl (box_loads (i := 0) Tryz.isAgg101 Tryz.sizeOf101 rfl rfl) Res.nil) rfl (fun w' s => ⟨_, ?_, s⟩)
      refine ⟨fun w' s => (s.select [3, 4] (by decide) rfl), ?_⟩
      rcases Bool.eq_false_or_eq_true (p_x.kind == 0) with hc7 | hc7
      ·
       replace hm := ite_t hc7 hm
       refine tq (i := 3) rfl (by kernel_rfl) rfl rfl rfl (ov_index_at (j := 0) (cs := [(mkS [112, 97, 114, 116]), (.bool true), (.bool false), (.func (.func 56) #[] #[]), (mkS [99, 121, 99, 108, 101, 115]), (.bool true), (.bool true), (.func (.func 57) #[] #[]), (mkS [102, 97, 117, 108, 116]), (.bool false), (.bool false), (.func (.func 58) #[] #[]), (mkS [114, 101, 112, 97, 105, 114]), (.bool false), (.bool false), (.func (.func 59) #[] #[]), (mkS [114, 101, 112, 108, 97, 99, 101]), (.bool true), (.bool false), (.func (.func 60) #[] #[]), (mkS [114, 101, 109, 111, 118, 101]), (.bool false), (.bool false), (.func (.func 61) #[] #[])]) (r := (.agg #[(mkS [112, 97, 114, 116]), (.bool true), (.bool false), (.func (.func 56) #[] #[])])) (eq_of_beq hc7) rfl rfl rfl (fun _ => by kernel_rfl)) ?_
       refine tq (i := 4) rfl (by kernel_rfl) rfl rfl rfl (ov_field (cs := [(mkS [112, 97, 114, 116]), (.bool true), (.bool false), (.func (.func 56) #[] #[])]) (r := (.func (.func 56) #[] #[])) rfl rfl (fun _ => by kernel_rfl)) ?_
       refine AL.any (rs := [7]) (by kernel_rfl) (by decide) ?_
       refine ALs.cons (i := 7) rfl (Runs.free rfl) rfl rfl ?_ ?_
       ·
        skip
        refine os_inline (cap := []) (vs := [(pB b5 0), (.int .i64 r1.1), (.agg #[(.int .i64 p_x.kind), (mkS p_x.name), (.int .i64 p_x.count), (.int .i64 p_x.strokes)])]) Tryz.call56 rfl rfl rfl Tryz.func56 rfl 26 Tryz.ntmps56 rfl (fun w' s => ?_)
        refine WP.seq (WP.region ?_)
        refine WL.step (Runs.free rfl) rfl rfl (os_box (cs := [(.int .i64 p_x.kind), (mkS p_x.name), (.int .i64 p_x.count), (.int .i64 p_x.strokes)]) rfl rfl rfl (fun b7 => ?_))
        refine wq rfl rfl rfl (ov_assign rfl rfl) ?_
        refine WL.nil (then_normal (WP.seq (WP.seq (WP.region ?_))))
        refine wq rfl rfl rfl (ov_move rfl rfl) ?_
        refine wq rfl rfl rfl (ov_nilCheckB rfl rfl) ?_
        refine wq rfl rfl rfl (ov_fieldAddr Tryz.underlying35 rfl rfl rfl Tryz.sizeOf33 rfl rfl) ?_
        refine wq rfl rfl rfl (ov_load_box (i := 2) Tryz.isAgg33 rfl rfl rfl rfl) ?_
        refine wq rfl rfl rfl (ov_len_slice Tryz.underlying33 rfl rfl) ?_
        refine wq rfl rfl rfl (ov_eql rfl rfl rfl) ?_
        refine WL.nil (then_normal ?_)
        refine WP.cond rfl (fun hc8 => ?_) (fun hc8 => ?_)
        ·
         replace hm := ite_t hc8 hm
         refine WP.seq (WP.region ?_)
         refine wq rfl rfl rfl (ov_assign rfl rfl) ?_
         refine WL.nil (then_normal (WP.ret (then_ret ?_)))
         refine retQ_ret (v := (.int .i64 5)) Tryz.results56 (Res.tmp rfl Res.nil) rfl (fun w' s => ⟨_, ?_, s⟩)
         refine ⟨fun w' s => (s.select [4, 5] (by decide) rfl), ?_⟩
         refine tq (i := 8) rfl (by kernel_rfl) rfl rfl rfl (ov_assign rfl rfl) ?_
         refine AL.done (by kernel_rfl) ?_
         refine then_normal ?_
         exact ⟨5, p_m.cycles, l2, ao4, cap4, xs2, rl2, (Sub.cons rfl (Sub.cons rfl (Sub.cons rfl (Sub.cons rfl (Sub.nil _))))), fun w' s => (s.select [2, 3, 4] (by decide) rfl), hm⟩
        ·
         replace hm := ite_f hc8 hm
         refine WP.skip (then_normal ?_)
         obtain ⟨k3, hk3, hm⟩ := joinK_some hm
         refine WP.seq_join (fun g' S' => ∃ (l4 : (List Item)) (ao6 : Option Addr) (cap6 : Nat) (xs3 : List Value), RL H encItem l4 xs3 ∧ Sub [(1000000007, (.bool false))] g' ∧ (∀ w', S' w' → St w H [.blk b5 35 [(.slice ao6 l4.length cap6), (.int .i64 p_m.cycles)], .row 68 (encItem).size l4.length (.slice ao6 l4.length cap6) xs3, .blk b3 35 [(.slice none 0 0), (.int .i64 0)], .blk b2 39 [(.int .i64 p_x.kind), (mkS p_x.name), (.int .i64 p_x.count), (.int .i64 p_x.strokes)]] H w') ∧ k3 l4 = some r) ?_ ?_
         ·
          skip
          refine WP.region_any (S₀ := St w H [.blk b7 39 [(.int .i64 p_x.kind), (mkS p_x.name), (.int .i64 p_x.count), (.int .i64 p_x.strokes)], .blk b6 101 [(mkS [112, 97, 114, 116]), (.bool true), (.bool false), (.func (.func 56) #[] #[]), (mkS [99, 121, 99, 108, 101, 115]), (.bool true), (.bool true), (.func (.func 57) #[] #[]), (mkS [102, 97, 117, 108, 116]), (.bool false), (.bool false), (.func (.func 58) #[] #[]), (mkS [114, 101, 112, 97, 105, 114]), (.bool false), (.bool false), (.func (.func 59) #[] #[]), (mkS [114, 101, 112, 108, 97, 99, 101]), (.bool true), (.bool false), (.func (.func 60) #[] #[]), (mkS [114, 101, 109, 111, 118, 101]), (.bool false), (.bool false), (.func (.func 61) #[] #[])], .blk b3 35 [(.slice none 0 0), (.int .i64 0)], .blk b2 39 [(.int .i64 p_x.kind), (mkS p_x.name), (.int .i64 p_x.count), (.int .i64 p_x.strokes)]] H) 14 rfl (by kernel_rfl) (fun w' s => (s.select [0, 1, 4, 5] (by decide) rfl)) (fun _ s => s.drew) ?_
          refine tq (i := 0) rfl (by kernel_rfl) rfl rfl rfl (ov_move rfl rfl) ?_
          refine tq (i := 1) rfl (by kernel_rfl) rfl rfl rfl (ov_move rfl rfl) ?_
          refine tq (i := 2) rfl (by kernel_rfl) rfl rfl rfl (ov_nilCheckB rfl rfl) ?_
          refine tq (i := 3) rfl (by kernel_rfl) rfl rfl rfl (ov_fieldAddr Tryz.underlying35 rfl rfl rfl Tryz.sizeOf33 rfl rfl) ?_
          refine tq (i := 5) rfl (by kernel_rfl) rfl rfl rfl (ov_move rfl rfl) ?_
          refine tq (i := 6) rfl (by kernel_rfl) rfl rfl rfl (ov_move rfl rfl) ?_
          refine tq (i := 7) rfl (by kernel_rfl) rfl rfl rfl (ov_load_whole (i := 0) Tryz.isAgg39 Tryz.sizeOf39 rfl rfl rfl rfl) ?_
          refine AL.any (rs := [4, 8]) (by kernel_rfl) (by decide) ?_
          refine ALs.cons (i := 4) rfl (Runs.free rfl) rfl rfl ?_ ?_
          ·
           skip
           refine OQ.step (OV.quiet (ov_load_box (i := 2) Tryz.isAgg33 rfl rfl rfl rfl)) ?_
           refine ⟨fun w' s => (s.select [0, 1, 4, 5] (by decide) rfl), ?_⟩
           refine AL.any (rs := [8]) (by kernel_rfl) (by decide) ?_
           refine ALs.cons (i := 8) rfl (Runs.free rfl) rfl rfl ?_ ?_
           ·
            skip
            refine os_inline (cap := []) (vs := [(pB b5 0), (.agg #[(.int .i64 p_x.kind), (mkS p_x.name), (.int .i64 p_x.count), (.int .i64 p_x.strokes)])]) Tryz.call72 rfl rfl rfl Tryz.func72 rfl 14 Tryz.ntmps72 rfl (fun w' s => ?_)
            refine WP.seq (WP.region ?_)
            refine WL.step (Runs.free rfl) rfl rfl (os_box (cs := [(.int .i64 p_x.kind), (mkS p_x.name), (.int .i64 p_x.count), (.int .i64 p_x.strokes)]) rfl rfl rfl (fun b8 => ?_))
            refine WL.step (Runs.free rfl) rfl rfl (os_alloc (cs := [(mkS []), (.int .i64 0), (.int .i64 0), (.int .i64 0), (.bool false), (.int .i64 0), (.int .i64 0)]) Tryz.zeroValue68 rfl rfl (fun b9 => ?_))
            refine WL.nil (then_normal (WP.seq ?_))
            refine WP.region_any (S₀ := St w H [.blk b8 39 [(.int .i64 p_x.kind), (mkS p_x.name), (.int .i64 p_x.count), (.int .i64 p_x.strokes)], .blk b7 39 [(.int .i64 p_x.kind), (mkS p_x.name), (.int .i64 p_x.count), (.int .i64 p_x.strokes)], .blk b6 101 [(mkS [112, 97, 114, 116]), (.bool true), (.bool false), (.func (.func 56) #[] #[]), (mkS [99, 121, 99, 108, 101, 115]), (.bool true), (.bool true), (.func (.func 57) #[] #[]), (mkS [102, 97, 117, 108, 116]), (.bool false), (.bool false), (.func (.func 58) #[] #[]), (mkS [114, 101, 112, 97, 105, 114]), (.bool false), (.bool false), (.func (.func 59) #[] #[]), (mkS [114, 101, 112, 108, 97, 99, 101]), (.bool true), (.bool false), (.func (.func 60) #[] #[]), (mkS [114, 101, 109, 111, 118, 101]), (.bool false), (.bool false), (.func (.func 61) #[] #[])], .blk b5 35 [(.slice ao4 l2.length cap4), (.int .i64 p_m.cycles)], .row 68 (encItem).size l2.length (.slice ao4 l2.length cap4) xs2, .blk b3 35 [(.slice none 0 0), (.int .i64 0)], .blk b2 39 [(.int .i64 p_x.kind), (mkS p_x.name), (.int .i64 p_x.count), (.int .i64 p_x.strokes)]] H) 10 rfl (by kernel_rfl) (fun w' s => (s.select [1, 2, 3, 4, 5, 6, 7] (by decide) rfl)) (fun _ s => s.drew) ?_
            refine tq (i := 0) rfl (by kernel_rfl) rfl rfl rfl (ov_fieldAddr Tryz.underlying39 rfl rfl rfl Tryz.sizeOf9 rfl rfl) ?_
            refine tq (i := 1) rfl (by kernel_rfl) rfl rfl rfl (ov_load_box (i := 0) Tryz.isAgg9 rfl rfl rfl rfl) ?_
            refine tq (i := 2) rfl (by kernel_rfl) rfl rfl rfl (ov_fieldAddr Tryz.underlying39 rfl rfl rfl Tryz.sizeOf3 rfl rfl) ?_
            refine tq (i := 3) rfl (by kernel_rfl) rfl rfl rfl (ov_load_box (i := 0) Tryz.isAgg3 rfl rfl rfl rfl) ?_
            refine tq (i := 4) rfl (by kernel_rfl) rfl rfl rfl (ov_move rfl rfl) ?_
            refine tq (i := 5) rfl (by kernel_rfl) rfl rfl rfl (ov_nilCheckB rfl rfl) ?_
            refine tq (i := 6) rfl (by kernel_rfl) rfl rfl rfl (ov_fieldAddr Tryz.underlying35 rfl rfl rfl Tryz.sizeOf3 rfl rfl) ?_
            refine tq (i := 7) rfl (by kernel_rfl) rfl rfl rfl (ov_load_box (i := 3) Tryz.isAgg3 rfl rfl rfl rfl) ?_
            refine tq (i := 8) rfl (by kernel_rfl) rfl rfl rfl (ov_build (r := (.agg #[(mkS p_x.name), (.int .i64 p_x.count), (.int .i64 0), (.int .i64 0), (.bool false), (.int .i64 p_m.cycles), (.int .i64 0)])) rfl rfl (fun _ => by kernel_rfl)) ?_
            refine AL.any (rs := [9]) (by kernel_rfl) (by decide) ?_
            refine ALs.cons0 (i := 9) rfl (Runs.free rfl) rfl ?_ ?_
            ·
             skip
             refine os_store (i := 0) (vs := [(mkS p_x.name), (.int .i64 p_x.count), (.int .i64 0), (.int .i64 0), (.bool false), (.int .i64 p_m.cycles), (.int .i64 0)]) (cs' := [(mkS p_x.name), (.int .i64 p_x.count), (.int .i64 0), (.int .i64 0), (.bool false), (.int .i64 p_m.cycles), (.int .i64 0)]) Tryz.sizeOf68 rfl rfl rfl rfl rfl rfl rfl rfl rfl ?_
             refine ⟨fun w' s => (s.select [1, 2, 3, 4, 5, 6, 7] (by decide) rfl), ?_⟩
             refine AL.done (by kernel_rfl) ?_
             refine then_normal (WP.ret ?_)
             refine retQ_ret (v := (.agg #[(mkS p_x.name), (.int .i64 p_x.count), (.int .i64 0), (.int .i64 0), (.bool false), (.int .i64 p_m.cycles), (.int .i64 0)])) Tryz.results72 (Res.cell rfl (box_loads (i := 0) Tryz.isAgg68 Tryz.sizeOf68 rfl rfl) Res.nil) rfl (fun w' s => ⟨_, ?_, s⟩)
             refine ⟨fun w' s => (s.select [2, 3, 6, 7] (by decide) rfl), ?_⟩
             refine AL.any (rs := [9]) (by kernel_rfl) (by decide) ?_
             refine ALs.cons (i := 9) rfl (Runs.free rfl) rfl rfl ?_ ?_
             ·
              skip
              have rl3 : RL H encItem ([(Item.mk p_x.name p_x.count 0 0 false p_m.cycles 0)] : List Item) [(mkS p_x.name), (.int .i64 p_x.count), (.int .i64 0), (.int .i64 0), (.bool false), (.int .i64 p_m.cycles), (.int .i64 0)] := RL.cons (cs := [(mkS p_x.name), (.int .i64 p_x.count), (.int .i64 0), (.int .i64 0), (.bool false), (.int .i64 p_m.cycles), (.int .i64 0)]) (xs := []) rfl (RL.nil _ _)
              refine os_buildSlice (cs := [(mkS p_x.name), (.int .i64 p_x.count), (.int .i64 0), (.int .i64 0), (.bool false), (.int .i64 p_m.cycles), (.int .i64 0)]) (E := 68) (sz := 7) rfl rfl (fun _ => by kernel_rfl) rfl (by decide) (fun b10 => ?_)
              refine ⟨fun w' s => (s.select [3, 4, 7, 8] (by decide) rfl), ?_⟩
              refine AL.any (rs := [10]) (by kernel_rfl) (by decide) ?_
              refine ALs.cons (i := 10) rfl (Runs.free rfl) rfl rfl ?_ ?_
              ·
               skip
               obtain ⟨l3, e3, hm⟩ := bind_some hm
               refine os_insert (i := 6) (k := 0) (by decide) rfl rfl rfl rfl rfl rfl rl2 rl3 (Nat.zero_lt_succ _) e3 (fun ao5 cap5 ys1 rl4 => ?_)
               refine ⟨fun w' s => (s.select [3, 4, 7, 8] (by decide) rfl), ?_⟩
               refine tq (i := 11) rfl (by kernel_rfl) rfl rfl rfl (ov_nilCheckB rfl rfl) ?_
               refine tq (i := 12) rfl (by kernel_rfl) rfl rfl rfl (ov_fieldAddr Tryz.underlying35 rfl rfl rfl Tryz.sizeOf33 rfl rfl) ?_
               refine AL.any (rs := [13]) (by kernel_rfl) (by decide) ?_
               refine ALs.cons0 (i := 13) rfl (Runs.free rfl) rfl ?_ ?_
               ·
                skip
                refine os_store (i := 5) (vs := [(.slice ao5 l3.length cap5)]) (cs' := [(.slice ao5 l3.length cap5), (.int .i64 p_m.cycles)]) Tryz.sizeOf33 rfl rfl rfl rfl rfl rfl rfl rfl rfl ?_
                refine ⟨fun w' s => (s.select [3, 4, 7, 8] (by decide) rfl), ?_⟩
                refine AL.done (by kernel_rfl) ?_
                refine then_normal ?_
                exact ⟨l3, ao5, cap5, ys1, rl4, (Sub.cons rfl (Sub.nil _)), fun w' s => (s.select [5, 6, 7, 8] (by decide) rfl), hm⟩
               exact ALs.nil
              exact ALs.nil
             exact ALs.nil
            exact ALs.nil
           exact ALs.nil
          refine ALs.cons (i := 8) rfl (Runs.free rfl) rfl rfl ?_ ?_
          ·
           skip
           refine os_inline (cap := []) (vs := [(pB b5 0), (.agg #[(.int .i64 p_x.kind), (mkS p_x.name), (.int .i64 p_x.count), (.int .i64 p_x.strokes)])]) Tryz.call72 rfl rfl rfl Tryz.func72 rfl 14 Tryz.ntmps72 rfl (fun w' s => ?_)
           refine WP.seq (WP.region ?_)
           refine WL.step (Runs.free rfl) rfl rfl (os_box (cs := [(.int .i64 p_x.kind), (mkS p_x.name), (.int .i64 p_x.count), (.int .i64 p_x.strokes)]) rfl rfl rfl (fun b8 => ?_))
           refine WL.step (Runs.free rfl) rfl rfl (os_alloc (cs := [(mkS []), (.int .i64 0), (.int .i64 0), (.int .i64 0), (.bool false), (.int .i64 0), (.int .i64 0)]) Tryz.zeroValue68 rfl rfl (fun b9 => ?_))
           refine WL.nil (then_normal (WP.seq ?_))
           refine WP.region_any (S₀ := St w H [.blk b8 39 [(.int .i64 p_x.kind), (mkS p_x.name), (.int .i64 p_x.count), (.int .i64 p_x.strokes)], .blk b7 39 [(.int .i64 p_x.kind), (mkS p_x.name), (.int .i64 p_x.count), (.int .i64 p_x.strokes)], .blk b6 101 [(mkS [112, 97, 114, 116]), (.bool true), (.bool false), (.func (.func 56) #[] #[]), (mkS [99, 121, 99, 108, 101, 115]), (.bool true), (.bool true), (.func (.func 57) #[] #[]), (mkS [102, 97, 117, 108, 116]), (.bool false), (.bool false), (.func (.func 58) #[] #[]), (mkS [114, 101, 112, 97, 105, 114]), (.bool false), (.bool false), (.func (.func 59) #[] #[]), (mkS [114, 101, 112, 108, 97, 99, 101]), (.bool true), (.bool false), (.func (.func 60) #[] #[]), (mkS [114, 101, 109, 111, 118, 101]), (.bool false), (.bool false), (.func (.func 61) #[] #[])], .blk b5 35 [(.slice ao4 l2.length cap4), (.int .i64 p_m.cycles)], .row 68 (encItem).size l2.length (.slice ao4 l2.length cap4) xs2, .blk b3 35 [(.slice none 0 0), (.int .i64 0)], .blk b2 39 [(.int .i64 p_x.kind), (mkS p_x.name), (.int .i64 p_x.count), (.int .i64 p_x.strokes)]] H) 10 rfl (by kernel_rfl) (fun w' s => (s.select [1, 2, 3, 4, 5, 6, 7] (by decide) rfl)) (fun _ s => s.drew) ?_
           refine tq (i := 0) rfl (by kernel_rfl) rfl rfl rfl (ov_fieldAddr Tryz.underlying39 rfl rfl rfl Tryz.sizeOf9 rfl rfl) ?_
           refine tq (i := 1) rfl (by kernel_rfl) rfl rfl rfl (ov_load_box (i := 0) Tryz.isAgg9 rfl rfl rfl rfl) ?_
           refine tq (i := 2) rfl (by kernel_rfl) rfl rfl rfl (ov_fieldAddr Tryz.underlying39 rfl rfl rfl Tryz.sizeOf3 rfl rfl) ?_
           refine tq (i := 3) rfl (by kernel_rfl) rfl rfl rfl (ov_load_box (i := 0) Tryz.isAgg3 rfl rfl rfl rfl) ?_
           refine tq (i := 4) rfl (by kernel_rfl) rfl rfl rfl (ov_move rfl rfl) ?_
           refine tq (i := 5) rfl (by kernel_rfl) rfl rfl rfl (ov_nilCheckB rfl rfl) ?_
           refine tq (i := 6) rfl (by kernel_rfl) rfl rfl rfl (ov_fieldAddr Tryz.underlying35 rfl rfl rfl Tryz.sizeOf3 rfl rfl) ?_
           refine tq (i := 7) rfl (by kernel_rfl) rfl rfl rfl (ov_load_box (i := 3) Tryz.isAgg3 rfl rfl rfl rfl) ?_
           refine tq (i := 8) rfl (by kernel_rfl) rfl rfl rfl (ov_build (r := (.agg #[(mkS p_x.name), (.int .i64 p_x.count), (.int .i64 0), (.int .i64 0), (.bool false), (.int .i64 p_m.cycles), (.int .i64 0)])) rfl rfl (fun _ => by kernel_rfl)) ?_
           refine AL.any (rs := [9]) (by kernel_rfl) (by decide) ?_
           refine ALs.cons0 (i := 9) rfl (Runs.free rfl) rfl ?_ ?_
           ·
            skip
            refine os_store (i := 0) (vs := [(mkS p_x.name), (.int .i64 p_x.count), (.int .i64 0), (.int .i64 0), (.bool false), (.int .i64 p_m.cycles), (.int .i64 0)]) (cs' := [(mkS p_x.name), (.int .i64 p_x.count), (.int .i64 0), (.int .i64 0), (.bool false), (.int .i64 p_m.cycles), (.int .i64 0)]) Tryz.sizeOf68 rfl rfl rfl rfl rfl rfl rfl rfl rfl ?_
            refine ⟨fun w' s => (s.select [1, 2, 3, 4, 5, 6, 7] (by decide) rfl), ?_⟩
            refine AL.done (by kernel_rfl) ?_
            refine then_normal (WP.ret ?_)
            refine retQ_ret (v := (.agg #[(mkS p_x.name), (.int .i64 p_x.count), (.int .i64 0), (.int .i64 0), (.bool false), (.int .i64 p_m.cycles), (.int .i64 0)])) Tryz.results72 (Res.cell rfl (box_loads (i := 0) Tryz.isAgg68 Tryz.sizeOf68 rfl rfl) Res.nil) rfl (fun w' s => ⟨_, ?_, s⟩)
            refine ⟨fun w' s => (s.select [2, 3, 6, 7] (by decide) rfl), ?_⟩
            refine AL.any (rs := [4, 9]) (by kernel_rfl) (by decide) ?_
            refine ALs.cons (i := 4) rfl (Runs.free rfl) rfl rfl ?_ ?_
            ·
             skip
             refine OQ.step (OV.quiet (ov_load_box (i := 4) Tryz.isAgg33 rfl rfl rfl rfl)) ?_
             refine ⟨fun w' s => (s.select [2, 3, 6, 7] (by decide) rfl), ?_⟩
             refine AL.any (rs := [9]) (by kernel_rfl) (by decide) ?_
             refine ALs.cons (i := 9) rfl (Runs.free rfl) rfl rfl ?_ ?_
             ·
              skip
              have rl3 : RL H encItem ([(Item.mk p_x.name p_x.count 0 0 false p_m.cycles 0)] : List Item) [(mkS p_x.name), (.int .i64 p_x.count), (.int .i64 0), (.int .i64 0), (.bool false), (.int .i64 p_m.cycles), (.int .i64 0)] := RL.cons (cs := [(mkS p_x.name), (.int .i64 p_x.count), (.int .i64 0), (.int .i64 0), (.bool false), (.int .i64 p_m.cycles), (.int .i64 0)]) (xs := []) rfl (RL.nil _ _)
              refine os_buildSlice (cs := [(mkS p_x.name), (.int .i64 p_x.count), (.int .i64 0), (.int .i64 0), (.bool false), (.int .i64 p_m.cycles), (.int .i64 0)]) (E := 68) (sz := 7) rfl rfl (fun _ => by kernel_rfl) rfl (by decide) (fun b10 => ?_)
              refine ⟨fun w' s => (s.select [3, 4, 7, 8] (by decide) rfl), ?_⟩
              refine AL.any (rs := [10]) (by kernel_rfl) (by decide) ?_
              refine ALs.cons (i := 10) rfl (Runs.free rfl) rfl rfl ?_ ?_
              ·
               skip
               obtain ⟨l3, e3, hm⟩ := bind_some hm
               refine os_insert (i := 6) (k := 0) (by decide) rfl rfl rfl rfl rfl rfl rl2 rl3 (Nat.zero_lt_succ _) e3 (fun ao5 cap5 ys1 rl4 => ?_)
               refine ⟨fun w' s => (s.select [3, 4, 7, 8] (by decide) rfl), ?_⟩
               refine tq (i := 11) rfl (by kernel_rfl) rfl rfl rfl (ov_nilCheckB rfl rfl) ?_
               refine tq (i := 12) rfl (by kernel_rfl) rfl rfl rfl (ov_fieldAddr Tryz.underlying35 rfl rfl rfl Tryz.sizeOf33 rfl rfl) ?_
               refine AL.any (rs := [13]) (by kernel_rfl) (by decide) ?_
               refine ALs.cons0 (i := 13) rfl (Runs.free rfl) rfl ?_ ?_
               ·
                skip
                refine os_store (i := 5) (vs := [(.slice ao5 l3.length cap5)]) (cs' := [(.slice ao5 l3.length cap5), (.int .i64 p_m.cycles)]) Tryz.sizeOf33 rfl rfl rfl rfl rfl rfl rfl rfl rfl ?_
                refine ⟨fun w' s => (s.select [3, 4, 7, 8] (by decide) rfl), ?_⟩
                refine AL.done (by kernel_rfl) ?_
                refine then_normal ?_
                exact ⟨l3, ao5, cap5, ys1, rl4, (Sub.cons rfl (Sub.nil _)), fun w' s => (s.select [5, 6, 7, 8] (by decide) rfl), hm⟩
               exact ALs.nil
              exact ALs.nil
             exact ALs.nil
            refine ALs.cons (i := 9) rfl (Runs.free rfl) rfl rfl ?_ ?_
            ·
             skip
             have rl3 : RL H encItem ([(Item.mk p_x.name p_x.count 0 0 false p_m.cycles 0)] : List Item) [(mkS p_x.name), (.int .i64 p_x.count), (.int .i64 0), (.int .i64 0), (.bool false), (.int .i64 p_m.cycles), (.int .i64 0)] := RL.cons (cs := [(mkS p_x.name), (.int .i64 p_x.count), (.int .i64 0), (.int .i64 0), (.bool false), (.int .i64 p_m.cycles), (.int .i64 0)]) (xs := []) rfl (RL.nil _ _)
             refine os_buildSlice (cs := [(mkS p_x.name), (.int .i64 p_x.count), (.int .i64 0), (.int .i64 0), (.bool false), (.int .i64 p_m.cycles), (.int .i64 0)]) (E := 68) (sz := 7) rfl rfl (fun _ => by kernel_rfl) rfl (by decide) (fun b10 => ?_)
             refine ⟨fun w' s => (s.select [3, 4, 7, 8] (by decide) rfl), ?_⟩
             refine AL.any (rs := [4]) (by kernel_rfl) (by decide) ?_
             refine ALs.cons (i := 4) rfl (Runs.free rfl) rfl rfl ?_ ?_
             ·
              skip
              refine OQ.step (OV.quiet (ov_load_box (i := 5) Tryz.isAgg33 rfl rfl rfl rfl)) ?_
              refine ⟨fun w' s => (s.select [3, 4, 7, 8] (by decide) rfl), ?_⟩
              refine AL.any (rs := [10]) (by kernel_rfl) (by decide) ?_
              refine ALs.cons (i := 10) rfl (Runs.free rfl) rfl rfl ?_ ?_
              ·
               skip
               obtain ⟨l3, e3, hm⟩ := bind_some hm
               refine os_insert (i := 6) (k := 0) (by decide) rfl rfl rfl rfl rfl rfl rl2 rl3 (Nat.zero_lt_succ _) e3 (fun ao5 cap5 ys1 rl4 => ?_)
               refine ⟨fun w' s => (s.select [3, 4, 7, 8] (by decide) rfl), ?_⟩
               refine tq (i := 11) rfl (by kernel_rfl) rfl rfl rfl (ov_nilCheckB rfl rfl) ?_
               refine tq (i := 12) rfl (by kernel_rfl) rfl rfl rfl (ov_fieldAddr Tryz.underlying35 rfl rfl rfl Tryz.sizeOf33 rfl rfl) ?_
               refine AL.any (rs := [13]) (by kernel_rfl) (by decide) ?_
               refine ALs.cons0 (i := 13) rfl (Runs.free rfl) rfl ?_ ?_
               ·
                skip
                refine os_store (i := 5) (vs := [(.slice ao5 l3.length cap5)]) (cs' := [(.slice ao5 l3.length cap5), (.int .i64 p_m.cycles)]) Tryz.sizeOf33 rfl rfl rfl rfl rfl rfl rfl rfl rfl ?_
                refine ⟨fun w' s => (s.select [3, 4, 7, 8] (by decide) rfl), ?_⟩
                refine AL.done (by kernel_rfl) ?_
                refine then_normal ?_
                exact ⟨l3, ao5, cap5, ys1, rl4, (Sub.cons rfl (Sub.nil _)), fun w' s => (s.select [5, 6, 7, 8] (by decide) rfl), hm⟩
               exact ALs.nil
              exact ALs.nil
             exact ALs.nil
            exact ALs.nil
           exact ALs.nil
          exact ALs.nil
         ·
          rintro g' S' ⟨l4, ao6, cap6, xs3, rl5, hsub2, hS2, hm⟩
          refine WP.sub hsub2 (WP.weaken hS2 ?_)
          replace hm := (congrFun hk3 l4).symm.trans hm
          refine WP.seq (WP.region ?_)
          refine wq rfl rfl rfl (ov_assign rfl rfl) ?_
          refine WL.nil (then_normal (WP.ret ?_))
          refine retQ_ret (v := (.int .i64 0)) Tryz.results56 (Res.tmp rfl Res.nil) rfl (fun w' s => ⟨_, ?_, s⟩)
          refine ⟨fun w' s => (s.select [2, 3] (by decide) rfl), ?_⟩
          refine tq (i := 8) rfl (by kernel_rfl) rfl rfl rfl (ov_assign rfl rfl) ?_
          refine AL.done (by kernel_rfl) ?_
          refine then_normal ?_
          exact ⟨0, p_m.cycles, l4, ao6, cap6, xs3, rl5, (Sub.cons rfl (Sub.cons rfl (Sub.cons rfl (Sub.cons rfl (Sub.nil _))))), fun w' s => (s.select [0, 1, 2] (by decide) rfl), hm⟩
       exact ALs.nil
      ·
       replace hm := ite_f hc7 hm
       rcases Bool.eq_false_or_eq_true (p_x.kind == 1) with hc9 | hc9
       ·
        replace hm := ite_t hc9 hm
        refine tq (i := 3) rfl (by kernel_rfl) rfl rfl rfl (ov_index_at (j := 1) (cs := [(mkS [112, 97, 114, 116]), (.bool true), (.bool false), (.func (.func 56) #[] #[]), (mkS [99, 121, 99, 108, 101, 115]), (.bool true), (.bool true), (.func (.func 57) #[] #[]), (mkS [102, 97, 117, 108, 116]), (.bool false), (.bool false), (.func (.func 58) #[] #[]), (mkS [114, 101, 112, 97, 105, 114]), (.bool false), (.bool false), (.func (.func 59) #[] #[]), (mkS [114, 101, 112, 108, 97, 99, 101]), (.bool true), (.bool false), (.func (.func 60) #[] #[]), (mkS [114, 101, 109, 111, 118, 101]), (.bool false), (.bool false), (.func (.func 61) #[] #[])]) (r := (.agg #[(mkS [99, 121, 99, 108, 101, 115]), (.bool true), (.bool true), (.func (.func 57) #[] #[])])) (eq_of_beq hc9) rfl rfl rfl (fun _ => by kernel_rfl)) ?_
        refine tq (i := 4) rfl (by kernel_rfl) rfl rfl rfl (ov_field (cs := [(mkS [99, 121, 99, 108, 101, 115]), (.bool true), (.bool true), (.func (.func 57) #[] #[])]) (r := (.func (.func 57) #[] #[])) rfl rfl (fun _ => by kernel_rfl)) ?_
        refine AL.any (rs := [7]) (by kernel_rfl) (by decide) ?_
        refine ALs.cons (i := 7) rfl (Runs.free rfl) rfl rfl ?_ ?_
        ·
         skip
         refine os_inline (cap := []) (vs := [(pB b5 0), (.int .i64 r1.1), (.agg #[(.int .i64 p_x.kind), (mkS p_x.name), (.int .i64 p_x.count), (.int .i64 p_x.strokes)])]) Tryz.call57 rfl rfl rfl Tryz.func57 rfl 66 Tryz.ntmps57 rfl (fun w' s => ?_)
         refine WP.seq (WP.region ?_)
         refine WL.step (Runs.free rfl) rfl rfl (os_box (cs := [(.int .i64 p_x.kind), (mkS p_x.name), (.int .i64 p_x.count), (.int .i64 p_x.strokes)]) rfl rfl rfl (fun b11 => ?_))
         refine wq rfl rfl rfl (ov_assign rfl rfl) ?_
         refine WL.nil (then_normal (WP.seq (WP.region ?_)))
         refine wq rfl rfl rfl (ov_move rfl rfl) ?_
         refine wq rfl rfl rfl (ov_nilCheckB rfl rfl) ?_
         refine wq rfl rfl rfl (ov_fieldAddr Tryz.underlying35 rfl rfl rfl Tryz.sizeOf33 rfl rfl) ?_
         refine wq rfl rfl rfl (ov_load_box (i := 2) Tryz.isAgg33 rfl rfl rfl rfl) ?_
         refine wq rfl rfl rfl (ov_move rfl rfl) ?_
         obtain ⟨x1, e4, hm⟩ := bind_some hm
         obtain ⟨h3, h4, h5, cs1, h6, h7⟩ := RL.get rl2 e4
         obtain rfl : cs1 = [(mkS x1.name), (.int .i64 x1.life), (.int .i64 x1.used), (.int .i64 x1.faults), (.bool x1.faulty), (.int .i64 x1.since), (.int .i64 x1.cycles)] := h6
         refine wq rfl rfl rfl (ov_indexAddr_own (i := 3) Tryz.underlying33 Tryz.sizeOf68 rfl rfl rfl rfl h3 h4) ?_
         refine wq rfl rfl rfl (ov_assign rfl rfl) ?_
         refine WL.nil (then_normal (WP.seq ?_))
         refine WP.region_draws (by kernel_rfl) (by kernel_rfl) (fun _ s => s.drew) ?_
         refine QL.quiet (Runs.free rfl) rfl rfl (OV.quiet (ov_move rfl rfl)) ?_
         refine QL.quiet (Runs.free rfl) rfl rfl (OV.quiet (ov_nilCheckE rfl rfl)) ?_
         refine QL.quiet (Runs.free rfl) rfl rfl (OV.quiet (ov_fieldAddrE Tryz.underlying68 rfl rfl rfl Tryz.sizeOf3 rfl rfl)) ?_
         refine QL.quiet (Runs.free rfl) rfl rfl (OV.quiet (ov_load_own (i := 3) Tryz.isAgg3 rfl rfl rfl (own_pos h3 h4) (elem_cell h7 (off := 2) rfl))) ?_
         refine QL.quiet (Runs.free rfl) rfl rfl (OV.quiet (ov_fieldAddr Tryz.underlying39 rfl rfl rfl Tryz.sizeOf3 rfl rfl)) ?_
         refine QL.quiet (Runs.free rfl) rfl rfl (OV.quiet (ov_load_box (i := 0) Tryz.isAgg3 rfl rfl rfl rfl)) ?_
         refine QL.quiet (Runs.free rfl) rfl rfl (OV.quiet (ov_fieldAddr Tryz.underlying39 rfl rfl rfl Tryz.sizeOf3 rfl rfl)) ?_
         refine QL.quiet (Runs.free rfl) rfl rfl (OV.quiet (ov_load_box (i := 0) Tryz.isAgg3 rfl rfl rfl rfl)) ?_
         refine QL.quiet (Runs.free rfl) rfl rfl (OV.quiet (ov_mul rfl rfl rfl)) ?_
         refine QL.quiet (Runs.free rfl) rfl rfl (OV.quiet (ov_add rfl rfl rfl)) ?_
         refine QL.quiet (Runs.free rfl) rfl rfl (OV.quiet (ov_assign rfl rfl)) ?_
         refine QL.nil ?_
         refine then_normal (WP.seq (WP.block (WP.seq (WP.region ?_))))
         refine wq rfl rfl rfl (ov_move rfl rfl) ?_
         refine wq rfl rfl rfl (ov_nilCheckE rfl rfl) ?_
         refine wq rfl rfl rfl (ov_fieldAddrE Tryz.underlying68 rfl rfl rfl Tryz.sizeOf4 rfl rfl) ?_
         refine wq rfl rfl rfl (ov_load_own (i := 3) Tryz.isAgg4 rfl rfl rfl (own_pos h3 h4) (elem_cell h7 (off := 4) rfl)) ?_
         refine wq rfl rfl rfl (ov_assign rfl rfl) ?_
         refine WL.nil (then_normal ?_)
         refine WP.cond rfl (fun hc10 => ?_) (fun hc10 => ?_)
         ·
          replace hm := ite_t hc10 hm
          refine WP.seq (WP.region ?_)
          refine wq rfl rfl rfl (ov_assign rfl rfl) ?_
          refine WL.nil (then_normal (WP.ret (block_ret (then_ret ?_))))
          refine retQ_ret (v := (.int .i64 14)) Tryz.results57 (Res.tmp rfl Res.nil) rfl (fun w' s => ⟨_, ?_, s⟩)
          refine ⟨fun w' s => (s.select [4, 5] (by decide) rfl), ?_⟩
          refine tq (i := 8) rfl (by kernel_rfl) rfl rfl rfl (ov_assign rfl rfl) ?_
          refine AL.done (by kernel_rfl) ?_
          refine then_normal ?_
          exact ⟨14, p_m.cycles, l2, ao4, cap4, xs2, rl2, (Sub.cons rfl (Sub.cons rfl (Sub.cons rfl (Sub.cons rfl (Sub.nil _))))), fun w' s => (s.select [2, 3, 4] (by decide) rfl), hm⟩
         ·
          replace hm := ite_f hc10 hm
          refine WP.seq ?_
          refine WP.region_draws (by kernel_rfl) (by kernel_rfl) (fun _ s => s.drew) ?_
          refine QL.quiet (Runs.free rfl) rfl rfl (OV.quiet (ov_move rfl rfl)) ?_
          refine QL.quiet (Runs.free rfl) rfl rfl (OV.quiet (ov_nilCheckB rfl rfl)) ?_
          refine QL.quiet (Runs.free rfl) rfl rfl (OV.quiet (ov_fieldAddr Tryz.underlying35 rfl rfl rfl Tryz.sizeOf3 rfl rfl)) ?_
          refine QL.quiet (Runs.free rfl) rfl rfl (OV.quiet (ov_load_box (i := 2) Tryz.isAgg3 rfl rfl rfl rfl)) ?_
          refine QL.quiet (Runs.free rfl) rfl rfl (OV.quiet (ov_fieldAddr Tryz.underlying39 rfl rfl rfl Tryz.sizeOf3 rfl rfl)) ?_
          refine QL.quiet (Runs.free rfl) rfl rfl (OV.quiet (ov_load_box (i := 0) Tryz.isAgg3 rfl rfl rfl rfl)) ?_
          refine QL.quiet (Runs.free rfl) rfl rfl (OV.quiet (ov_add rfl rfl rfl)) ?_
          refine QL.quiet (Runs.free rfl) rfl rfl (OV.quiet (ov_gtr rfl rfl rfl)) ?_
          refine QL.quiet (Runs.free rfl) rfl rfl (OV.quiet (ov_move rfl rfl)) ?_
          refine QL.part_bool 3 42 (x := ((decide ((IntKind.wrap .i64 (p_m.cycles + p_x.count)) > 1048576)) || (decide ((IntKind.wrap .i64 (x1.used + (IntKind.wrap .i64 (p_x.count * p_x.strokes)))) > 1048576)))) ?_ ?_
          ·
           rcases Bool.eq_false_or_eq_true (decide ((IntKind.wrap .i64 (p_m.cycles + p_x.count)) > 1048576)) with hc11 | hc11
           ·
            skip
            refine QL.idle (Idle.no rfl rfl rfl hc11) rfl rfl ?_
            refine QL.idle (Idle.no rfl rfl rfl hc11) rfl rfl ?_
            refine QL.quiet (Runs.free rfl) rfl rfl (OV.quiet (ov_pick_true rfl (guard_eq rfl hc11) rfl)) ?_
            exact QL.nil (Sub.cons' rfl (congrArg Value.bool (orT hc11)) (Sub.skip rfl (Sub.skip rfl (Sub.skip rfl (Sub.refl _)))))
           ·
            skip
            refine QL.quiet (Runs.yes rfl rfl rfl hc11) rfl rfl (OV.quiet (ov_move rfl rfl)) ?_
            refine QL.quiet (Runs.yes rfl rfl rfl hc11) rfl rfl (OV.quiet (ov_gtr rfl rfl rfl)) ?_
            refine QL.quiet (Runs.free rfl) rfl rfl (OV.quiet (ov_pick_false rfl (guard_eq rfl hc11) rfl)) ?_
            exact QL.nil (Sub.cons' rfl (congrArg Value.bool (orF hc11)) (Sub.skip rfl (Sub.skip rfl (Sub.skip rfl (Sub.refl _)))))
          refine QL.quiet (Runs.free rfl) rfl rfl (OV.quiet (ov_assign rfl rfl)) ?_
          refine QL.nil ?_
          refine then_normal ?_
          refine WP.cond rfl (fun hc12 => ?_) (fun hc12 => ?_)
          ·
           replace hm := ite_t hc12 hm
           refine WP.seq (WP.region ?_)
           refine wq rfl rfl rfl (ov_assign rfl rfl) ?_
           refine WL.nil (then_normal (WP.ret (block_ret (then_ret ?_))))
           refine retQ_ret (v := (.int .i64 11)) Tryz.results57 (Res.tmp rfl Res.nil) rfl (fun w' s => ⟨_, ?_, s⟩)
           refine ⟨fun w' s => (s.select [4, 5] (by decide) rfl), ?_⟩
           refine tq (i := 8) rfl (by kernel_rfl) rfl rfl rfl (ov_assign rfl rfl) ?_
           refine AL.done (by kernel_rfl) ?_
           refine then_normal ?_
           exact ⟨11, p_m.cycles, l2, ao4, cap4, xs2, rl2, (Sub.cons rfl (Sub.cons rfl (Sub.cons rfl (Sub.cons rfl (Sub.nil _))))), fun w' s => (s.select [2, 3, 4] (by decide) rfl), hm⟩
          ·
           replace hm := ite_f hc12 hm
           refine WP.skip (block_normal (then_normal (WP.seq ?_)))
           refine WP.region_any (S₀ := St w H [.blk b11 39 [(.int .i64 p_x.kind), (mkS p_x.name), (.int .i64 p_x.count), (.int .i64 p_x.strokes)], .blk b6 101 [(mkS [112, 97, 114, 116]), (.bool true), (.bool false), (.func (.func 56) #[] #[]), (mkS [99, 121, 99, 108, 101, 115]), (.bool true), (.bool true), (.func (.func 57) #[] #[]), (mkS [102, 97, 117, 108, 116]), (.bool false), (.bool false), (.func (.func 58) #[] #[]), (mkS [114, 101, 112, 97, 105, 114]), (.bool false), (.bool false), (.func (.func 59) #[] #[]), (mkS [114, 101, 112, 108, 97, 99, 101]), (.bool true), (.bool false), (.func (.func 60) #[] #[]), (mkS [114, 101, 109, 111, 118, 101]), (.bool false), (.bool false), (.func (.func 61) #[] #[])], .row 68 (encItem).size l2.length (.slice ao4 l2.length cap4) xs2, .blk b3 35 [(.slice none 0 0), (.int .i64 0)], .blk b2 39 [(.int .i64 p_x.kind), (mkS p_x.name), (.int .i64 p_x.count), (.int .i64 p_x.strokes)]] H) 10 rfl (by kernel_rfl) (fun w' s => (s.select [0, 1, 3, 4, 5] (by decide) rfl)) (fun _ s => s.drew) ?_
           refine tq (i := 0) rfl (by kernel_rfl) rfl rfl rfl (ov_move rfl rfl) ?_
           refine tq (i := 1) rfl (by kernel_rfl) rfl rfl rfl (ov_nilCheckB rfl rfl) ?_
           refine tq (i := 2) rfl (by kernel_rfl) rfl rfl rfl (ov_fieldAddr Tryz.underlying35 rfl rfl rfl Tryz.sizeOf3 rfl rfl) ?_
           refine tq (i := 4) rfl (by kernel_rfl) rfl rfl rfl (ov_fieldAddr Tryz.underlying39 rfl rfl rfl Tryz.sizeOf3 rfl rfl) ?_
           refine tq (i := 5) rfl (by kernel_rfl) rfl rfl rfl (ov_load_box (i := 0) Tryz.isAgg3 rfl rfl rfl rfl) ?_
           refine AL.any (rs := [3]) (by kernel_rfl) (by decide) ?_
           refine ALs.cons (i := 3) rfl (Runs.free rfl) rfl rfl ?_ ?_
           ·
            skip
            refine OQ.step (OV.quiet (ov_load_box (i := 2) Tryz.isAgg3 rfl rfl rfl rfl)) ?_
            refine ⟨fun w' s => (s.select [0, 1, 3, 4, 5] (by decide) rfl), ?_⟩
            refine tq (i := 6) rfl (by kernel_rfl) rfl rfl rfl (ov_add rfl rfl rfl) ?_
            refine tq (i := 7) rfl (by kernel_rfl) rfl rfl rfl (ov_nilCheckB rfl rfl) ?_
            refine tq (i := 8) rfl (by kernel_rfl) rfl rfl rfl (ov_fieldAddr Tryz.underlying35 rfl rfl rfl Tryz.sizeOf3 rfl rfl) ?_
            refine AL.any (rs := [9]) (by kernel_rfl) (by decide) ?_
            refine ALs.cons0 (i := 9) rfl (Runs.free rfl) rfl ?_ ?_
            ·
             skip
             refine os_store (i := 2) (vs := [(.int .i64 (IntKind.wrap .i64 (p_m.cycles + p_x.count)))]) (cs' := [(.slice ao4 l2.length cap4), (.int .i64 (IntKind.wrap .i64 (p_m.cycles + p_x.count)))]) Tryz.sizeOf3 rfl rfl rfl rfl rfl rfl rfl rfl rfl ?_
             refine ⟨fun w' s => (s.select [0, 1, 3, 4, 5] (by decide) rfl), ?_⟩
             refine AL.done (by kernel_rfl) ?_
             refine then_normal (WP.seq ?_)
             refine WP.region_any (S₀ := St w H [.blk b11 39 [(.int .i64 p_x.kind), (mkS p_x.name), (.int .i64 p_x.count), (.int .i64 p_x.strokes)], .blk b6 101 [(mkS [112, 97, 114, 116]), (.bool true), (.bool false), (.func (.func 56) #[] #[]), (mkS [99, 121, 99, 108, 101, 115]), (.bool true), (.bool true), (.func (.func 57) #[] #[]), (mkS [102, 97, 117, 108, 116]), (.bool false), (.bool false), (.func (.func 58) #[] #[]), (mkS [114, 101, 112, 97, 105, 114]), (.bool false), (.bool false), (.func (.func 59) #[] #[]), (mkS [114, 101, 112, 108, 97, 99, 101]), (.bool true), (.bool false), (.func (.func 60) #[] #[]), (mkS [114, 101, 109, 111, 118, 101]), (.bool false), (.bool false), (.func (.func 61) #[] #[])], .blk b3 35 [(.slice none 0 0), (.int .i64 0)], .blk b2 39 [(.int .i64 p_x.kind), (mkS p_x.name), (.int .i64 p_x.count), (.int .i64 p_x.strokes)]] H) 16 rfl (by kernel_rfl) (fun w' s => (s.select [0, 1, 4, 5] (by decide) rfl)) (fun _ s => s.drew) ?_
             refine tq (i := 0) rfl (by kernel_rfl) rfl rfl rfl (ov_move rfl rfl) ?_
             refine tq (i := 1) rfl (by kernel_rfl) rfl rfl rfl (ov_move rfl rfl) ?_
             refine tq (i := 2) rfl (by kernel_rfl) rfl rfl rfl (ov_move rfl rfl) ?_
             refine tq (i := 3) rfl (by kernel_rfl) rfl rfl rfl (ov_nilCheckE rfl rfl) ?_
             refine tq (i := 4) rfl (by kernel_rfl) rfl rfl rfl (ov_fieldAddrE Tryz.underlying68 rfl rfl rfl Tryz.sizeOf3 rfl rfl) ?_
             refine tq (i := 6) rfl (by kernel_rfl) rfl rfl rfl (ov_fieldAddr Tryz.underlying39 rfl rfl rfl Tryz.sizeOf3 rfl rfl) ?_
             refine tq (i := 7) rfl (by kernel_rfl) rfl rfl rfl (ov_load_box (i := 0) Tryz.isAgg3 rfl rfl rfl rfl) ?_
             refine tq (i := 9) rfl (by kernel_rfl) rfl rfl rfl (ov_move rfl rfl) ?_
             refine AL.any (rs := [5]) (by kernel_rfl) (by decide) ?_
             refine ALs.cons (i := 5) rfl (Runs.free rfl) rfl rfl ?_ ?_
             ·
              skip
              refine OQ.step (OV.quiet (ov_load_own (i := 3) Tryz.isAgg3 rfl rfl rfl (own_pos h3 h4) (elem_cell h7 (off := 6) rfl))) ?_
              refine ⟨fun w' s => (s.select [0, 1, 4, 5] (by decide) rfl), ?_⟩
              refine tq (i := 8) rfl (by kernel_rfl) rfl rfl rfl (ov_add rfl rfl rfl) ?_
              refine tq (i := 10) rfl (by kernel_rfl) rfl rfl rfl (ov_nilCheckE rfl rfl) ?_
              refine tq (i := 11) rfl (by kernel_rfl) rfl rfl rfl (ov_fieldAddrE Tryz.underlying68 rfl rfl rfl Tryz.sizeOf3 rfl rfl) ?_
              refine AL.any (rs := [12]) (by kernel_rfl) (by decide) ?_
              refine ALs.cons0 (i := 12) rfl (Runs.free rfl) rfl ?_ ?_
              ·
               skip
               have rl6 := RL.set rl2 (y := (Item.mk x1.name x1.life x1.used x1.faults x1.faulty x1.since (IntKind.wrap .i64 (x1.cycles + p_x.count)))) (off := 6) (vs := [(.int .i64 (IntKind.wrap .i64 (x1.cycles + p_x.count)))]) e4 h7 rfl (Nat.le_of_ble_eq_true rfl)
               have e5 := at?_set (y := (Item.mk x1.name x1.life x1.used x1.faults x1.faulty x1.since (IntKind.wrap .i64 (x1.cycles + p_x.count)))) e4
               refine os_store_own (i := 3) (vs := [(.int .i64 (IntKind.wrap .i64 (x1.cycles + p_x.count)))]) Tryz.sizeOf3 rfl rfl rfl rfl (own_pos h3 h4) rfl rfl (elem_le (off := 6) h5 (Nat.le_of_ble_eq_true rfl)) rfl ?_
               rw [show l2.length = (List.set l2 (Int.toNat r1.1) (Item.mk x1.name x1.life x1.used x1.faults x1.faulty x1.since (IntKind.wrap .i64 (x1.cycles + p_x.count)))).length from List.length_set.symm]
               obtain ⟨h8, h9, h10, cs2, h11, h12⟩ := rl6.get e5
               obtain rfl : cs2 = [(mkS x1.name), (.int .i64 x1.life), (.int .i64 x1.used), (.int .i64 x1.faults), (.bool x1.faulty), (.int .i64 x1.since), (.int .i64 (IntKind.wrap .i64 (x1.cycles + p_x.count)))] := h11
               refine ⟨fun w' s => (s.select [0, 1, 4, 5] (by decide) rfl), ?_⟩
               refine tq (i := 13) rfl (by kernel_rfl) rfl rfl rfl (ov_nilCheckE rfl rfl) ?_
               refine tq (i := 14) rfl (by kernel_rfl) rfl rfl rfl (ov_fieldAddrE Tryz.underlying68 rfl rfl rfl Tryz.sizeOf3 rfl rfl) ?_
               refine AL.any (rs := [15]) (by kernel_rfl) (by decide) ?_
               refine ALs.cons0 (i := 15) rfl (Runs.free rfl) rfl ?_ ?_
               ·
                skip
                have rl7 := RL.set rl6 (y := (Item.mk x1.name x1.life (IntKind.wrap .i64 (x1.used + (IntKind.wrap .i64 (p_x.count * p_x.strokes)))) x1.faults x1.faulty x1.since (IntKind.wrap .i64 (x1.cycles + p_x.count)))) (off := 2) (vs := [(.int .i64 (IntKind.wrap .i64 (x1.used + (IntKind.wrap .i64 (p_x.count * p_x.strokes)))))]) e5 h12 rfl (Nat.le_of_ble_eq_true rfl)
                have e6 := at?_set (y := (Item.mk x1.name x1.life (IntKind.wrap .i64 (x1.used + (IntKind.wrap .i64 (p_x.count * p_x.strokes)))) x1.faults x1.faulty x1.since (IntKind.wrap .i64 (x1.cycles + p_x.count)))) e5
                refine os_store_own (i := 3) (vs := [(.int .i64 (IntKind.wrap .i64 (x1.used + (IntKind.wrap .i64 (p_x.count * p_x.strokes)))))]) Tryz.sizeOf3 rfl rfl rfl rfl (own_pos h8 h9) rfl rfl (elem_le (off := 2) h10 (Nat.le_of_ble_eq_true rfl)) rfl ?_
                rw [show (List.set l2 (Int.toNat r1.1) (Item.mk x1.name x1.life x1.used x1.faults x1.faulty x1.since (IntKind.wrap .i64 (x1.cycles + p_x.count)))).length = (List.set (List.set l2 (Int.toNat r1.1) (Item.mk x1.name x1.life x1.used x1.faults x1.faulty x1.since (IntKind.wrap .i64 (x1.cycles + p_x.count)))) (Int.toNat r1.1) (Item.mk x1.name x1.life (IntKind.wrap .i64 (x1.used + (IntKind.wrap .i64 (p_x.count * p_x.strokes)))) x1.faults x1.faulty x1.since (IntKind.wrap .i64 (x1.cycles + p_x.count)))).length from List.length_set.symm]
                obtain ⟨h13, h14, h15, cs3, h16, h17⟩ := rl7.get e6
                obtain rfl : cs3 = [(mkS x1.name), (.int .i64 x1.life), (.int .i64 (IntKind.wrap .i64 (x1.used + (IntKind.wrap .i64 (p_x.count * p_x.strokes))))), (.int .i64 x1.faults), (.bool x1.faulty), (.int .i64 x1.since), (.int .i64 (IntKind.wrap .i64 (x1.cycles + p_x.count)))] := h16
                refine ⟨fun w' s => (s.select [0, 1, 4, 5] (by decide) rfl), ?_⟩
                refine AL.done (by kernel_rfl) ?_
                refine then_normal (WP.seq (WP.region ?_))
                refine wq rfl rfl rfl (ov_assign rfl rfl) ?_
                refine WL.nil (then_normal (WP.ret ?_))
                refine retQ_ret (v := (.int .i64 0)) Tryz.results57 (Res.tmp rfl Res.nil) rfl (fun w' s => ⟨_, ?_, s⟩)
                refine ⟨fun w' s => (s.select [4, 5] (by decide) rfl), ?_⟩
                refine tq (i := 8) rfl (by kernel_rfl) rfl rfl rfl (ov_assign rfl rfl) ?_
                refine AL.done (by kernel_rfl) ?_
                refine then_normal ?_
                exact ⟨0, (IntKind.wrap .i64 (p_m.cycles + p_x.count)), (List.set (List.set l2 (Int.toNat r1.1) (Item.mk x1.name x1.life x1.used x1.faults x1.faulty x1.since (IntKind.wrap .i64 (x1.cycles + p_x.count)))) (Int.toNat r1.1) (Item.mk x1.name x1.life (IntKind.wrap .i64 (x1.used + (IntKind.wrap .i64 (p_x.count * p_x.strokes)))) x1.faults x1.faulty x1.since (IntKind.wrap .i64 (x1.cycles + p_x.count)))), ao4, cap4, (spl (spl xs2 (Int.toNat r1.1 * encItem.size + 6) [(.int .i64 (IntKind.wrap .i64 (x1.cycles + p_x.count)))]) (Int.toNat r1.1 * encItem.size + 2) [(.int .i64 (IntKind.wrap .i64 (x1.used + (IntKind.wrap .i64 (p_x.count * p_x.strokes)))))]), rl7, (Sub.cons rfl (Sub.cons rfl (Sub.cons rfl (Sub.cons rfl (Sub.nil _))))), fun w' s => (s.select [2, 3, 4] (by decide) rfl), hm⟩
               exact ALs.nil
              exact ALs.nil
             exact ALs.nil
            exact ALs.nil
           exact ALs.nil
        exact ALs.nil
       ·
        replace hm := ite_f hc9 hm
        rcases Bool.eq_false_or_eq_true (p_x.kind == 2) with hc13 | hc13
        ·
         replace hm := ite_t hc13 hm
         refine tq (i := 3) rfl (by kernel_rfl) rfl rfl rfl (ov_index_at (j := 2) (cs := [(mkS [112, 97, 114, 116]), (.bool true), (.bool false), (.func (.func 56) #[] #[]), (mkS [99, 121, 99, 108, 101, 115]), (.bool true), (.bool true), (.func (.func 57) #[] #[]), (mkS [102, 97, 117, 108, 116]), (.bool false), (.bool false), (.func (.func 58) #[] #[]), (mkS [114, 101, 112, 97, 105, 114]), (.bool false), (.bool false), (.func (.func 59) #[] #[]), (mkS [114, 101, 112, 108, 97, 99, 101]), (.bool true), (.bool false), (.func (.func 60) #[] #[]), (mkS [114, 101, 109, 111, 118, 101]), (.bool false), (.bool false), (.func (.func 61) #[] #[])]) (r := (.agg #[(mkS [102, 97, 117, 108, 116]), (.bool false), (.bool false), (.func (.func 58) #[] #[])])) (eq_of_beq hc13) rfl rfl rfl (fun _ => by kernel_rfl)) ?_
         refine tq (i := 4) rfl (by kernel_rfl) rfl rfl rfl (ov_field (cs := [(mkS [102, 97, 117, 108, 116]), (.bool false), (.bool false), (.func (.func 58) #[] #[])]) (r := (.func (.func 58) #[] #[])) rfl rfl (fun _ => by kernel_rfl)) ?_
         refine AL.any (rs := [7]) (by kernel_rfl) (by decide) ?_
         refine ALs.cons (i := 7) rfl (Runs.free rfl) rfl rfl ?_ ?_
         ·
          skip
          refine os_inline (cap := []) (vs := [(pB b5 0), (.int .i64 r1.1), (.agg #[(.int .i64 p_x.kind), (mkS p_x.name), (.int .i64 p_x.count), (.int .i64 p_x.strokes)])]) Tryz.call58 rfl rfl rfl Tryz.func58 rfl 35 Tryz.ntmps58 rfl (fun w' s => ?_)
          refine WP.seq (WP.region ?_)
          refine WL.step (Runs.free rfl) rfl rfl (os_box (cs := [(.int .i64 p_x.kind), (mkS p_x.name), (.int .i64 p_x.count), (.int .i64 p_x.strokes)]) rfl rfl rfl (fun b12 => ?_))
          refine wq rfl rfl rfl (ov_assign rfl rfl) ?_
          refine WL.nil (then_normal (WP.seq (WP.region ?_)))
          refine wq rfl rfl rfl (ov_move rfl rfl) ?_
          refine wq rfl rfl rfl (ov_nilCheckB rfl rfl) ?_
          refine wq rfl rfl rfl (ov_fieldAddr Tryz.underlying35 rfl rfl rfl Tryz.sizeOf33 rfl rfl) ?_
          refine wq rfl rfl rfl (ov_load_box (i := 2) Tryz.isAgg33 rfl rfl rfl rfl) ?_
          refine wq rfl rfl rfl (ov_move rfl rfl) ?_
          obtain ⟨x2, e7, hm⟩ := bind_some hm
          obtain ⟨h18, h19, h20, cs4, h21, h22⟩ := RL.get rl2 e7
          obtain rfl : cs4 = [(mkS x2.name), (.int .i64 x2.life), (.int .i64 x2.used), (.int .i64 x2.faults), (.bool x2.faulty), (.int .i64 x2.since), (.int .i64 x2.cycles)] := h21
          refine wq rfl rfl rfl (ov_indexAddr_own (i := 3) Tryz.underlying33 Tryz.sizeOf68 rfl rfl rfl rfl h18 h19) ?_
          refine wq rfl rfl rfl (ov_assign rfl rfl) ?_
          refine WL.nil (then_normal (WP.seq (WP.block (WP.seq (WP.region ?_)))))
          refine wq rfl rfl rfl (ov_move rfl rfl) ?_
          refine wq rfl rfl rfl (ov_nilCheckE rfl rfl) ?_
          refine wq rfl rfl rfl (ov_fieldAddrE Tryz.underlying68 rfl rfl rfl Tryz.sizeOf4 rfl rfl) ?_
          refine wq rfl rfl rfl (ov_load_own (i := 3) Tryz.isAgg4 rfl rfl rfl (own_pos h18 h19) (elem_cell h22 (off := 4) rfl)) ?_
          refine wq rfl rfl rfl (ov_assign rfl rfl) ?_
          refine WL.nil (then_normal ?_)
          refine WP.cond rfl (fun hc14 => ?_) (fun hc14 => ?_)
          ·
           replace hm := ite_t hc14 hm
           refine WP.seq (WP.region ?_)
           refine wq rfl rfl rfl (ov_assign rfl rfl) ?_
           refine WL.nil (then_normal (WP.ret (block_ret (then_ret ?_))))
           refine retQ_ret (v := (.int .i64 14)) Tryz.results58 (Res.tmp rfl Res.nil) rfl (fun w' s => ⟨_, ?_, s⟩)
           refine ⟨fun w' s => (s.select [4, 5] (by decide) rfl), ?_⟩
           refine tq (i := 8) rfl (by kernel_rfl) rfl rfl rfl (ov_assign rfl rfl) ?_
           refine AL.done (by kernel_rfl) ?_
           refine then_normal ?_
           exact ⟨14, p_m.cycles, l2, ao4, cap4, xs2, rl2, (Sub.cons rfl (Sub.cons rfl (Sub.cons rfl (Sub.cons rfl (Sub.nil _))))), fun w' s => (s.select [2, 3, 4] (by decide) rfl), hm⟩
          ·
           replace hm := ite_f hc14 hm
           refine WP.seq (WP.region ?_)
           refine wq rfl rfl rfl (ov_move rfl rfl) ?_
           refine wq rfl rfl rfl (ov_nilCheckE rfl rfl) ?_
           refine wq rfl rfl rfl (ov_fieldAddrE Tryz.underlying68 rfl rfl rfl Tryz.sizeOf3 rfl rfl) ?_
           refine wq rfl rfl rfl (ov_load_own (i := 3) Tryz.isAgg3 rfl rfl rfl (own_pos h18 h19) (elem_cell h22 (off := 3) rfl)) ?_
           refine wq rfl rfl rfl (ov_eql rfl rfl rfl) ?_
           refine wq rfl rfl rfl (ov_assign rfl rfl) ?_
           refine WL.nil (then_normal ?_)
           refine WP.cond rfl (fun hc15 => ?_) (fun hc15 => ?_)
           ·
            replace hm := ite_t hc15 hm
            refine WP.seq (WP.region ?_)
            refine wq rfl rfl rfl (ov_assign rfl rfl) ?_
            refine WL.nil (then_normal (WP.ret (block_ret (then_ret ?_))))
            refine retQ_ret (v := (.int .i64 5)) Tryz.results58 (Res.tmp rfl Res.nil) rfl (fun w' s => ⟨_, ?_, s⟩)
            refine ⟨fun w' s => (s.select [4, 5] (by decide) rfl), ?_⟩
            refine tq (i := 8) rfl (by kernel_rfl) rfl rfl rfl (ov_assign rfl rfl) ?_
            refine AL.done (by kernel_rfl) ?_
            refine then_normal ?_
            exact ⟨5, p_m.cycles, l2, ao4, cap4, xs2, rl2, (Sub.cons rfl (Sub.cons rfl (Sub.cons rfl (Sub.cons rfl (Sub.nil _))))), fun w' s => (s.select [2, 3, 4] (by decide) rfl), hm⟩
           ·
            replace hm := ite_f hc15 hm
            refine WP.skip (block_normal (then_normal (WP.seq (WP.region ?_))))
            refine wq rfl rfl rfl (ov_move rfl rfl) ?_
            refine wq rfl rfl rfl (ov_nilCheckE rfl rfl) ?_
            refine wq rfl rfl rfl (ov_fieldAddrE Tryz.underlying68 rfl rfl rfl Tryz.sizeOf4 rfl rfl) ?_
            have rl8 := RL.set rl2 (y := (Item.mk x2.name x2.life x2.used x2.faults true x2.since x2.cycles)) (off := 4) (vs := [(.bool true)]) e7 h22 rfl (Nat.le_of_ble_eq_true rfl)
            have e8 := at?_set (y := (Item.mk x2.name x2.life x2.used x2.faults true x2.since x2.cycles)) e7
            refine WL.step0 (Runs.free rfl) rfl (os_store_own (i := 3) (vs := [(.bool true)]) Tryz.sizeOf4 rfl rfl rfl rfl (own_pos h18 h19) rfl rfl (elem_le (off := 4) h20 (Nat.le_of_ble_eq_true rfl)) rfl ?_)
            rw [show l2.length = (List.set l2 (Int.toNat r1.1) (Item.mk x2.name x2.life x2.used x2.faults true x2.since x2.cycles)).length from List.length_set.symm]
            obtain ⟨h23, h24, h25, cs5, h26, h27⟩ := rl8.get e8
            obtain rfl : cs5 = [(mkS x2.name), (.int .i64 x2.life), (.int .i64 x2.used), (.int .i64 x2.faults), (.bool true), (.int .i64 x2.since), (.int .i64 x2.cycles)] := h26
            refine WL.nil (then_normal (WP.seq (WP.region ?_)))
            refine wq rfl rfl rfl (ov_move rfl rfl) ?_
            refine wq rfl rfl rfl (ov_nilCheckE rfl rfl) ?_
            refine wq rfl rfl rfl (ov_fieldAddrE Tryz.underlying68 rfl rfl rfl Tryz.sizeOf3 rfl rfl) ?_
            refine wq rfl rfl rfl (ov_load_own (i := 3) Tryz.isAgg3 rfl rfl rfl (own_pos h23 h24) (elem_cell h27 (off := 3) rfl)) ?_
            refine wq rfl rfl rfl (ov_add rfl rfl rfl) ?_
            refine wq rfl rfl rfl (ov_nilCheckE rfl rfl) ?_
            refine wq rfl rfl rfl (ov_fieldAddrE Tryz.underlying68 rfl rfl rfl Tryz.sizeOf3 rfl rfl) ?_
            have rl9 := RL.set rl8 (y := (Item.mk x2.name x2.life x2.used (IntKind.wrap .i64 (x2.faults + 1)) true x2.since x2.cycles)) (off := 3) (vs := [(.int .i64 (IntKind.wrap .i64 (x2.faults + 1)))]) e8 h27 rfl (Nat.le_of_ble_eq_true rfl)
            have e9 := at?_set (y := (Item.mk x2.name x2.life x2.used (IntKind.wrap .i64 (x2.faults + 1)) true x2.since x2.cycles)) e8
            refine WL.step0 (Runs.free rfl) rfl (os_store_own (i := 3) (vs := [(.int .i64 (IntKind.wrap .i64 (x2.faults + 1)))]) Tryz.sizeOf3 rfl rfl rfl rfl (own_pos h23 h24) rfl rfl (elem_le (off := 3) h25 (Nat.le_of_ble_eq_true rfl)) rfl ?_)
            rw [show (List.set l2 (Int.toNat r1.1) (Item.mk x2.name x2.life x2.used x2.faults true x2.since x2.cycles)).length = (List.set (List.set l2 (Int.toNat r1.1) (Item.mk x2.name x2.life x2.used x2.faults true x2.since x2.cycles)) (Int.toNat r1.1) (Item.mk x2.name x2.life x2.used (IntKind.wrap .i64 (x2.faults + 1)) true x2.since x2.cycles)).length from List.length_set.symm]
            obtain ⟨h28, h29, h30, cs6, h31, h32⟩ := rl9.get e9
            obtain rfl : cs6 = [(mkS x2.name), (.int .i64 x2.life), (.int .i64 x2.used), (.int .i64 (IntKind.wrap .i64 (x2.faults + 1))), (.bool true), (.int .i64 x2.since), (.int .i64 x2.cycles)] := h31
            refine WL.nil (then_normal (WP.seq (WP.region ?_)))
            refine wq rfl rfl rfl (ov_assign rfl rfl) ?_
            refine WL.nil (then_normal (WP.ret ?_))
            refine retQ_ret (v := (.int .i64 0)) Tryz.results58 (Res.tmp rfl Res.nil) rfl (fun w' s => ⟨_, ?_, s⟩)
            refine ⟨fun w' s => (s.select [4, 5] (by decide) rfl), ?_⟩
            refine tq (i := 8) rfl (by kernel_rfl) rfl rfl rfl (ov_assign rfl rfl) ?_
            refine AL.done (by kernel_rfl) ?_
            refine then_normal ?_
            exact ⟨0, p_m.cycles, (List.set (List.set l2 (Int.toNat r1.1) (Item.mk x2.name x2.life x2.used x2.faults true x2.since x2.cycles)) (Int.toNat r1.1) (Item.mk x2.name x2.life x2.used (IntKind.wrap .i64 (x2.faults + 1)) true x2.since x2.cycles)), ao4, cap4, (spl (spl xs2 (Int.toNat r1.1 * encItem.size + 4) [(.bool true)]) (Int.toNat r1.1 * encItem.size + 3) [(.int .i64 (IntKind.wrap .i64 (x2.faults + 1)))]), rl9, (Sub.cons rfl (Sub.cons rfl (Sub.cons rfl (Sub.cons rfl (Sub.nil _))))), fun w' s => (s.select [2, 3, 4] (by decide) rfl), hm⟩
         exact ALs.nil
        ·
         replace hm := ite_f hc13 hm
         rcases Bool.eq_false_or_eq_true (p_x.kind == 3) with hc16 | hc16
         ·
          replace hm := ite_t hc16 hm
          refine tq (i := 3) rfl (by kernel_rfl) rfl rfl rfl (ov_index_at (j := 3) (cs := [(mkS [112, 97, 114, 116]), (.bool true), (.bool false), (.func (.func 56) #[] #[]), (mkS [99, 121, 99, 108, 101, 115]), (.bool true), (.bool true), (.func (.func 57) #[] #[]), (mkS [102, 97, 117, 108, 116]), (.bool false), (.bool false), (.func (.func 58) #[] #[]), (mkS [114, 101, 112, 97, 105, 114]), (.bool false), (.bool false), (.func (.func 59) #[] #[]), (mkS [114, 101, 112, 108, 97, 99, 101]), (.bool true), (.bool false), (.func (.func 60) #[] #[]), (mkS [114, 101, 109, 111, 118, 101]), (.bool false), (.bool false), (.func (.func 61) #[] #[])]) (r := (.agg #[(mkS [114, 101, 112, 97, 105, 114]), (.bool false), (.bool false), (.func (.func 59) #[] #[])])) (eq_of_beq hc16) rfl rfl rfl (fun _ => by kernel_rfl)) ?_
          refine tq (i := 4) rfl (by kernel_rfl) rfl rfl rfl (ov_field (cs := [(mkS [114, 101, 112, 97, 105, 114]), (.bool false), (.bool false), (.func (.func 59) #[] #[])]) (r := (.func (.func 59) #[] #[])) rfl rfl (fun _ => by kernel_rfl)) ?_
          refine AL.any (rs := [7]) (by kernel_rfl) (by decide) ?_
          refine ALs.cons (i := 7) rfl (Runs.free rfl) rfl rfl ?_ ?_
          ·
           skip
           refine os_inline (cap := []) (vs := [(pB b5 0), (.int .i64 r1.1), (.agg #[(.int .i64 p_x.kind), (mkS p_x.name), (.int .i64 p_x.count), (.int .i64 p_x.strokes)])]) Tryz.call59 rfl rfl rfl Tryz.func59 rfl 23 Tryz.ntmps59 rfl (fun w' s => ?_)
           refine WP.seq (WP.region ?_)
           refine WL.step (Runs.free rfl) rfl rfl (os_box (cs := [(.int .i64 p_x.kind), (mkS p_x.name), (.int .i64 p_x.count), (.int .i64 p_x.strokes)]) rfl rfl rfl (fun b13 => ?_))
           refine wq rfl rfl rfl (ov_assign rfl rfl) ?_
           refine WL.nil (then_normal (WP.seq (WP.seq (WP.region ?_))))
           refine wq rfl rfl rfl (ov_move rfl rfl) ?_
           refine wq rfl rfl rfl (ov_nilCheckB rfl rfl) ?_
           refine wq rfl rfl rfl (ov_fieldAddr Tryz.underlying35 rfl rfl rfl Tryz.sizeOf33 rfl rfl) ?_
           refine wq rfl rfl rfl (ov_load_box (i := 2) Tryz.isAgg33 rfl rfl rfl rfl) ?_
           refine wq rfl rfl rfl (ov_move rfl rfl) ?_
           obtain ⟨x3, e10, hm⟩ := bind_some hm
           obtain ⟨h33, h34, h35, cs7, h36, h37⟩ := RL.get rl2 e10
           obtain rfl : cs7 = [(mkS x3.name), (.int .i64 x3.life), (.int .i64 x3.used), (.int .i64 x3.faults), (.bool x3.faulty), (.int .i64 x3.since), (.int .i64 x3.cycles)] := h36
           refine wq rfl rfl rfl (ov_indexAddr_own (i := 3) Tryz.underlying33 Tryz.sizeOf68 rfl rfl rfl rfl h33 h34) ?_
           refine wq rfl rfl rfl (ov_fieldAddrE Tryz.underlying68 rfl rfl rfl Tryz.sizeOf4 rfl rfl) ?_
           refine wq rfl rfl rfl (ov_load_own (i := 3) Tryz.isAgg4 rfl rfl rfl (own_pos h33 h34) (elem_cell h37 (off := 4) rfl)) ?_
           refine wq rfl rfl rfl (ov_not rfl rfl) ?_
           refine WL.nil (then_normal ?_)
           refine WP.cond rfl (fun hc17 => ?_) (fun hc17 => ?_)
           ·
            replace hm := ite_t hc17 hm
            refine WP.seq (WP.region ?_)
            refine wq rfl rfl rfl (ov_assign rfl rfl) ?_
            refine WL.nil (then_normal (WP.ret (then_ret ?_)))
            refine retQ_ret (v := (.int .i64 14)) Tryz.results59 (Res.tmp rfl Res.nil) rfl (fun w' s => ⟨_, ?_, s⟩)
            refine ⟨fun w' s => (s.select [4, 5] (by decide) rfl), ?_⟩
            refine tq (i := 8) rfl (by kernel_rfl) rfl rfl rfl (ov_assign rfl rfl) ?_
            refine AL.done (by kernel_rfl) ?_
            refine then_normal ?_
            exact ⟨14, p_m.cycles, l2, ao4, cap4, xs2, rl2, (Sub.cons rfl (Sub.cons rfl (Sub.cons rfl (Sub.cons rfl (Sub.nil _))))), fun w' s => (s.select [2, 3, 4] (by decide) rfl), hm⟩
           ·
            replace hm := ite_f hc17 hm
            refine WP.skip (then_normal (WP.seq (WP.region ?_)))
            refine wq rfl rfl rfl (ov_move rfl rfl) ?_
            refine wq rfl rfl rfl (ov_nilCheckB rfl rfl) ?_
            refine wq rfl rfl rfl (ov_fieldAddr Tryz.underlying35 rfl rfl rfl Tryz.sizeOf33 rfl rfl) ?_
            refine wq rfl rfl rfl (ov_load_box (i := 2) Tryz.isAgg33 rfl rfl rfl rfl) ?_
            refine wq rfl rfl rfl (ov_move rfl rfl) ?_
            refine wq rfl rfl rfl (ov_indexAddr_own (i := 3) Tryz.underlying33 Tryz.sizeOf68 rfl rfl rfl rfl h33 h34) ?_
            refine wq rfl rfl rfl (ov_fieldAddrE Tryz.underlying68 rfl rfl rfl Tryz.sizeOf4 rfl rfl) ?_
            have rl10 := RL.set rl2 (y := (Item.mk x3.name x3.life x3.used x3.faults false x3.since x3.cycles)) (off := 4) (vs := [(.bool false)]) e10 h37 rfl (Nat.le_of_ble_eq_true rfl)
            have e11 := at?_set (y := (Item.mk x3.name x3.life x3.used x3.faults false x3.since x3.cycles)) e10
            refine WL.step0 (Runs.free rfl) rfl (os_store_own (i := 3) (vs := [(.bool false)]) Tryz.sizeOf4 rfl rfl rfl rfl (own_pos h33 h34) rfl rfl (elem_le (off := 4) h35 (Nat.le_of_ble_eq_true rfl)) rfl ?_)
            rw [show l2.length = (List.set l2 (Int.toNat r1.1) (Item.mk x3.name x3.life x3.used x3.faults false x3.since x3.cycles)).length from List.length_set.symm]
            obtain ⟨h38, h39, h40, cs8, h41, h42⟩ := rl10.get e11
            obtain rfl : cs8 = [(mkS x3.name), (.int .i64 x3.life), (.int .i64 x3.used), (.int .i64 x3.faults), (.bool false), (.int .i64 x3.since), (.int .i64 x3.cycles)] := h41
            refine WL.nil (then_normal (WP.seq (WP.region ?_)))
            refine wq rfl rfl rfl (ov_assign rfl rfl) ?_
            refine WL.nil (then_normal (WP.ret ?_))
            refine retQ_ret (v := (.int .i64 0)) Tryz.results59 (Res.tmp rfl Res.nil) rfl (fun w' s => ⟨_, ?_, s⟩)
            refine ⟨fun w' s => (s.select [4, 5] (by decide) rfl), ?_⟩
            refine tq (i := 8) rfl (by kernel_rfl) rfl rfl rfl (ov_assign rfl rfl) ?_
            refine AL.done (by kernel_rfl) ?_
            refine then_normal ?_
            exact ⟨0, p_m.cycles, (List.set l2 (Int.toNat r1.1) (Item.mk x3.name x3.life x3.used x3.faults false x3.since x3.cycles)), ao4, cap4, (spl xs2 (Int.toNat r1.1 * encItem.size + 4) [(.bool false)]), rl10, (Sub.cons rfl (Sub.cons rfl (Sub.cons rfl (Sub.cons rfl (Sub.nil _))))), fun w' s => (s.select [2, 3, 4] (by decide) rfl), hm⟩
          exact ALs.nil
         ·
          replace hm := ite_f hc16 hm
          rcases Bool.eq_false_or_eq_true (p_x.kind == 4) with hc18 | hc18
          ·
           replace hm := ite_t hc18 hm
           refine tq (i := 3) rfl (by kernel_rfl) rfl rfl rfl (ov_index_at (j := 4) (cs := [(mkS [112, 97, 114, 116]), (.bool true), (.bool false), (.func (.func 56) #[] #[]), (mkS [99, 121, 99, 108, 101, 115]), (.bool true), (.bool true), (.func (.func 57) #[] #[]), (mkS [102, 97, 117, 108, 116]), (.bool false), (.bool false), (.func (.func 58) #[] #[]), (mkS [114, 101, 112, 97, 105, 114]), (.bool false), (.bool false), (.func (.func 59) #[] #[]), (mkS [114, 101, 112, 108, 97, 99, 101]), (.bool true), (.bool false), (.func (.func 60) #[] #[]), (mkS [114, 101, 109, 111, 118, 101]), (.bool false), (.bool false), (.func (.func 61) #[] #[])]) (r := (.agg #[(mkS [114, 101, 112, 108, 97, 99, 101]), (.bool true), (.bool false), (.func (.func 60) #[] #[])])) (eq_of_beq hc18) rfl rfl rfl (fun _ => by kernel_rfl)) ?_
           refine tq (i := 4) rfl (by kernel_rfl) rfl rfl rfl (ov_field (cs := [(mkS [114, 101, 112, 108, 97, 99, 101]), (.bool true), (.bool false), (.func (.func 60) #[] #[])]) (r := (.func (.func 60) #[] #[])) rfl rfl (fun _ => by kernel_rfl)) ?_
           refine AL.any (rs := [7]) (by kernel_rfl) (by decide) ?_
           refine ALs.cons (i := 7) rfl (Runs.free rfl) rfl rfl ?_ ?_
           ·
            skip
            refine os_inline (cap := []) (vs := [(pB b5 0), (.int .i64 r1.1), (.agg #[(.int .i64 p_x.kind), (mkS p_x.name), (.int .i64 p_x.count), (.int .i64 p_x.strokes)])]) Tryz.call60 rfl rfl rfl Tryz.func60 rfl 16 Tryz.ntmps60 rfl (fun w' s => ?_)
            refine WP.seq (WP.region ?_)
            refine WL.step (Runs.free rfl) rfl rfl (os_box (cs := [(.int .i64 p_x.kind), (mkS p_x.name), (.int .i64 p_x.count), (.int .i64 p_x.strokes)]) rfl rfl rfl (fun b14 => ?_))
            refine wq rfl rfl rfl (ov_assign rfl rfl) ?_
            refine WL.nil (then_normal ?_)
            obtain ⟨k4, hk4, hm⟩ := joinK_some hm
            refine WP.seq_join (fun g' S' => ∃ (l5 : (List Item)) (ao7 : Option Addr) (cap7 : Nat) (xs4 : List Value), RL H encItem l5 xs4 ∧ Sub [(1000000007, (.bool false))] g' ∧ (∀ w', S' w' → St w H [.blk b5 35 [(.slice ao7 l5.length cap7), (.int .i64 p_m.cycles)], .row 68 (encItem).size l5.length (.slice ao7 l5.length cap7) xs4, .blk b3 35 [(.slice none 0 0), (.int .i64 0)], .blk b2 39 [(.int .i64 p_x.kind), (mkS p_x.name), (.int .i64 p_x.count), (.int .i64 p_x.strokes)]] H w') ∧ k4 l5 = some r) ?_ ?_
            ·
             skip
             refine WP.region_any (S₀ := St w H [.blk b14 39 [(.int .i64 p_x.kind), (mkS p_x.name), (.int .i64 p_x.count), (.int .i64 p_x.strokes)], .blk b6 101 [(mkS [112, 97, 114, 116]), (.bool true), (.bool false), (.func (.func 56) #[] #[]), (mkS [99, 121, 99, 108, 101, 115]), (.bool true), (.bool true), (.func (.func 57) #[] #[]), (mkS [102, 97, 117, 108, 116]), (.bool false), (.bool false), (.func (.func 58) #[] #[]), (mkS [114, 101, 112, 97, 105, 114]), (.bool false), (.bool false), (.func (.func 59) #[] #[]), (mkS [114, 101, 112, 108, 97, 99, 101]), (.bool true), (.bool false), (.func (.func 60) #[] #[]), (mkS [114, 101, 109, 111, 118, 101]), (.bool false), (.bool false), (.func (.func 61) #[] #[])], .blk b3 35 [(.slice none 0 0), (.int .i64 0)], .blk b2 39 [(.int .i64 p_x.kind), (mkS p_x.name), (.int .i64 p_x.count), (.int .i64 p_x.strokes)]] H) 10 rfl (by kernel_rfl) (fun w' s => (s.select [0, 1, 4, 5] (by decide) rfl)) (fun _ s => s.drew) ?_
             refine tq (i := 0) rfl (by kernel_rfl) rfl rfl rfl (ov_move rfl rfl) ?_
             refine tq (i := 1) rfl (by kernel_rfl) rfl rfl rfl (ov_nilCheckB rfl rfl) ?_
             refine tq (i := 2) rfl (by kernel_rfl) rfl rfl rfl (ov_fieldAddr Tryz.underlying35 rfl rfl rfl Tryz.sizeOf33 rfl rfl) ?_
             refine tq (i := 4) rfl (by kernel_rfl) rfl rfl rfl (ov_move rfl rfl) ?_
             refine tq (i := 5) rfl (by kernel_rfl) rfl rfl rfl (ov_move rfl rfl) ?_
             refine tq (i := 6) rfl (by kernel_rfl) rfl rfl rfl (ov_load_whole (i := 0) Tryz.isAgg39 Tryz.sizeOf39 rfl rfl rfl rfl) ?_
             refine AL.any (rs := [3, 7]) (by kernel_rfl) (by decide) ?_
             refine ALs.cons (i := 3) rfl (Runs.free rfl) rfl rfl ?_ ?_
             ·
              skip
              refine OQ.step (OV.quiet (ov_load_box (i := 2) Tryz.isAgg33 rfl rfl rfl rfl)) ?_
              refine ⟨fun w' s => (s.select [0, 1, 4, 5] (by decide) rfl), ?_⟩
              refine AL.any (rs := [7]) (by kernel_rfl) (by decide) ?_
              refine ALs.cons (i := 7) rfl (Runs.free rfl) rfl rfl ?_ ?_
              ·
               skip
               refine os_inline (cap := []) (vs := [(pB b5 0), (.agg #[(.int .i64 p_x.kind), (mkS p_x.name), (.int .i64 p_x.count), (.int .i64 p_x.strokes)])]) Tryz.call72 rfl rfl rfl Tryz.func72 rfl 14 Tryz.ntmps72 rfl (fun w' s => ?_)
               refine WP.seq (WP.region ?_)
               refine WL.step (Runs.free rfl) rfl rfl (os_box (cs := [(.int .i64 p_x.kind), (mkS p_x.name), (.int .i64 p_x.count), (.int .i64 p_x.strokes)]) rfl rfl rfl (fun b15 => ?_))
               refine WL.step (Runs.free rfl) rfl rfl (os_alloc (cs := [(mkS []), (.int .i64 0), (.int .i64 0), (.int .i64 0), (.bool false), (.int .i64 0), (.int .i64 0)]) Tryz.zeroValue68 rfl rfl (fun b16 => ?_))
               refine WL.nil (then_normal (WP.seq ?_))
               refine WP.region_any (S₀ := St w H [.blk b15 39 [(.int .i64 p_x.kind), (mkS p_x.name), (.int .i64 p_x.count), (.int .i64 p_x.strokes)], .blk b14 39 [(.int .i64 p_x.kind), (mkS p_x.name), (.int .i64 p_x.count), (.int .i64 p_x.strokes)], .blk b6 101 [(mkS [112, 97, 114, 116]), (.bool true), (.bool false), (.func (.func 56) #[] #[]), (mkS [99, 121, 99, 108, 101, 115]), (.bool true), (.bool true), (.func (.func 57) #[] #[]), (mkS [102, 97, 117, 108, 116]), (.bool false), (.bool false), (.func (.func 58) #[] #[]), (mkS [114, 101, 112, 97, 105, 114]), (.bool false), (.bool false), (.func (.func 59) #[] #[]), (mkS [114, 101, 112, 108, 97, 99, 101]), (.bool true), (.bool false), (.func (.func 60) #[] #[]), (mkS [114, 101, 109, 111, 118, 101]), (.bool false), (.bool false), (.func (.func 61) #[] #[])], .blk b5 35 [(.slice ao4 l2.length cap4), (.int .i64 p_m.cycles)], .row 68 (encItem).size l2.length (.slice ao4 l2.length cap4) xs2, .blk b3 35 [(.slice none 0 0), (.int .i64 0)], .blk b2 39 [(.int .i64 p_x.kind), (mkS p_x.name), (.int .i64 p_x.count), (.int .i64 p_x.strokes)]] H) 10 rfl (by kernel_rfl) (fun w' s => (s.select [1, 2, 3, 4, 5, 6, 7] (by decide) rfl)) (fun _ s => s.drew) ?_
               refine tq (i := 0) rfl (by kernel_rfl) rfl rfl rfl (ov_fieldAddr Tryz.underlying39 rfl rfl rfl Tryz.sizeOf9 rfl rfl) ?_
               refine tq (i := 1) rfl (by kernel_rfl) rfl rfl rfl (ov_load_box (i := 0) Tryz.isAgg9 rfl rfl rfl rfl) ?_
               refine tq (i := 2) rfl (by kernel_rfl) rfl rfl rfl (ov_fieldAddr Tryz.underlying39 rfl rfl rfl Tryz.sizeOf3 rfl rfl) ?_
               refine tq (i := 3) rfl (by kernel_rfl) rfl rfl rfl (ov_load_box (i := 0) Tryz.isAgg3 rfl rfl rfl rfl) ?_
               refine tq (i := 4) rfl (by kernel_rfl) rfl rfl rfl (ov_move rfl rfl) ?_
               refine tq (i := 5) rfl (by kernel_rfl) rfl rfl rfl (ov_nilCheckB rfl rfl) ?_
               refine tq (i := 6) rfl (by kernel_rfl) rfl rfl rfl (ov_fieldAddr Tryz.underlying35 rfl rfl rfl Tryz.sizeOf3 rfl rfl) ?_
               refine tq (i := 7) rfl (by kernel_rfl) rfl rfl rfl (ov_load_box (i := 3) Tryz.isAgg3 rfl rfl rfl rfl) ?_
               refine tq (i := 8) rfl (by kernel_rfl) rfl rfl rfl (ov_build (r := (.agg #[(mkS p_x.name), (.int .i64 p_x.count), (.int .i64 0), (.int .i64 0), (.bool false), (.int .i64 p_m.cycles), (.int .i64 0)])) rfl rfl (fun _ => by kernel_rfl)) ?_
               refine AL.any (rs := [9]) (by kernel_rfl) (by decide) ?_
               refine ALs.cons0 (i := 9) rfl (Runs.free rfl) rfl ?_ ?_
               ·
                skip
                refine os_store (i := 0) (vs := [(mkS p_x.name), (.int .i64 p_x.count), (.int .i64 0), (.int .i64 0), (.bool false), (.int .i64 p_m.cycles), (.int .i64 0)]) (cs' := [(mkS p_x.name), (.int .i64 p_x.count), (.int .i64 0), (.int .i64 0), (.bool false), (.int .i64 p_m.cycles), (.int .i64 0)]) Tryz.sizeOf68 rfl rfl rfl rfl rfl rfl rfl rfl rfl ?_
                refine ⟨fun w' s => (s.select [1, 2, 3, 4, 5, 6, 7] (by decide) rfl), ?_⟩
                refine AL.done (by kernel_rfl) ?_
                refine then_normal (WP.ret ?_)
                refine retQ_ret (v := (.agg #[(mkS p_x.name), (.int .i64 p_x.count), (.int .i64 0), (.int .i64 0), (.bool false), (.int .i64 p_m.cycles), (.int .i64 0)])) Tryz.results72 (Res.cell rfl (box_loads (i := 0) Tryz.isAgg68 Tryz.sizeOf68 rfl rfl) Res.nil) rfl (fun w' s => ⟨_, ?_, s⟩)
                refine ⟨fun w' s => (s.select [2, 3, 6, 7] (by decide) rfl), ?_⟩
                refine AL.any (rs := [8]) (by kernel_rfl) (by decide) ?_
                refine ALs.cons (i := 8) rfl (Runs.free rfl) rfl rfl ?_ ?_
                ·
                 skip
                 obtain ⟨x4, e12, hm⟩ := bind_some hm
                 obtain ⟨h43, h44, h45, cs9, h46, h47⟩ := RL.get rl2 e12
                 obtain rfl : cs9 = [(mkS x4.name), (.int .i64 x4.life), (.int .i64 x4.used), (.int .i64 x4.faults), (.bool x4.faulty), (.int .i64 x4.since), (.int .i64 x4.cycles)] := h46
                 refine OQ.step (OV.quiet (ov_indexAddr_own (i := 5) Tryz.underlying33 Tryz.sizeOf68 rfl rfl rfl rfl h43 h44)) ?_
                 refine ⟨fun w' s => (s.select [2, 3, 6, 7] (by decide) rfl), ?_⟩
                 refine AL.any (rs := [9]) (by kernel_rfl) (by decide) ?_
                 refine ALs.cons0 (i := 9) rfl (Runs.free rfl) rfl ?_ ?_
                 ·
                  skip
                  have rl11 := RL.set rl2 (y := (Item.mk p_x.name p_x.count 0 0 false p_m.cycles 0)) (off := 0) (vs := [(mkS p_x.name), (.int .i64 p_x.count), (.int .i64 0), (.int .i64 0), (.bool false), (.int .i64 p_m.cycles), (.int .i64 0)]) e12 h47 rfl (Nat.le_of_ble_eq_true rfl)
                  have e13 := at?_set (y := (Item.mk p_x.name p_x.count 0 0 false p_m.cycles 0)) e12
                  refine os_store_own (i := 5) (vs := [(mkS p_x.name), (.int .i64 p_x.count), (.int .i64 0), (.int .i64 0), (.bool false), (.int .i64 p_m.cycles), (.int .i64 0)]) Tryz.sizeOf68 rfl rfl rfl rfl (own_pos h43 h44) rfl rfl (elem_le (off := 0) h45 (Nat.le_of_ble_eq_true rfl)) rfl ?_
                  rw [show l2.length = (List.set l2 (Int.toNat r1.1) (Item.mk p_x.name p_x.count 0 0 false p_m.cycles 0)).length from List.length_set.symm]
                  obtain ⟨h48, h49, h50, cs10, h51, h52⟩ := rl11.get e13
                  obtain rfl : cs10 = [(mkS p_x.name), (.int .i64 p_x.count), (.int .i64 0), (.int .i64 0), (.bool false), (.int .i64 p_m.cycles), (.int .i64 0)] := h51
                  refine ⟨fun w' s => (s.select [2, 3, 6, 7] (by decide) rfl), ?_⟩
                  refine AL.done (by kernel_rfl) ?_
                  refine then_normal ?_
                  exact ⟨(List.set l2 (Int.toNat r1.1) (Item.mk p_x.name p_x.count 0 0 false p_m.cycles 0)), ao4, cap4, (spl xs2 (Int.toNat r1.1 * encItem.size + 0) [(mkS p_x.name), (.int .i64 p_x.count), (.int .i64 0), (.int .i64 0), (.bool false), (.int .i64 p_m.cycles), (.int .i64 0)]), rl11, (Sub.cons rfl (Sub.nil _)), fun w' s => (s.select [4, 5, 6, 7] (by decide) rfl), hm⟩
                 exact ALs.nil
                exact ALs.nil
               exact ALs.nil
              exact ALs.nil
             refine ALs.cons (i := 7) rfl (Runs.free rfl) rfl rfl ?_ ?_
             ·
              skip
              refine os_inline (cap := []) (vs := [(pB b5 0), (.agg #[(.int .i64 p_x.kind), (mkS p_x.name), (.int .i64 p_x.count), (.int .i64 p_x.strokes)])]) Tryz.call72 rfl rfl rfl Tryz.func72 rfl 14 Tryz.ntmps72 rfl (fun w' s => ?_)
              refine WP.seq (WP.region ?_)
              refine WL.step (Runs.free rfl) rfl rfl (os_box (cs := [(.int .i64 p_x.kind), (mkS p_x.name), (.int .i64 p_x.count), (.int .i64 p_x.strokes)]) rfl rfl rfl (fun b15 => ?_))
              refine WL.step (Runs.free rfl) rfl rfl (os_alloc (cs := [(mkS []), (.int .i64 0), (.int .i64 0), (.int .i64 0), (.bool false), (.int .i64 0), (.int .i64 0)]) Tryz.zeroValue68 rfl rfl (fun b16 => ?_))
              refine WL.nil (then_normal (WP.seq ?_))
              refine WP.region_any (S₀ := St w H [.blk b15 39 [(.int .i64 p_x.kind), (mkS p_x.name), (.int .i64 p_x.count), (.int .i64 p_x.strokes)], .blk b14 39 [(.int .i64 p_x.kind), (mkS p_x.name), (.int .i64 p_x.count), (.int .i64 p_x.strokes)], .blk b6 101 [(mkS [112, 97, 114, 116]), (.bool true), (.bool false), (.func (.func 56) #[] #[]), (mkS [99, 121, 99, 108, 101, 115]), (.bool true), (.bool true), (.func (.func 57) #[] #[]), (mkS [102, 97, 117, 108, 116]), (.bool false), (.bool false), (.func (.func 58) #[] #[]), (mkS [114, 101, 112, 97, 105, 114]), (.bool false), (.bool false), (.func (.func 59) #[] #[]), (mkS [114, 101, 112, 108, 97, 99, 101]), (.bool true), (.bool false), (.func (.func 60) #[] #[]), (mkS [114, 101, 109, 111, 118, 101]), (.bool false), (.bool false), (.func (.func 61) #[] #[])], .blk b5 35 [(.slice ao4 l2.length cap4), (.int .i64 p_m.cycles)], .row 68 (encItem).size l2.length (.slice ao4 l2.length cap4) xs2, .blk b3 35 [(.slice none 0 0), (.int .i64 0)], .blk b2 39 [(.int .i64 p_x.kind), (mkS p_x.name), (.int .i64 p_x.count), (.int .i64 p_x.strokes)]] H) 10 rfl (by kernel_rfl) (fun w' s => (s.select [1, 2, 3, 4, 5, 6, 7] (by decide) rfl)) (fun _ s => s.drew) ?_
              refine tq (i := 0) rfl (by kernel_rfl) rfl rfl rfl (ov_fieldAddr Tryz.underlying39 rfl rfl rfl Tryz.sizeOf9 rfl rfl) ?_
              refine tq (i := 1) rfl (by kernel_rfl) rfl rfl rfl (ov_load_box (i := 0) Tryz.isAgg9 rfl rfl rfl rfl) ?_
              refine tq (i := 2) rfl (by kernel_rfl) rfl rfl rfl (ov_fieldAddr Tryz.underlying39 rfl rfl rfl Tryz.sizeOf3 rfl rfl) ?_
              refine tq (i := 3) rfl (by kernel_rfl) rfl rfl rfl (ov_load_box (i := 0) Tryz.isAgg3 rfl rfl rfl rfl) ?_
              refine tq (i := 4) rfl (by kernel_rfl) rfl rfl rfl (ov_move rfl rfl) ?_
              refine tq (i := 5) rfl (by kernel_rfl) rfl rfl rfl (ov_nilCheckB rfl rfl) ?_
              refine tq (i := 6) rfl (by kernel_rfl) rfl rfl rfl (ov_fieldAddr Tryz.underlying35 rfl rfl rfl Tryz.sizeOf3 rfl rfl) ?_
              refine tq (i := 7) rfl (by kernel_rfl) rfl rfl rfl (ov_load_box (i := 3) Tryz.isAgg3 rfl rfl rfl rfl) ?_
              refine tq (i := 8) rfl (by kernel_rfl) rfl rfl rfl (ov_build (r := (.agg #[(mkS p_x.name), (.int .i64 p_x.count), (.int .i64 0), (.int .i64 0), (.bool false), (.int .i64 p_m.cycles), (.int .i64 0)])) rfl rfl (fun _ => by kernel_rfl)) ?_
              refine AL.any (rs := [9]) (by kernel_rfl) (by decide) ?_
              refine ALs.cons0 (i := 9) rfl (Runs.free rfl) rfl ?_ ?_
              ·
               skip
               refine os_store (i := 0) (vs := [(mkS p_x.name), (.int .i64 p_x.count), (.int .i64 0), (.int .i64 0), (.bool false), (.int .i64 p_m.cycles), (.int .i64 0)]) (cs' := [(mkS p_x.name), (.int .i64 p_x.count), (.int .i64 0), (.int .i64 0), (.bool false), (.int .i64 p_m.cycles), (.int .i64 0)]) Tryz.sizeOf68 rfl rfl rfl rfl rfl rfl rfl rfl rfl ?_
               refine ⟨fun w' s => (s.select [1, 2, 3, 4, 5, 6, 7] (by decide) rfl), ?_⟩
               refine AL.done (by kernel_rfl) ?_
               refine then_normal (WP.ret ?_)
               refine retQ_ret (v := (.agg #[(mkS p_x.name), (.int .i64 p_x.count), (.int .i64 0), (.int .i64 0), (.bool false), (.int .i64 p_m.cycles), (.int .i64 0)])) Tryz.results72 (Res.cell rfl (box_loads (i := 0) Tryz.isAgg68 Tryz.sizeOf68 rfl rfl) Res.nil) rfl (fun w' s => ⟨_, ?_, s⟩)
               refine ⟨fun w' s => (s.select [2, 3, 6, 7] (by decide) rfl), ?_⟩
               refine AL.any (rs := [3]) (by kernel_rfl) (by decide) ?_
               refine ALs.cons (i := 3) rfl (Runs.free rfl) rfl rfl ?_ ?_
               ·
                skip
                refine OQ.step (OV.quiet (ov_load_box (i := 4) Tryz.isAgg33 rfl rfl rfl rfl)) ?_
                refine ⟨fun w' s => (s.select [2, 3, 6, 7] (by decide) rfl), ?_⟩
                refine AL.any (rs := [8]) (by kernel_rfl) (by decide) ?_
                refine ALs.cons (i := 8) rfl (Runs.free rfl) rfl rfl ?_ ?_
                ·
                 skip
                 obtain ⟨x4, e12, hm⟩ := bind_some hm
                 obtain ⟨h43, h44, h45, cs9, h46, h47⟩ := RL.get rl2 e12
                 obtain rfl : cs9 = [(mkS x4.name), (.int .i64 x4.life), (.int .i64 x4.used), (.int .i64 x4.faults), (.bool x4.faulty), (.int .i64 x4.since), (.int .i64 x4.cycles)] := h46
                 refine OQ.step (OV.quiet (ov_indexAddr_own (i := 5) Tryz.underlying33 Tryz.sizeOf68 rfl rfl rfl rfl h43 h44)) ?_
                 refine ⟨fun w' s => (s.select [2, 3, 6, 7] (by decide) rfl), ?_⟩
                 refine AL.any (rs := [9]) (by kernel_rfl) (by decide) ?_
                 refine ALs.cons0 (i := 9) rfl (Runs.free rfl) rfl ?_ ?_
                 ·
                  skip
                  have rl11 := RL.set rl2 (y := (Item.mk p_x.name p_x.count 0 0 false p_m.cycles 0)) (off := 0) (vs := [(mkS p_x.name), (.int .i64 p_x.count), (.int .i64 0), (.int .i64 0), (.bool false), (.int .i64 p_m.cycles), (.int .i64 0)]) e12 h47 rfl (Nat.le_of_ble_eq_true rfl)
                  have e13 := at?_set (y := (Item.mk p_x.name p_x.count 0 0 false p_m.cycles 0)) e12
                  refine os_store_own (i := 5) (vs := [(mkS p_x.name), (.int .i64 p_x.count), (.int .i64 0), (.int .i64 0), (.bool false), (.int .i64 p_m.cycles), (.int .i64 0)]) Tryz.sizeOf68 rfl rfl rfl rfl (own_pos h43 h44) rfl rfl (elem_le (off := 0) h45 (Nat.le_of_ble_eq_true rfl)) rfl ?_
                  rw [show l2.length = (List.set l2 (Int.toNat r1.1) (Item.mk p_x.name p_x.count 0 0 false p_m.cycles 0)).length from List.length_set.symm]
                  obtain ⟨h48, h49, h50, cs10, h51, h52⟩ := rl11.get e13
                  obtain rfl : cs10 = [(mkS p_x.name), (.int .i64 p_x.count), (.int .i64 0), (.int .i64 0), (.bool false), (.int .i64 p_m.cycles), (.int .i64 0)] := h51
                  refine ⟨fun w' s => (s.select [2, 3, 6, 7] (by decide) rfl), ?_⟩
                  refine AL.done (by kernel_rfl) ?_
                  refine then_normal ?_
                  exact ⟨(List.set l2 (Int.toNat r1.1) (Item.mk p_x.name p_x.count 0 0 false p_m.cycles 0)), ao4, cap4, (spl xs2 (Int.toNat r1.1 * encItem.size + 0) [(mkS p_x.name), (.int .i64 p_x.count), (.int .i64 0), (.int .i64 0), (.bool false), (.int .i64 p_m.cycles), (.int .i64 0)]), rl11, (Sub.cons rfl (Sub.nil _)), fun w' s => (s.select [4, 5, 6, 7] (by decide) rfl), hm⟩
                 exact ALs.nil
                exact ALs.nil
               exact ALs.nil
              exact ALs.nil
             exact ALs.nil
            ·
             rintro g' S' ⟨l5, ao7, cap7, xs4, rl12, hsub3, hS3, hm⟩
             refine WP.sub hsub3 (WP.weaken hS3 ?_)
             replace hm := (congrFun hk4 l5).symm.trans hm
             refine WP.seq (WP.region ?_)
             refine wq rfl rfl rfl (ov_assign rfl rfl) ?_
             refine WL.nil (then_normal (WP.ret ?_))
             refine retQ_ret (v := (.int .i64 0)) Tryz.results60 (Res.tmp rfl Res.nil) rfl (fun w' s => ⟨_, ?_, s⟩)
             refine ⟨fun w' s => (s.select [2, 3] (by decide) rfl), ?_⟩
             refine tq (i := 8) rfl (by kernel_rfl) rfl rfl rfl (ov_assign rfl rfl) ?_
             refine AL.done (by kernel_rfl) ?_
             refine then_normal ?_
             exact ⟨0, p_m.cycles, l5, ao7, cap7, xs4, rl12, (Sub.cons rfl (Sub.cons rfl (Sub.cons rfl (Sub.cons rfl (Sub.nil _))))), fun w' s => (s.select [0, 1, 2] (by decide) rfl), hm⟩
           exact ALs.nil
          ·
           replace hm := ite_f hc18 hm
           rcases Bool.eq_false_or_eq_true (p_x.kind == 5) with hc19 | hc19
           ·
            replace hm := ite_t hc19 hm
            refine tq (i := 3) rfl (by kernel_rfl) rfl rfl rfl (ov_index_at (j := 5) (cs := [(mkS [112, 97, 114, 116]), (.bool true), (.bool false), (.func (.func 56) #[] #[]), (mkS [99, 121, 99, 108, 101, 115]), (.bool true), (.bool true), (.func (.func 57) #[] #[]), (mkS [102, 97, 117, 108, 116]), (.bool false), (.bool false), (.func (.func 58) #[] #[]), (mkS [114, 101, 112, 97, 105, 114]), (.bool false), (.bool false), (.func (.func 59) #[] #[]), (mkS [114, 101, 112, 108, 97, 99, 101]), (.bool true), (.bool false), (.func (.func 60) #[] #[]), (mkS [114, 101, 109, 111, 118, 101]), (.bool false), (.bool false), (.func (.func 61) #[] #[])]) (r := (.agg #[(mkS [114, 101, 109, 111, 118, 101]), (.bool false), (.bool false), (.func (.func 61) #[] #[])])) (eq_of_beq hc19) rfl rfl rfl (fun _ => by kernel_rfl)) ?_
            refine tq (i := 4) rfl (by kernel_rfl) rfl rfl rfl (ov_field (cs := [(mkS [114, 101, 109, 111, 118, 101]), (.bool false), (.bool false), (.func (.func 61) #[] #[])]) (r := (.func (.func 61) #[] #[])) rfl rfl (fun _ => by kernel_rfl)) ?_
            refine AL.any (rs := [7]) (by kernel_rfl) (by decide) ?_
            refine ALs.cons (i := 7) rfl (Runs.free rfl) rfl rfl ?_ ?_
            ·
             skip
             refine os_inline (cap := []) (vs := [(pB b5 0), (.int .i64 r1.1), (.agg #[(.int .i64 p_x.kind), (mkS p_x.name), (.int .i64 p_x.count), (.int .i64 p_x.strokes)])]) Tryz.call61 rfl rfl rfl Tryz.func61 rfl 18 Tryz.ntmps61 rfl (fun w' s => ?_)
             refine WP.seq (WP.region ?_)
             refine WL.step (Runs.free rfl) rfl rfl (os_box (cs := [(.int .i64 p_x.kind), (mkS p_x.name), (.int .i64 p_x.count), (.int .i64 p_x.strokes)]) rfl rfl rfl (fun b17 => ?_))
             refine wq rfl rfl rfl (ov_assign rfl rfl) ?_
             refine WL.nil (then_normal (WP.seq (WP.region ?_)))
             refine wq rfl rfl rfl (ov_move rfl rfl) ?_
             refine wq rfl rfl rfl (ov_move rfl rfl) ?_
             refine wq rfl rfl rfl (ov_nilCheckB rfl rfl) ?_
             refine wq rfl rfl rfl (ov_fieldAddr Tryz.underlying35 rfl rfl rfl Tryz.sizeOf33 rfl rfl) ?_
             refine wq rfl rfl rfl (ov_load_box (i := 2) Tryz.isAgg33 rfl rfl rfl rfl) ?_
             refine wq rfl rfl rfl (ov_move rfl rfl) ?_
             refine wq rfl rfl rfl (ov_move rfl rfl) ?_
             refine wq rfl rfl rfl (ov_add rfl rfl rfl) ?_
             obtain ⟨l6, e14, hm⟩ := bind_some hm
             refine WL.step (Runs.free rfl) rfl rfl (os_delete (i := 3) rfl rfl rfl rfl rfl rl2 e14 (fun ao8 cap8 ys2 rl13 => ?_))
             refine wq rfl rfl rfl (ov_nilCheckB rfl rfl) ?_
             refine wq rfl rfl rfl (ov_fieldAddr Tryz.underlying35 rfl rfl rfl Tryz.sizeOf33 rfl rfl) ?_
             refine WL.step0 (Runs.free rfl) rfl (os_store (i := 2) (vs := [(.slice ao8 l6.length cap8)]) (cs' := [(.slice ao8 l6.length cap8), (.int .i64 p_m.cycles)]) Tryz.sizeOf33 rfl rfl rfl rfl rfl rfl rfl rfl rfl ?_)
             refine WL.nil (then_normal (WP.seq (WP.region ?_)))
             refine wq rfl rfl rfl (ov_assign rfl rfl) ?_
             refine WL.nil (then_normal (WP.ret ?_))
             refine retQ_ret (v := (.int .i64 0)) Tryz.results61 (Res.tmp rfl Res.nil) rfl (fun w' s => ⟨_, ?_, s⟩)
             refine ⟨fun w' s => (s.select [4, 5] (by decide) rfl), ?_⟩
             refine tq (i := 8) rfl (by kernel_rfl) rfl rfl rfl (ov_assign rfl rfl) ?_
             refine AL.done (by kernel_rfl) ?_
             refine then_normal ?_
             exact ⟨0, p_m.cycles, l6, ao8, cap8, ys2, rl13, (Sub.cons rfl (Sub.cons rfl (Sub.cons rfl (Sub.cons rfl (Sub.nil _))))), fun w' s => (s.select [2, 3, 4] (by decide) rfl), hm⟩
            exact ALs.nil
           ·
            replace hm := ite_f hc19 hm
            exact (none_some hm).elim
     exact ALs.nil
    ·
     rintro g' S' ⟨i1, i2, l7, ao9, cap9, xs5, rl14, hsub4, hS4, hm⟩
     refine WP.sub hsub4 (WP.weaken hS4 ?_)
     replace hm := (congrFun (congrFun (congrFun hk2 i1) i2) l7).symm.trans hm
     refine WP.seq (WP.region ?_)
     refine wq rfl rfl rfl (ov_move rfl rfl) ?_
     refine wq rfl rfl rfl (ov_neq rfl rfl rfl) ?_
     refine WL.nil (then_normal ?_)
     refine WP.cond rfl (fun hc20 => ?_) (fun hc20 => ?_)
     ·
      replace hm := ite_t hc20 hm
      refine WP.seq (WP.region ?_)
      refine wq rfl rfl rfl (ov_build (r := (.agg #[(.slice none 0 0), (.int .i64 0)])) rfl rfl (fun _ => by kernel_rfl)) ?_
      refine wq rfl rfl rfl (ov_move rfl rfl) ?_
      refine WL.step0 (Runs.free rfl) rfl (os_store (i := 2) (vs := [(.slice none 0 0), (.int .i64 0)]) (cs' := [(.slice none 0 0), (.int .i64 0)]) Tryz.sizeOf35 rfl rfl rfl rfl rfl rfl rfl rfl rfl ?_)
      refine wq rfl rfl rfl (ov_assign rfl rfl) ?_
      refine WL.nil (then_normal (WP.ret (then_ret ?_)))
      obtain rfl := Option.some.inj hm
      refine retQ_ret Tryz.results21 (Res.cell rfl (box_loads (i := 2) Tryz.isAgg35 Tryz.sizeOf35 rfl rfl) (Res.tmp rfl Res.nil)) rfl (fun w' s => ⟨s.below, ?_⟩)
      exact ⟨none, 0, rfl, SL.nil _ _ _, Nat.le_refl _⟩
     ·
      replace hm := ite_f hc20 hm
      refine WP.skip (then_normal (WP.seq (WP.region ?_)))
      refine wq rfl rfl rfl (ov_load_whole (i := 0) Tryz.isAgg35 Tryz.sizeOf35 rfl rfl rfl rfl) ?_
      refine WL.step0 (Runs.free rfl) rfl (os_store (i := 2) (vs := [(.slice ao9 l7.length cap9), (.int .i64 i2)]) (cs' := [(.slice ao9 l7.length cap9), (.int .i64 i2)]) Tryz.sizeOf35 rfl rfl rfl rfl rfl rfl rfl rfl rfl ?_)
      refine wq rfl rfl rfl (ov_assign rfl rfl) ?_
      refine WL.nil (then_normal (WP.ret ?_))
      obtain rfl := Option.some.inj hm
      refine retQ_ret Tryz.results21 (Res.cell rfl (box_loads (i := 2) Tryz.isAgg35 Tryz.sizeOf35 rfl rfl) (Res.tmp rfl Res.nil)) rfl (fun w' s => ⟨s.below, ?_⟩)
      obtain ⟨h53, hc21⟩ := s.ret_row (i := 1) rfl rl14
      exact ⟨ao9, cap9, rfl, h53, hc21⟩

theorem journal_Run_con (p_l : (List Entry)) (ao1 : Option Addr) (cap1 : Nat) (w : World) (H : Heap) (hH : Le H (hp w)) (h1 : SL H encEntry ao1 p_l) (hc1 : p_l.length ≤ cap1) (hG : Glob H) (r : (Machine × Int × Int)) (hm : journal_Run p_l = some r) :
  Con Tryz.prog 8 [(.slice ao1 p_l.length cap1)] w H (fun v H' => ∃ (ao2 : Option Addr) (cap2 : Nat), v = (.tuple #[(.agg #[(.slice ao2 r.1.items.length cap2), (.int .i64 r.1.cycles)]), (.int .i64 r.2.1), (.int .i64 r.2.2)]) ∧ SL H' encItem ao2 r.1.items ∧ r.1.items.length ≤ cap2) := by
 unfold journal_Run at hm
 refine con_of hH Tryz.func8 rfl 37 Tryz.ntmps8 rfl ?_
 refine WP.seq (WP.region ?_)
 refine WL.step (Runs.free rfl) rfl rfl (os_alloc (cs := [(.slice none 0 0), (.int .i64 0)]) Tryz.zeroValue35 rfl rfl (fun b1 => ?_))
 refine wq rfl rfl rfl (ov_assign rfl rfl) ?_
 refine wq rfl rfl rfl (ov_assign rfl rfl) ?_
 refine WL.nil (then_normal (WP.seq (WP.seq (WP.region ?_))))
 refine wq rfl rfl rfl (ov_move rfl rfl) ?_
 refine wq rfl rfl rfl (ov_len_slice Tryz.underlying40 rfl rfl) ?_
 refine wq rfl rfl rfl (ov_gtr rfl rfl rfl) ?_
 refine WL.nil (then_normal ?_)
 refine WP.cond rfl (fun hc3 => ?_) (fun hc3 => ?_)
 ·
  replace hm := ite_t hc3 hm
  refine WP.seq (WP.region ?_)
  refine wq rfl rfl rfl (ov_build (r := (.agg #[(.slice none 0 0), (.int .i64 0)])) rfl rfl (fun _ => by kernel_rfl)) ?_
  refine WL.step0 (Runs.free rfl) rfl (os_store (i := 0) (vs := [(.slice none 0 0), (.int .i64 0)]) (cs' := [(.slice none 0 0), (.int .i64 0)]) Tryz.sizeOf35 rfl rfl rfl rfl rfl rfl rfl rfl rfl ?_)
  refine wq rfl rfl rfl (ov_assign rfl rfl) ?_
  refine wq rfl rfl rfl (ov_assign rfl rfl) ?_
  refine WL.nil (then_normal (WP.ret (then_ret ?_)))
  obtain rfl := Option.some.inj hm
  refine retQ_ret Tryz.results8 (Res.cell rfl (box_loads (i := 0) Tryz.isAgg35 Tryz.sizeOf35 rfl rfl) (Res.tmp rfl (Res.tmp rfl Res.nil))) rfl (fun w' s => ⟨s.below, ?_⟩)
  exact ⟨none, 0, rfl, SL.nil _ _ _, Nat.le_refl _⟩
 ·
  replace hm := ite_f hc3 hm
  refine WP.skip (then_normal (WP.seq (WP.region ?_)))
  refine WL.step (Runs.free rfl) rfl rfl (os_alloc (cs := [(.slice none 0 0), (.int .i64 0)]) Tryz.zeroValue35 rfl rfl (fun b2 => ?_))
  refine WL.nil (then_normal ?_)
  obtain ⟨k1, hk1, hm⟩ := joinK_some hm
  refine WP.seq_join (fun g' S' => ∃ (H4 : Heap) (l3 : (List Item)) (ao6 : Option Addr) (cap6 : Nat) (i5 : Int), Le H H4 ∧ SL H4 encItem ao6 l3 ∧ l3.length ≤ cap6 ∧ Sub [(2, (pB b1 0)), (5, (pB b2 0)), (1000000007, (.bool false))] g' ∧ (∀ w', S' w' → St w H [.blk b2 35 [(.slice ao6 l3.length cap6), (.int .i64 i5)], .blk b1 35 [(.slice none 0 0), (.int .i64 0)]] H4 w') ∧ k1 l3 i5 = some r) ?_ ?_
  ·
   skip
   refine WP.seq (WP.region ?_)
   refine wq rfl rfl rfl (ov_move rfl rfl) ?_
   refine wq rfl rfl rfl (ov_len_slice Tryz.underlying40 rfl rfl) ?_
   refine wq rfl rfl rfl (ov_move rfl rfl) ?_
   refine WL.nil (then_normal (WP.block ?_))
   refine WP.loop (fun m1 g' S' => ∃ (H1 : Heap) (i1 : Int) (l1 : (List Item)) (ao3 : Option Addr) (cap3 : Nat) (i2 : Int), Le H H1 ∧ SL H1 encItem ao3 l1 ∧ l1.length ≤ cap3 ∧ Sub [(2, (pB b1 0)), (5, (pB b2 0)), (13, (.slice ao1 p_l.length cap1)), (14, (.int .i64 (p_l.length : Int))), (15, (.int .i64 i1)), (1000000007, (.bool false))] g' ∧ (∀ w', S' w' → St w H [.blk b2 35 [(.slice ao3 l1.length cap3), (.int .i64 i2)], .blk b1 35 [(.slice none 0 0), (.int .i64 0)]] H1 w') ∧ journal_Run_loop1 p_l k1 m1 i1 l1 i2 = some r) ((Int.toNat ((p_l.length : Int) - 0) + 1)) ⟨H, 0, [], none, 0, 0, (Le.refl _), (SL.nil _ _ _), (Nat.le_refl _), (Sub.cons rfl (Sub.cons rfl (Sub.cons rfl (Sub.cons rfl (Sub.cons rfl (Sub.cons rfl (Sub.nil _))))))), fun w' s => s, hm⟩ ?_ ?_
   ·
    rintro g' S' ⟨_, _, _, _, _, _, _, _, _, _, _, hm⟩
    exact none_some hm
   ·
    rintro m1 g' S' ⟨H1, i1, l1, ao3, cap3, i2, hle1, h3, hc4, hsub1, hS1, hm⟩
    refine WP.sub hsub1 (WP.weaken hS1 ?_)
    rw [journal_Run_loop1] at hm
    replace h1 := h1.mono hle1
    replace hG := hG.mono hle1
    refine WP.seq (WP.region ?_)
    refine wq rfl rfl rfl (ov_lss rfl rfl rfl) ?_
    refine WL.nil (then_normal (WP.seq ?_))
    refine WP.cond rfl (fun hc5 => ?_) (fun hc5 => ?_)
    ·
     replace hm := ite_t hc5 hm
     refine WP.skip (then_normal (WP.seq (WP.block (WP.seq (WP.region ?_)))))
     refine wq rfl rfl rfl (ov_move rfl rfl) ?_
     obtain ⟨x1, e1, hm⟩ := bind_some hm
     obtain ⟨h4, h5, h6, cs1, h7, h8⟩ := h1.get e1 (by decide)
     obtain rfl : cs1 = [(.int .i64 x1.kind), (mkS x1.name), (.int .i64 x1.count), (.int .i64 x1.strokes)] := h7
     refine wq rfl rfl rfl (ov_indexAddr Tryz.underlying40 Tryz.sizeOf39 rfl rfl rfl h4 h5 h6) ?_
     refine wq rfl rfl rfl (ov_load_elems (vs := [(.int .i64 x1.kind), (mkS x1.name), (.int .i64 x1.count), (.int .i64 x1.strokes)]) Tryz.isAgg39 Tryz.sizeOf39 rfl rfl rfl h8 h6) ?_
     refine WL.step (Runs.free rfl) rfl rfl (os_alloc (cs := [(.int .i64 0), (mkS []), (.int .i64 0), (.int .i64 0)]) Tryz.zeroValue39 rfl rfl (fun b3 => ?_))
     refine wq rfl rfl rfl (ov_assign rfl rfl) ?_
     refine WL.step0 (Runs.free rfl) rfl (os_store (i := 0) (vs := [(.int .i64 x1.kind), (mkS x1.name), (.int .i64 x1.count), (.int .i64 x1.strokes)]) (cs' := [(.int .i64 x1.kind), (mkS x1.name), (.int .i64 x1.count), (.int .i64 x1.strokes)]) Tryz.sizeOf39 rfl rfl rfl rfl rfl rfl rfl rfl rfl ?_)
     refine WL.nil (then_normal (WP.seq (WP.region ?_)))
     refine wq rfl rfl rfl (ov_load_whole (i := 0) Tryz.isAgg39 Tryz.sizeOf39 rfl rfl rfl rfl) ?_
     obtain ⟨r1, e2, hm⟩ := bind_some hm
     refine WL.quiet (Runs.free rfl) rfl rfl (oq_con (r := (.int .i64 r1)) Tryz.call20 rfl rfl (fun w' s => ⟨_, (journal_Right_con x1  w' H1 s.hold hG r1 e2)⟩)) ?_
     refine wq rfl rfl rfl (ov_assign rfl rfl) ?_
     refine WL.nil (then_normal ?_)
     obtain ⟨k2, hk2, hm⟩ := joinK_some hm
     refine WP.seq_join (fun g' S' => ∃ (H3 : Heap) (i3 : Int) (l2 : (List Item)) (ao5 : Option Addr) (cap5 : Nat) (i4 : Int), Le H1 H3 ∧ SL H3 encItem ao5 l2 ∧ l2.length ≤ cap5 ∧ Sub [(2, (pB b1 0)), (5, (pB b2 0)), (6, (.int .i64 i1)), (8, (.int .i64 i3)), (13, (.slice ao1 p_l.length cap1)), (14, (.int .i64 (p_l.length : Int))), (15, (.int .i64 i1)), (1000000007, (.bool false))] g' ∧ (∀ w', S' w' → St w H [.blk b2 35 [(.slice ao5 l2.length cap5), (.int .i64 i4)], .blk b1 35 [(.slice none 0 0), (.int .i64 0)]] H3 w') ∧ k2 i3 l2 i4 = some r) ?_ ?_
     ·
      skip
      refine WP.seq (WP.region ?_)
      refine wq rfl rfl rfl (ov_move rfl rfl) ?_
      refine wq rfl rfl rfl (ov_eql rfl rfl rfl) ?_
      refine WL.nil (then_normal ?_)
      refine WP.cond rfl (fun hc6 => ?_) (fun hc6 => ?_)
      ·
       replace hm := ite_t hc6 hm
       refine WP.region ?_
       refine wq rfl rfl rfl (ov_load_whole (i := 1) Tryz.isAgg35 Tryz.sizeOf35 rfl rfl rfl rfl) ?_
       refine wq rfl rfl rfl (ov_load_whole (i := 0) Tryz.isAgg39 Tryz.sizeOf39 rfl rfl rfl rfl) ?_
       obtain ⟨r2, e3, hm⟩ := bind_some hm
       refine WL.step (Runs.free rfl) rfl rfl (os_con Tryz.call21 rfl rfl (fun w' s => (journal_done_con (Machine.mk l1 i2) x1 ao3 cap3  w' H1 s.hold h3 hc4 hG r2 e3)) (fun rr1 H2 hle2 hR1 => ?_))
       replace h1 := h1.mono hle2
       replace h8 := h8.mono hle2
       replace h3 := h3.mono hle2
       replace hG := hG.mono hle2
       obtain ⟨ao4, cap4, rfl, h9, hc7⟩ := hR1
       refine wq rfl rfl rfl (ov_move rfl rfl) ?_
       refine wq rfl rfl rfl (ov_extract rfl rfl rfl) ?_
       refine wq rfl rfl rfl (ov_extract rfl rfl rfl) ?_
       refine WL.step0 (Runs.free rfl) rfl (os_store (i := 1) (vs := [(.slice ao4 r2.1.items.length cap4), (.int .i64 r2.1.cycles)]) (cs' := [(.slice ao4 r2.1.items.length cap4), (.int .i64 r2.1.cycles)]) Tryz.sizeOf35 rfl rfl rfl rfl rfl rfl rfl rfl rfl ?_)
       refine wq rfl rfl rfl (ov_assign rfl rfl) ?_
       refine WL.nil (then_normal ?_)
       exact ⟨H2, r2.2, r2.1.items, ao4, cap4, r2.1.cycles, hle2, h9, hc7, (Sub.cons rfl (Sub.cons rfl (Sub.cons rfl (Sub.cons rfl (Sub.cons rfl (Sub.cons rfl (Sub.cons rfl (Sub.cons rfl (Sub.nil _))))))))), fun w' s => (s.select [1, 2] (by decide) rfl), hm⟩
      ·
       replace hm := ite_f hc6 hm
       refine WP.skip (then_normal ?_)
       exact ⟨H1, r1, l1, ao3, cap3, i2, (Le.refl _), h3, hc4, (Sub.cons rfl (Sub.cons rfl (Sub.cons rfl (Sub.cons rfl (Sub.cons rfl (Sub.cons rfl (Sub.cons rfl (Sub.cons rfl (Sub.nil _))))))))), fun w' s => (s.select [1, 2] (by decide) rfl), hm⟩
     ·
      rintro g' S' ⟨H3, i3, l2, ao5, cap5, i4, hle3, h10, hc8, hsub2, hS2, hm⟩
      refine WP.sub hsub2 (WP.weaken hS2 ?_)
      replace hm := (congrFun (congrFun (congrFun hk2 i3) l2) i4).symm.trans hm
      replace h1 := h1.mono hle3
      replace hG := hG.mono hle3
      refine WP.seq (WP.region ?_)
      refine wq rfl rfl rfl (ov_move rfl rfl) ?_
      refine wq rfl rfl rfl (ov_neq rfl rfl rfl) ?_
      refine WL.nil (then_normal ?_)
      refine WP.cond rfl (fun hc9 => ?_) (fun hc9 => ?_)
      ·
       replace hm := ite_t hc9 hm
       refine WP.seq (WP.region ?_)
       refine wq rfl rfl rfl (ov_build (r := (.agg #[(.slice none 0 0), (.int .i64 0)])) rfl rfl (fun _ => by kernel_rfl)) ?_
       refine wq rfl rfl rfl (ov_move rfl rfl) ?_
       refine wq rfl rfl rfl (ov_move rfl rfl) ?_
       refine WL.step0 (Runs.free rfl) rfl (os_store (i := 1) (vs := [(.slice none 0 0), (.int .i64 0)]) (cs' := [(.slice none 0 0), (.int .i64 0)]) Tryz.sizeOf35 rfl rfl rfl rfl rfl rfl rfl rfl rfl ?_)
       refine wq rfl rfl rfl (ov_assign rfl rfl) ?_
       refine wq rfl rfl rfl (ov_assign rfl rfl) ?_
       refine WL.nil (then_normal (WP.ret (block_ret (then_ret (then_ret (block_ret (then_ret ?_)))))))
       obtain rfl := Option.some.inj hm
       refine retQ_ret Tryz.results8 (Res.cell rfl (box_loads (i := 1) Tryz.isAgg35 Tryz.sizeOf35 rfl rfl) (Res.tmp rfl (Res.tmp rfl Res.nil))) rfl (fun w' s => ⟨s.below, ?_⟩)
       exact ⟨none, 0, rfl, SL.nil _ _ _, Nat.le_refl _⟩
      ·
       replace hm := ite_f hc9 hm
       refine WP.skip (block_normal (then_normal (WP.region ?_)))
       refine wq rfl rfl rfl (ov_add rfl rfl rfl) ?_
       refine wq rfl rfl rfl (ov_move rfl rfl) ?_
       refine WL.nil (then_normal ?_)
       exact ⟨H3, (IntKind.wrap .i64 (i1 + 1)), l2, ao5, cap5, i4, (hle1.trans hle3), h10, hc8, (Sub.cons rfl (Sub.cons rfl (Sub.cons rfl (Sub.cons rfl (Sub.cons rfl (Sub.cons rfl (Sub.nil _))))))), fun w' s => s, hm⟩
    ·
     replace hm := ite_f hc5 hm
     refine WP.exit (then_exit (then_exit (block_here (then_normal ?_))))
     exact ⟨H1, l1, ao3, cap3, i2, hle1, h3, hc4, (Sub.cons rfl (Sub.cons rfl (Sub.cons rfl (Sub.nil _)))), fun w' s => s, hm⟩
  ·
   rintro g' S' ⟨H4, l3, ao6, cap6, i5, hle4, h11, hc10, hsub3, hS3, hm⟩
   refine WP.sub hsub3 (WP.weaken hS3 ?_)
   replace hm := (congrFun (congrFun hk1 l3) i5).symm.trans hm
   replace hG := hG.mono hle4
   refine WP.seq (WP.region ?_)
   refine wq rfl rfl rfl (ov_load_whole (i := 0) Tryz.isAgg35 Tryz.sizeOf35 rfl rfl rfl rfl) ?_
   refine WL.step0 (Runs.free rfl) rfl (os_store (i := 1) (vs := [(.slice ao6 l3.length cap6), (.int .i64 i5)]) (cs' := [(.slice ao6 l3.length cap6), (.int .i64 i5)]) Tryz.sizeOf35 rfl rfl rfl rfl rfl rfl rfl rfl rfl ?_)
   refine wq rfl rfl rfl (ov_assign rfl rfl) ?_
   refine wq rfl rfl rfl (ov_assign rfl rfl) ?_
   refine WL.nil (then_normal (WP.ret ?_))
   obtain rfl := Option.some.inj hm
   refine retQ_ret Tryz.results8 (Res.cell rfl (box_loads (i := 1) Tryz.isAgg35 Tryz.sizeOf35 rfl rfl) (Res.tmp rfl (Res.tmp rfl Res.nil))) rfl (fun w' s => ⟨s.below, ?_⟩)
   exact ⟨ao6, cap6, rfl, h11.mono s.le_newer, hc10⟩

theorem journal_text_con (p_x : Entry) (w : World) (H : Heap) (hH : Le H (hp w)) (hG : Glob H) (r : (List UInt8)) (hm : journal_text p_x = some r) :
  Con Tryz.prog 29 [(.agg #[(.int .i64 p_x.kind), (mkS p_x.name), (.int .i64 p_x.count), (.int .i64 p_x.strokes)])] w H (fun v _ => v = (mkS r)) := by
 unfold journal_text at hm
 refine con_of hH Tryz.func29 rfl 32 Tryz.ntmps29 rfl ?_
 refine WP.seq (WP.region ?_)
 refine WL.step (Runs.free rfl) rfl rfl (os_box (cs := [(.int .i64 p_x.kind), (mkS p_x.name), (.int .i64 p_x.count), (.int .i64 p_x.strokes)]) rfl rfl rfl (fun b1 => ?_))
 refine wq rfl rfl rfl (ov_assign rfl rfl) ?_
 refine WL.nil (then_normal ?_)
 obtain ⟨k1, hk1, hm⟩ := joinK_some hm
 refine WP.seq_join (fun g' S' => ∃ (b9 : Nat) (s1 : (List UInt8)) (c1 : Bool) (c2 : Bool) (v1 : Value), Sub [(1, (pB b1 0)), (3, (pB b9 0)), (1000000007, (.bool false))] g' ∧ (∀ w', S' w' → St w H [.blk b9 100 [(mkS s1), (.bool c1), (.bool c2), v1], .blk b1 39 [(.int .i64 p_x.kind), (mkS p_x.name), (.int .i64 p_x.count), (.int .i64 p_x.strokes)]] H w') ∧ k1 s1 c1 c2 = some r) ?_ ?_
 ·
  skip
  refine WP.region_any (S₀ := St w H [.blk b1 39 [(.int .i64 p_x.kind), (mkS p_x.name), (.int .i64 p_x.count), (.int .i64 p_x.strokes)]] H) 6 rfl (by kernel_rfl) (fun w' s => s) (fun _ s => s.drew) ?_
  refine tq (i := 1) rfl (by kernel_rfl) rfl rfl rfl (ov_fieldAddr Tryz.underlying39 rfl rfl rfl Tryz.sizeOf3 rfl rfl) ?_
  refine tq (i := 2) rfl (by kernel_rfl) rfl rfl rfl (ov_load_box (i := 0) Tryz.isAgg3 rfl rfl rfl rfl) ?_
  refine AL.any (rs := [0, 4]) (by kernel_rfl) (by decide) ?_
  refine ALs.cons (i := 0) rfl (Runs.free rfl) rfl rfl ?_ ?_
  ·
   skip
   refine os_inline (cap := []) (vs := []) Tryz.call41 rfl rfl rfl Tryz.func41 rfl 8 Tryz.ntmps41 rfl (fun w' s => ?_)
   refine WP.seq (WP.region ?_)
   refine WL.step (Runs.free rfl) rfl rfl (os_alloc (cs := [(mkS []), (.bool false), (.bool false), .nilFunc, (mkS []), (.bool false), (.bool false), .nilFunc, (mkS []), (.bool false), (.bool false), .nilFunc, (mkS []), (.bool false), (.bool false), .nilFunc, (mkS []), (.bool false), (.bool false), .nilFunc, (mkS []), (.bool false), (.bool false), .nilFunc]) Tryz.zeroValue101 rfl rfl (fun b2 => ?_))
   refine WL.nil (then_normal (WP.seq (WP.region ?_)))
   refine wq rfl rfl rfl (ov_build (r := (.agg #[(mkS [112, 97, 114, 116]), (.bool true), (.bool false), (.func (.func 56) #[] #[])])) rfl rfl (fun _ => by kernel_rfl)) ?_
   refine wq rfl rfl rfl (ov_build (r := (.agg #[(mkS [99, 121, 99, 108, 101, 115]), (.bool true), (.bool true), (.func (.func 57) #[] #[])])) rfl rfl (fun _ => by kernel_rfl)) ?_
   refine wq rfl rfl rfl (ov_build (r := (.agg #[(mkS [102, 97, 117, 108, 116]), (.bool false), (.bool false), (.func (.func 58) #[] #[])])) rfl rfl (fun _ => by kernel_rfl)) ?_
   refine wq rfl rfl rfl (ov_build (r := (.agg #[(mkS [114, 101, 112, 97, 105, 114]), (.bool false), (.bool false), (.func (.func 59) #[] #[])])) rfl rfl (fun _ => by kernel_rfl)) ?_
   refine wq rfl rfl rfl (ov_build (r := (.agg #[(mkS [114, 101, 112, 108, 97, 99, 101]), (.bool true), (.bool false), (.func (.func 60) #[] #[])])) rfl rfl (fun _ => by kernel_rfl)) ?_
   refine wq rfl rfl rfl (ov_build (r := (.agg #[(mkS [114, 101, 109, 111, 118, 101]), (.bool false), (.bool false), (.func (.func 61) #[] #[])])) rfl rfl (fun _ => by kernel_rfl)) ?_
   refine wq rfl rfl rfl (ov_build (r := (.agg #[(mkS [112, 97, 114, 116]), (.bool true), (.bool false), (.func (.func 56) #[] #[]), (mkS [99, 121, 99, 108, 101, 115]), (.bool true), (.bool true), (.func (.func 57) #[] #[]), (mkS [102, 97, 117, 108, 116]), (.bool false), (.bool false), (.func (.func 58) #[] #[]), (mkS [114, 101, 112, 97, 105, 114]), (.bool false), (.bool false), (.func (.func 59) #[] #[]), (mkS [114, 101, 112, 108, 97, 99, 101]), (.bool true), (.bool false), (.func (.func 60) #[] #[]), (mkS [114, 101, 109, 111, 118, 101]), (.bool false), (.bool false), (.func (.func 61) #[] #[])])) rfl rfl (fun _ => by kernel_rfl)) ?_
   refine WL.step0 (Runs.free rfl) rfl (os_store (i := 0) (vs := [(mkS [112, 97, 114, 116]), (.bool true), (.bool false), (.func (.func 56) #[] #[]), (mkS [99, 121, 99, 108, 101, 115]), (.bool true), (.bool true), (.func (.func 57) #[] #[]), (mkS [102, 97, 117, 108, 116]), (.bool false), (.bool false), (.func (.func 58) #[] #[]), (mkS [114, 101, 112, 97, 105, 114]), (.bool false), (.bool false), (.func (.func 59) #[] #[]), (mkS [114, 101, 112, 108, 97, 99, 101]), (.bool true), (.bool false), (.func (.func 60) #[] #[]), (mkS [114, 101, 109, 111, 118, 101]), (.bool false), (.bool false), (.func (.func 61) #[] #[])]) (cs' := [(mkS [112, 97, 114, 116]), (.bool true), (.bool false), (.func (.func 56) #[] #[]), (mkS [99, 121, 99, 108, 101, 115]), (.bool true), (.bool true), (.func (.func 57) #[] #[]), (mkS [102, 97, 117, 108, 116]), (.bool false), (.bool false), (.func (.func 58) #[] #[]), (mkS [114, 101, 112, 97, 105, 114]), (.bool false), (.bool false), (.func (.func 59) #[] #[]), (mkS [114, 101, 112, 108, 97, 99, 101]), (.bool true), (.bool false), (.func (.func 60) #[] #[]), (mkS [114, 101, 109, 111, 118, 101]), (.bool false), (.bool false), (.func (.func 61) #[] #[])]) Tryz.sizeOf101 rfl rfl rfl rfl rfl rfl rfl rfl rfl ?_)
   refine WL.nil (then_normal (WP.ret ?_))
   refine retQ_ret (v := (.agg #[(mkS [112, 97, 114, 116]), (.bool true), (.bool false), (.func (.func 56) #[] #[]), (mkS [99, 121, 99, 108, 101, 115]), (.bool true), (.bool true), (.func (.func 57) #[] #[]), (mkS [102, 97, 117, 108, 116]), (.bool false), (.bool false), (.func (.func 58) #[] #[]), (mkS [114, 101, 112, 97, 105, 114]), (.bool false), (.bool false), (.func (.func 59) #[] #[]), (mkS [114, 101, 112, 108, 97, 99, 101]), (.bool true), (.bool false), (.func (.func 60) #[] #[]), (mkS [114, 101, 109, 111, 118, 101]), (.bool false), (.bool false), (.func (.func 61) #[] #[])])) Tryz.results41 (Res.cell rfl (box_loads (i := 0) Tryz.isAgg101 Tryz.sizeOf101 rfl rfl) Res.nil) rfl (fun w' s => ⟨_, ?_, s⟩)
   refine ⟨fun w' s => (s.select [1] (by decide) rfl), ?_⟩
   rcases Bool.eq_false_or_eq_true (p_x.kind == 0) with hc1 | hc1
   ·
    replace hm := ite_t hc1 hm
    refine tq (i := 3) rfl (by kernel_rfl) rfl rfl rfl (ov_index_at (j := 0) (cs := [(mkS [112, 97, 114, 116]), (.bool true), (.bool false), (.func (.func 56) #[] #[]), (mkS [99, 121, 99, 108, 101, 115]), (.bool true), (.bool true), (.func (.func 57) #[] #[]), (mkS [102, 97, 117, 108, 116]), (.bool false), (.bool false), (.func (.func 58) #[] #[]), (mkS [114, 101, 112, 97, 105, 114]), (.bool false), (.bool false), (.func (.func 59) #[] #[]), (mkS [114, 101, 112, 108, 97, 99, 101]), (.bool true), (.bool false), (.func (.func 60) #[] #[]), (mkS [114, 101, 109, 111, 118, 101]), (.bool false), (.bool false), (.func (.func 61) #[] #[])]) (r := (.agg #[(mkS [112, 97, 114, 116]), (.bool true), (.bool false), (.func (.func 56) #[] #[])])) (eq_of_beq hc1) rfl rfl rfl (fun _ => by kernel_rfl)) ?_
    refine AL.any (rs := [4]) (by kernel_rfl) (by decide) ?_
    refine ALs.cons (i := 4) rfl (Runs.free rfl) rfl rfl ?_ ?_
    ·
     skip
     refine os_alloc (cs := [(mkS []), (.bool false), (.bool false), .nilFunc]) Tryz.zeroValue100 rfl rfl (fun b3 => ?_)
     refine ⟨fun w' s => (s.select [2] (by decide) rfl), ?_⟩
     refine AL.any (rs := [5]) (by kernel_rfl) (by decide) ?_
     refine ALs.cons0 (i := 5) rfl (Runs.free rfl) rfl ?_ ?_
     ·
      skip
      refine os_store (i := 0) (vs := [(mkS [112, 97, 114, 116]), (.bool true), (.bool false), (.func (.func 56) #[] #[])]) (cs' := [(mkS [112, 97, 114, 116]), (.bool true), (.bool false), (.func (.func 56) #[] #[])]) Tryz.sizeOf100 rfl rfl rfl rfl rfl rfl rfl rfl rfl ?_
      refine ⟨fun w' s => (s.select [2] (by decide) rfl), ?_⟩
      refine AL.done (by kernel_rfl) ?_
      refine then_normal ?_
      exact ⟨b3, [112, 97, 114, 116], true, false, (.func (.func 56) #[] #[]), (Sub.cons rfl (Sub.cons rfl (Sub.cons rfl (Sub.nil _)))), fun w' s => (s.select [0, 2] (by decide) rfl), hm⟩
     exact ALs.nil
    exact ALs.nil
   ·
    replace hm := ite_f hc1 hm
    rcases Bool.eq_false_or_eq_true (p_x.kind == 1) with hc2 | hc2
    ·
     replace hm := ite_t hc2 hm
     refine tq (i := 3) rfl (by kernel_rfl) rfl rfl rfl (ov_index_at (j := 1) (cs := [(mkS [112, 97, 114, 116]), (.bool true), (.bool false), (.func (.func 56) #[] #[]), (mkS [99, 121, 99, 108, 101, 115]), (.bool true), (.bool true), (.func (.func 57) #[] #[]), (mkS [102, 97, 117, 108, 116]), (.bool false), (.bool false), (.func (.func 58) #[] #[]), (mkS [114, 101, 112, 97, 105, 114]), (.bool false), (.bool false), (.func (.func 59) #[] #[]), (mkS [114, 101, 112, 108, 97, 99, 101]), (.bool true), (.bool false), (.func (.func 60) #[] #[]), (mkS [114, 101, 109, 111, 118, 101]), (.bool false), (.bool false), (.func (.func 61) #[] #[])]) (r := (.agg #[(mkS [99, 121, 99, 108, 101, 115]), (.bool true), (.bool true), (.func (.func 57) #[] #[])])) (eq_of_beq hc2) rfl rfl rfl (fun _ => by kernel_rfl)) ?_
     refine AL.any (rs := [4]) (by kernel_rfl) (by decide) ?_
     refine ALs.cons (i := 4) rfl (Runs.free rfl) rfl rfl ?_ ?_
     ·
      skip
      refine os_alloc (cs := [(mkS []), (.bool false), (.bool false), .nilFunc]) Tryz.zeroValue100 rfl rfl (fun b4 => ?_)
      refine ⟨fun w' s => (s.select [2] (by decide) rfl), ?_⟩
      refine AL.any (rs := [5]) (by kernel_rfl) (by decide) ?_
      refine ALs.cons0 (i := 5) rfl (Runs.free rfl) rfl ?_ ?_
      ·
       skip
       refine os_store (i := 0) (vs := [(mkS [99, 121, 99, 108, 101, 115]), (.bool true), (.bool true), (.func (.func 57) #[] #[])]) (cs' := [(mkS [99, 121, 99, 108, 101, 115]), (.bool true), (.bool true), (.func (.func 57) #[] #[])]) Tryz.sizeOf100 rfl rfl rfl rfl rfl rfl rfl rfl rfl ?_
       refine ⟨fun w' s => (s.select [2] (by decide) rfl), ?_⟩
       refine AL.done (by kernel_rfl) ?_
       refine then_normal ?_
       exact ⟨b4, [99, 121, 99, 108, 101, 115], true, true, (.func (.func 57) #[] #[]), (Sub.cons rfl (Sub.cons rfl (Sub.cons rfl (Sub.nil _)))), fun w' s => (s.select [0, 2] (by decide) rfl), hm⟩
      exact ALs.nil
     exact ALs.nil
    ·
     replace hm := ite_f hc2 hm
     rcases Bool.eq_false_or_eq_true (p_x.kind == 2) with hc3 | hc3
     ·
      replace hm := ite_t hc3 hm
      refine tq (i := 3) rfl (by kernel_rfl) rfl rfl rfl (ov_index_at (j := 2) (cs := [(mkS [112, 97, 114, 116]), (.bool true), (.bool false), (.func (.func 56) #[] #[]), (mkS [99, 121, 99, 108, 101, 115]), (.bool true), (.bool true), (.func (.func 57) #[] #[]), (mkS [102, 97, 117, 108, 116]), (.bool false), (.bool false), (.func (.func 58) #[] #[]), (mkS [114, 101, 112, 97, 105, 114]), (.bool false), (.bool false), (.func (.func 59) #[] #[]), (mkS [114, 101, 112, 108, 97, 99, 101]), (.bool true), (.bool false), (.func (.func 60) #[] #[]), (mkS [114, 101, 109, 111, 118, 101]), (.bool false), (.bool false), (.func (.func 61) #[] #[])]) (r := (.agg #[(mkS [102, 97, 117, 108, 116]), (.bool false), (.bool false), (.func (.func 58) #[] #[])])) (eq_of_beq hc3) rfl rfl rfl (fun _ => by kernel_rfl)) ?_
      refine AL.any (rs := [4]) (by kernel_rfl) (by decide) ?_
      refine ALs.cons (i := 4) rfl (Runs.free rfl) rfl rfl ?_ ?_
      ·
       skip
       refine os_alloc (cs := [(mkS []), (.bool false), (.bool false), .nilFunc]) Tryz.zeroValue100 rfl rfl (fun b5 => ?_)
       refine ⟨fun w' s => (s.select [2] (by decide) rfl), ?_⟩
       refine AL.any (rs := [5]) (by kernel_rfl) (by decide) ?_
       refine ALs.cons0 (i := 5) rfl (Runs.free rfl) rfl ?_ ?_
       ·
        skip
        refine os_store (i := 0) (vs := [(mkS [102, 97, 117, 108, 116]), (.bool false), (.bool false), (.func (.func 58) #[] #[])]) (cs' := [(mkS [102, 97, 117, 108, 116]), (.bool false), (.bool false), (.func (.func 58) #[] #[])]) Tryz.sizeOf100 rfl rfl rfl rfl rfl rfl rfl rfl rfl ?_
        refine ⟨fun w' s => (s.select [2] (by decide) rfl), ?_⟩
        refine AL.done (by kernel_rfl) ?_
        refine then_normal ?_
        exact ⟨b5, [102, 97, 117, 108, 116], false, false, (.func (.func 58) #[] #[]), (Sub.cons rfl (Sub.cons rfl (Sub.cons rfl (Sub.nil _)))), fun w' s => (s.select [0, 2] (by decide) rfl), hm⟩
       exact ALs.nil
      exact ALs.nil
     ·
      replace hm := ite_f hc3 hm
      rcases Bool.eq_false_or_eq_true (p_x.kind == 3) with hc4 | hc4
      ·
       replace hm := ite_t hc4 hm
       refine tq (i := 3) rfl (by kernel_rfl) rfl rfl rfl (ov_index_at (j := 3) (cs := [(mkS [112, 97, 114, 116]), (.bool true), (.bool false), (.func (.func 56) #[] #[]), (mkS [99, 121, 99, 108, 101, 115]), (.bool true), (.bool true), (.func (.func 57) #[] #[]), (mkS [102, 97, 117, 108, 116]), (.bool false), (.bool false), (.func (.func 58) #[] #[]), (mkS [114, 101, 112, 97, 105, 114]), (.bool false), (.bool false), (.func (.func 59) #[] #[]), (mkS [114, 101, 112, 108, 97, 99, 101]), (.bool true), (.bool false), (.func (.func 60) #[] #[]), (mkS [114, 101, 109, 111, 118, 101]), (.bool false), (.bool false), (.func (.func 61) #[] #[])]) (r := (.agg #[(mkS [114, 101, 112, 97, 105, 114]), (.bool false), (.bool false), (.func (.func 59) #[] #[])])) (eq_of_beq hc4) rfl rfl rfl (fun _ => by kernel_rfl)) ?_
       refine AL.any (rs := [4]) (by kernel_rfl) (by decide) ?_
       refine ALs.cons (i := 4) rfl (Runs.free rfl) rfl rfl ?_ ?_
       ·
        skip
        refine os_alloc (cs := [(mkS []), (.bool false), (.bool false), .nilFunc]) Tryz.zeroValue100 rfl rfl (fun b6 => ?_)
        refine ⟨fun w' s => (s.select [2] (by decide) rfl), ?_⟩
        refine AL.any (rs := [5]) (by kernel_rfl) (by decide) ?_
        refine ALs.cons0 (i := 5) rfl (Runs.free rfl) rfl ?_ ?_
        ·
         skip
         refine os_store (i := 0) (vs := [(mkS [114, 101, 112, 97, 105, 114]), (.bool false), (.bool false), (.func (.func 59) #[] #[])]) (cs' := [(mkS [114, 101, 112, 97, 105, 114]), (.bool false), (.bool false), (.func (.func 59) #[] #[])]) Tryz.sizeOf100 rfl rfl rfl rfl rfl rfl rfl rfl rfl ?_
         refine ⟨fun w' s => (s.select [2] (by decide) rfl), ?_⟩
         refine AL.done (by kernel_rfl) ?_
         refine then_normal ?_
         exact ⟨b6, [114, 101, 112, 97, 105, 114], false, false, (.func (.func 59) #[] #[]), (Sub.cons rfl (Sub.cons rfl (Sub.cons rfl (Sub.nil _)))), fun w' s => (s.select [0, 2] (by decide) rfl), hm⟩
        exact ALs.nil
       exact ALs.nil
      ·
       replace hm := ite_f hc4 hm
       rcases Bool.eq_false_or_eq_true (p_x.kind == 4) with hc5 | hc5
       ·
        replace hm := ite_t hc5 hm
        refine tq (i := 3) rfl (by kernel_rfl) rfl rfl rfl (ov_index_at (j := 4) (cs := [(mkS [112, 97, 114, 116]), (.bool true), (.bool false), (.func (.func 56) #[] #[]), (mkS [99, 121, 99, 108, 101, 115]), (.bool true), (.bool true), (.func (.func 57) #[] #[]), (mkS [102, 97, 117, 108, 116]), (.bool false), (.bool false), (.func (.func 58) #[] #[]), (mkS [114, 101, 112, 97, 105, 114]), (.bool false), (.bool false), (.func (.func 59) #[] #[]), (mkS [114, 101, 112, 108, 97, 99, 101]), (.bool true), (.bool false), (.func (.func 60) #[] #[]), (mkS [114, 101, 109, 111, 118, 101]), (.bool false), (.bool false), (.func (.func 61) #[] #[])]) (r := (.agg #[(mkS [114, 101, 112, 108, 97, 99, 101]), (.bool true), (.bool false), (.func (.func 60) #[] #[])])) (eq_of_beq hc5) rfl rfl rfl (fun _ => by kernel_rfl)) ?_
        refine AL.any (rs := [4]) (by kernel_rfl) (by decide) ?_
        refine ALs.cons (i := 4) rfl (Runs.free rfl) rfl rfl ?_ ?_
        ·
         skip
         refine os_alloc (cs := [(mkS []), (.bool false), (.bool false), .nilFunc]) Tryz.zeroValue100 rfl rfl (fun b7 => ?_)
         refine ⟨fun w' s => (s.select [2] (by decide) rfl), ?_⟩
         refine AL.any (rs := [5]) (by kernel_rfl) (by decide) ?_
         refine ALs.cons0 (i := 5) rfl (Runs.free rfl) rfl ?_ ?_
         ·
          skip
          refine os_store (i := 0) (vs := [(mkS [114, 101, 112, 108, 97, 99, 101]), (.bool true), (.bool false), (.func (.func 60) #[] #[])]) (cs' := [(mkS [114, 101, 112, 108, 97, 99, 101]), (.bool true), (.bool false), (.func (.func 60) #[] #[])]) Tryz.sizeOf100 rfl rfl rfl rfl rfl rfl rfl rfl rfl ?_
          refine ⟨fun w' s => (s.select [2] (by decide) rfl), ?_⟩
          refine AL.done (by kernel_rfl) ?_
          refine then_normal ?_
          exact ⟨b7, [114, 101, 112, 108, 97, 99, 101], true, false, (.func (.func 60) #[] #[]), (Sub.cons rfl (Sub.cons rfl (Sub.cons rfl (Sub.nil _)))), fun w' s => (s.select [0, 2] (by decide) rfl), hm⟩
         exact ALs.nil
        exact ALs.nil
       ·
        replace hm := ite_f hc5 hm
        rcases Bool.eq_false_or_eq_true (p_x.kind == 5) with hc6 | hc6
        ·
         replace hm := ite_t hc6 hm
         refine tq (i := 3) rfl (by kernel_rfl) rfl rfl rfl (ov_index_at (j := 5) (cs := [(mkS [112, 97, 114, 116]), (.bool true), (.bool false), (.func (.func 56) #[] #[]), (mkS [99, 121, 99, 108, 101, 115]), (.bool true), (.bool true), (.func (.func 57) #[] #[]), (mkS [102, 97, 117, 108, 116]), (.bool false), (.bool false), (.func (.func 58) #[] #[]), (mkS [114, 101, 112, 97, 105, 114]), (.bool false), (.bool false), (.func (.func 59) #[] #[]), (mkS [114, 101, 112, 108, 97, 99, 101]), (.bool true), (.bool false), (.func (.func 60) #[] #[]), (mkS [114, 101, 109, 111, 118, 101]), (.bool false), (.bool false), (.func (.func 61) #[] #[])]) (r := (.agg #[(mkS [114, 101, 109, 111, 118, 101]), (.bool false), (.bool false), (.func (.func 61) #[] #[])])) (eq_of_beq hc6) rfl rfl rfl (fun _ => by kernel_rfl)) ?_
         refine AL.any (rs := [4]) (by kernel_rfl) (by decide) ?_
         refine ALs.cons (i := 4) rfl (Runs.free rfl) rfl rfl ?_ ?_
         ·
          skip
          refine os_alloc (cs := [(mkS []), (.bool false), (.bool false), .nilFunc]) Tryz.zeroValue100 rfl rfl (fun b8 => ?_)
          refine ⟨fun w' s => (s.select [2] (by decide) rfl), ?_⟩
          refine AL.any (rs := [5]) (by kernel_rfl) (by decide) ?_
          refine ALs.cons0 (i := 5) rfl (Runs.free rfl) rfl ?_ ?_
          ·
           skip
           refine os_store (i := 0) (vs := [(mkS [114, 101, 109, 111, 118, 101]), (.bool false), (.bool false), (.func (.func 61) #[] #[])]) (cs' := [(mkS [114, 101, 109, 111, 118, 101]), (.bool false), (.bool false), (.func (.func 61) #[] #[])]) Tryz.sizeOf100 rfl rfl rfl rfl rfl rfl rfl rfl rfl ?_
           refine ⟨fun w' s => (s.select [2] (by decide) rfl), ?_⟩
           refine AL.done (by kernel_rfl) ?_
           refine then_normal ?_
           exact ⟨b8, [114, 101, 109, 111, 118, 101], false, false, (.func (.func 61) #[] #[]), (Sub.cons rfl (Sub.cons rfl (Sub.cons rfl (Sub.nil _)))), fun w' s => (s.select [0, 2] (by decide) rfl), hm⟩
          exact ALs.nil
         exact ALs.nil
        ·
         replace hm := ite_f hc6 hm
         exact (none_some hm).elim
  refine ALs.cons (i := 4) rfl (Runs.free rfl) rfl rfl ?_ ?_
  ·
   skip
   refine os_alloc (cs := [(mkS []), (.bool false), (.bool false), .nilFunc]) Tryz.zeroValue100 rfl rfl (fun b2 => ?_)
   refine ⟨fun w' s => (s.select [1] (by decide) rfl), ?_⟩
   refine AL.any (rs := [0]) (by kernel_rfl) (by decide) ?_
   refine ALs.cons (i := 0) rfl (Runs.free rfl) rfl rfl ?_ ?_
   ·
    skip
    refine os_inline (cap := []) (vs := []) Tryz.call41 rfl rfl rfl Tryz.func41 rfl 8 Tryz.ntmps41 rfl (fun w' s => ?_)
    refine WP.seq (WP.region ?_)
    refine WL.step (Runs.free rfl) rfl rfl (os_alloc (cs := [(mkS []), (.bool false), (.bool false), .nilFunc, (mkS []), (.bool false), (.bool false), .nilFunc, (mkS []), (.bool false), (.bool false), .nilFunc, (mkS []), (.bool false), (.bool false), .nilFunc, (mkS []), (.bool false), (.bool false), .nilFunc, (mkS []), (.bool false), (.bool false), .nilFunc]) Tryz.zeroValue101 rfl rfl (fun b3 => ?_))
    refine WL.nil (then_normal (WP.seq (WP.region ?_)))
    refine wq rfl rfl rfl (ov_build (r := (.agg #[(mkS [112, 97, 114, 116]), (.bool true), (.bool false), (.func (.func 56) #[] #[])])) rfl rfl (fun _ => by kernel_rfl)) ?_
    refine wq rfl rfl rfl (ov_build (r := (.agg #[(mkS [99, 121, 99, 108, 101, 115]), (.bool true), (.bool true), (.func (.func 57) #[] #[])])) rfl rfl (fun _ => by kernel_rfl)) ?_
    refine wq rfl rfl rfl (ov_build (r := (.agg #[(mkS [102, 97, 117, 108, 116]), (.bool false), (.bool false), (.func (.func 58) #[] #[])])) rfl rfl (fun _ => by kernel_rfl)) ?_
    refine wq rfl rfl rfl (ov_build (r := (.agg #[(mkS [114, 101, 112, 97, 105, 114]), (.bool false), (.bool false), (.func (.func 59) #[] #[])])) rfl rfl (fun _ => by kernel_rfl)) ?_
    refine wq rfl rfl rfl (ov_build (r := (.agg #[(mkS [114, 101, 112, 108, 97, 99, 101]), (.bool true), (.bool false), (.func (.func 60) #[] #[])])) rfl rfl (fun _ => by kernel_rfl)) ?_
    refine wq rfl rfl rfl (ov_build (r := (.agg #[(mkS [114, 101, 109, 111, 118, 101]), (.bool false), (.bool false), (.func (.func 61) #[] #[])])) rfl rfl (fun _ => by kernel_rfl)) ?_
    refine wq rfl rfl rfl (ov_build (r := (.agg #[(mkS [112, 97, 114, 116]), (.bool true), (.bool false), (.func (.func 56) #[] #[]), (mkS [99, 121, 99, 108, 101, 115]), (.bool true), (.bool true), (.func (.func 57) #[] #[]), (mkS [102, 97, 117, 108, 116]), (.bool false), (.bool false), (.func (.func 58) #[] #[]), (mkS [114, 101, 112, 97, 105, 114]), (.bool false), (.bool false), (.func (.func 59) #[] #[]), (mkS [114, 101, 112, 108, 97, 99, 101]), (.bool true), (.bool false), (.func (.func 60) #[] #[]), (mkS [114, 101, 109, 111, 118, 101]), (.bool false), (.bool false), (.func (.func 61) #[] #[])])) rfl rfl (fun _ => by kernel_rfl)) ?_
    refine WL.step0 (Runs.free rfl) rfl (os_store (i := 0) (vs := [(mkS [112, 97, 114, 116]), (.bool true), (.bool false), (.func (.func 56) #[] #[]), (mkS [99, 121, 99, 108, 101, 115]), (.bool true), (.bool true), (.func (.func 57) #[] #[]), (mkS [102, 97, 117, 108, 116]), (.bool false), (.bool false), (.func (.func 58) #[] #[]), (mkS [114, 101, 112, 97, 105, 114]), (.bool false), (.bool false), (.func (.func 59) #[] #[]), (mkS [114, 101, 112, 108, 97, 99, 101]), (.bool true), (.bool false), (.func (.func 60) #[] #[]), (mkS [114, 101, 109, 111, 118, 101]), (.bool false), (.bool false), (.func (.func 61) #[] #[])]) (cs' := [(mkS [112, 97, 114, 116]), (.bool true), (.bool false), (.func (.func 56) #[] #[]), (mkS [99, 121, 99, 108, 101, 115]), (.bool true), (.bool true), (.func (.func 57) #[] #[]), (mkS [102, 97, 117, 108, 116]), (.bool false), (.bool false), (.func (.func 58) #[] #[]), (mkS [114, 101, 112, 97, 105, 114]), (.bool false), (.bool false), (.func (.func 59) #[] #[]), (mkS [114, 101, 112, 108, 97, 99, 101]), (.bool true), (.bool false), (.func (.func 60) #[] #[]), (mkS [114, 101, 109, 111, 118, 101]), (.bool false), (.bool false), (.func (.func 61) #[] #[])]) Tryz.sizeOf101 rfl rfl rfl rfl rfl rfl rfl rfl rfl ?_)
    refine WL.nil (then_normal (WP.ret ?_))
    refine retQ_ret (v := (.agg #[(mkS [112, 97, 114, 116]), (.bool true), (.bool false), (.func (.func 56) #[] #[]), (mkS [99, 121, 99, 108, 101, 115]), (.bool true), (.bool true), (.func (.func 57) #[] #[]), (mkS [102, 97, 117, 108, 116]), (.bool false), (.bool false), (.func (.func 58) #[] #[]), (mkS [114, 101, 112, 97, 105, 114]), (.bool false), (.bool false), (.func (.func 59) #[] #[]), (mkS [114, 101, 112, 108, 97, 99, 101]), (.bool true), (.bool false), (.func (.func 60) #[] #[]), (mkS [114, 101, 109, 111, 118, 101]), (.bool false), (.bool false), (.func (.func 61) #[] #[])])) Tryz.results41 (Res.cell rfl (box_loads (i := 0) Tryz.isAgg101 Tryz.sizeOf101 rfl rfl) Res.nil) rfl (fun w' s => ⟨_, ?_, s⟩)
    refine ⟨fun w' s => (s.select [2] (by decide) rfl), ?_⟩
    rcases Bool.eq_false_or_eq_true (p_x.kind == 0) with hc1 | hc1
    ·
     replace hm := ite_t hc1 hm
     refine tq (i := 3) rfl (by kernel_rfl) rfl rfl rfl (ov_index_at (j := 0) (cs := [(mkS [112, 97, 114, 116]), (.bool true), (.bool false), (.func (.func 56) #[] #[]), (mkS [99, 121, 99, 108, 101, 115]), (.bool true), (.bool true), (.func (.func 57) #[] #[]), (mkS [102, 97, 117, 108, 116]), (.bool false), (.bool false), (.func (.func 58) #[] #[]), (mkS [114, 101, 112, 97, 105, 114]), (.bool false), (.bool false), (.func (.func 59) #[] #[]), (mkS [114, 101, 112, 108, 97, 99, 101]), (.bool true), (.bool false), (.func (.func 60) #[] #[]), (mkS [114, 101, 109, 111, 118, 101]), (.bool false), (.bool false), (.func (.func 61) #[] #[])]) (r := (.agg #[(mkS [112, 97, 114, 116]), (.bool true), (.bool false), (.func (.func 56) #[] #[])])) (eq_of_beq hc1) rfl rfl rfl (fun _ => by kernel_rfl)) ?_
     refine AL.any (rs := [5]) (by kernel_rfl) (by decide) ?_
     refine ALs.cons0 (i := 5) rfl (Runs.free rfl) rfl ?_ ?_
     ·
      skip
      refine os_store (i := 1) (vs := [(mkS [112, 97, 114, 116]), (.bool true), (.bool false), (.func (.func 56) #[] #[])]) (cs' := [(mkS [112, 97, 114, 116]), (.bool true), (.bool false), (.func (.func 56) #[] #[])]) Tryz.sizeOf100 rfl rfl rfl rfl rfl rfl rfl rfl rfl ?_
      refine ⟨fun w' s => (s.select [2] (by decide) rfl), ?_⟩
      refine AL.done (by kernel_rfl) ?_
      refine then_normal ?_
      exact ⟨b2, [112, 97, 114, 116], true, false, (.func (.func 56) #[] #[]), (Sub.cons rfl (Sub.cons rfl (Sub.cons rfl (Sub.nil _)))), fun w' s => (s.select [1, 2] (by decide) rfl), hm⟩
     exact ALs.nil
    ·
     replace hm := ite_f hc1 hm
     rcases Bool.eq_false_or_eq_true (p_x.kind == 1) with hc2 | hc2
     ·
      replace hm := ite_t hc2 hm
      refine tq (i := 3) rfl (by kernel_rfl) rfl rfl rfl (ov_index_at (j := 1) (cs := [(mkS [112, 97, 114, 116]), (.bool true), (.bool false), (.func (.func 56) #[] #[]), (mkS [99, 121, 99, 108, 101, 115]), (.bool true), (.bool true), (.func (.func 57) #[] #[]), (mkS [102, 97, 117, 108, 116]), (.bool false), (.bool false), (.func (.func 58) #[] #[]), (mkS [114, 101, 112, 97, 105, 114]), (.bool false), (.bool false), (.func (.func 59) #[] #[]), (mkS [114, 101, 112, 108, 97, 99, 101]), (.bool true), (.bool false), (.func (.func 60) #[] #[]), (mkS [114, 101, 109, 111, 118, 101]), (.bool false), (.bool false), (.func (.func 61) #[] #[])]) (r := (.agg #[(mkS [99, 121, 99, 108, 101, 115]), (.bool true), (.bool true), (.func (.func 57) #[] #[])])) (eq_of_beq hc2) rfl rfl rfl (fun _ => by kernel_rfl)) ?_
      refine AL.any (rs := [5]) (by kernel_rfl) (by decide) ?_
      refine ALs.cons0 (i := 5) rfl (Runs.free rfl) rfl ?_ ?_
      ·
       skip
       refine os_store (i := 1) (vs := [(mkS [99, 121, 99, 108, 101, 115]), (.bool true), (.bool true), (.func (.func 57) #[] #[])]) (cs' := [(mkS [99, 121, 99, 108, 101, 115]), (.bool true), (.bool true), (.func (.func 57) #[] #[])]) Tryz.sizeOf100 rfl rfl rfl rfl rfl rfl rfl rfl rfl ?_
       refine ⟨fun w' s => (s.select [2] (by decide) rfl), ?_⟩
       refine AL.done (by kernel_rfl) ?_
       refine then_normal ?_
       exact ⟨b2, [99, 121, 99, 108, 101, 115], true, true, (.func (.func 57) #[] #[]), (Sub.cons rfl (Sub.cons rfl (Sub.cons rfl (Sub.nil _)))), fun w' s => (s.select [1, 2] (by decide) rfl), hm⟩
      exact ALs.nil
     ·
      replace hm := ite_f hc2 hm
      rcases Bool.eq_false_or_eq_true (p_x.kind == 2) with hc3 | hc3
      ·
       replace hm := ite_t hc3 hm
       refine tq (i := 3) rfl (by kernel_rfl) rfl rfl rfl (ov_index_at (j := 2) (cs := [(mkS [112, 97, 114, 116]), (.bool true), (.bool false), (.func (.func 56) #[] #[]), (mkS [99, 121, 99, 108, 101, 115]), (.bool true), (.bool true), (.func (.func 57) #[] #[]), (mkS [102, 97, 117, 108, 116]), (.bool false), (.bool false), (.func (.func 58) #[] #[]), (mkS [114, 101, 112, 97, 105, 114]), (.bool false), (.bool false), (.func (.func 59) #[] #[]), (mkS [114, 101, 112, 108, 97, 99, 101]), (.bool true), (.bool false), (.func (.func 60) #[] #[]), (mkS [114, 101, 109, 111, 118, 101]), (.bool false), (.bool false), (.func (.func 61) #[] #[])]) (r := (.agg #[(mkS [102, 97, 117, 108, 116]), (.bool false), (.bool false), (.func (.func 58) #[] #[])])) (eq_of_beq hc3) rfl rfl rfl (fun _ => by kernel_rfl)) ?_
       refine AL.any (rs := [5]) (by kernel_rfl) (by decide) ?_
       refine ALs.cons0 (i := 5) rfl (Runs.free rfl) rfl ?_ ?_
       ·
        skip
        refine os_store (i := 1) (vs := [(mkS [102, 97, 117, 108, 116]), (.bool false), (.bool false), (.func (.func 58) #[] #[])]) (cs' := [(mkS [102, 97, 117, 108, 116]), (.bool false), (.bool false), (.func (.func 58) #[] #[])]) Tryz.sizeOf100 rfl rfl rfl rfl rfl rfl rfl rfl rfl ?_
        refine ⟨fun w' s => (s.select [2] (by decide) rfl), ?_⟩
        refine AL.done (by kernel_rfl) ?_
        refine then_normal ?_
        exact ⟨b2, [102, 97, 117, 108, 116], false, false, (.func (.func 58) #[] #[]), (Sub.cons rfl (Sub.cons rfl (Sub.cons rfl (Sub.nil _)))), fun w' s => (s.select [1, 2] (by decide) rfl), hm⟩
       exact ALs.nil
      ·
       replace hm := ite_f hc3 hm
       rcases Bool.eq_false_or_eq_true (p_x.kind == 3) with hc4 | hc4
       ·
        replace hm := ite_t hc4 hm
        refine tq (i := 3) rfl (by kernel_rfl) rfl rfl rfl (ov_index_at (j := 3) (cs := [(mkS [112, 97, 114, 116]), (.bool true), (.bool false), (.func (.func 56) #[] #[]), (mkS [99, 121, 99, 108, 101, 115]), (.bool true), (.bool true), (.func (.func 57) #[] #[]), (mkS [102, 97, 117, 108, 116]), (.bool false), (.bool false), (.func (.func 58) #[] #[]), (mkS [114, 101, 112, 97, 105, 114]), (.bool false), (.bool false), (.func (.func 59) #[] #[]), (mkS [114, 101, 112, 108, 97, 99, 101]), (.bool true), (.bool false), (.func (.func 60) #[] #[]), (mkS [114, 101, 109, 111, 118, 101]), (.bool false), (.bool false), (.func (.func 61) #[] #[])]) (r := (.agg #[(mkS [114, 101, 112, 97, 105, 114]), (.bool false), (.bool false), (.func (.func 59) #[] #[])])) (eq_of_beq hc4) rfl rfl rfl (fun _ => by kernel_rfl)) ?_
        refine AL.any (rs := [5]) (by kernel_rfl) (by decide) ?_
        refine ALs.cons0 (i := 5) rfl (Runs.free rfl) rfl ?_ ?_
        ·
         skip
         refine os_store (i := 1) (vs := [(mkS [114, 101, 112, 97, 105, 114]), (.bool false), (.bool false), (.func (.func 59) #[] #[])]) (cs' := [(mkS [114, 101, 112, 97, 105, 114]), (.bool false), (.bool false), (.func (.func 59) #[] #[])]) Tryz.sizeOf100 rfl rfl rfl rfl rfl rfl rfl rfl rfl ?_
         refine ⟨fun w' s => (s.select [2] (by decide) rfl), ?_⟩
         refine AL.done (by kernel_rfl) ?_
         refine then_normal ?_
         exact ⟨b2, [114, 101, 112, 97, 105, 114], false, false, (.func (.func 59) #[] #[]), (Sub.cons rfl (Sub.cons rfl (Sub.cons rfl (Sub.nil _)))), fun w' s => (s.select [1, 2] (by decide) rfl), hm⟩
        exact ALs.nil
       ·
        replace hm := ite_f hc4 hm
        rcases Bool.eq_false_or_eq_true (p_x.kind == 4) with hc5 | hc5
        ·
         replace hm := ite_t hc5 hm
         refine tq (i := 3) rfl (by kernel_rfl) rfl rfl rfl (ov_index_at (j := 4) (cs := [(mkS [112, 97, 114, 116]), (.bool true), (.bool false), (.func (.func 56) #[] #[]), (mkS [99, 121, 99, 108, 101, 115]), (.bool true), (.bool true), (.func (.func 57) #[] #[]), (mkS [102, 97, 117, 108, 116]), (.bool false), (.bool false), (.func (.func 58) #[] #[]), (mkS [114, 101, 112, 97, 105, 114]), (.bool false), (.bool false), (.func (.func 59) #[] #[]), (mkS [114, 101, 112, 108, 97, 99, 101]), (.bool true), (.bool false), (.func (.func 60) #[] #[]), (mkS [114, 101, 109, 111, 118, 101]), (.bool false), (.bool false), (.func (.func 61) #[] #[])]) (r := (.agg #[(mkS [114, 101, 112, 108, 97, 99, 101]), (.bool true), (.bool false), (.func (.func 60) #[] #[])])) (eq_of_beq hc5) rfl rfl rfl (fun _ => by kernel_rfl)) ?_
         refine AL.any (rs := [5]) (by kernel_rfl) (by decide) ?_
         refine ALs.cons0 (i := 5) rfl (Runs.free rfl) rfl ?_ ?_
         ·
          skip
          refine os_store (i := 1) (vs := [(mkS [114, 101, 112, 108, 97, 99, 101]), (.bool true), (.bool false), (.func (.func 60) #[] #[])]) (cs' := [(mkS [114, 101, 112, 108, 97, 99, 101]), (.bool true), (.bool false), (.func (.func 60) #[] #[])]) Tryz.sizeOf100 rfl rfl rfl rfl rfl rfl rfl rfl rfl ?_
          refine ⟨fun w' s => (s.select [2] (by decide) rfl), ?_⟩
          refine AL.done (by kernel_rfl) ?_
          refine then_normal ?_
          exact ⟨b2, [114, 101, 112, 108, 97, 99, 101], true, false, (.func (.func 60) #[] #[]), (Sub.cons rfl (Sub.cons rfl (Sub.cons rfl (Sub.nil _)))), fun w' s => (s.select [1, 2] (by decide) rfl), hm⟩
         exact ALs.nil
        ·
         replace hm := ite_f hc5 hm
         rcases Bool.eq_false_or_eq_true (p_x.kind == 5) with hc6 | hc6
         ·
          replace hm := ite_t hc6 hm
          refine tq (i := 3) rfl (by kernel_rfl) rfl rfl rfl (ov_index_at (j := 5) (cs := [(mkS [112, 97, 114, 116]), (.bool true), (.bool false), (.func (.func 56) #[] #[]), (mkS [99, 121, 99, 108, 101, 115]), (.bool true), (.bool true), (.func (.func 57) #[] #[]), (mkS [102, 97, 117, 108, 116]), (.bool false), (.bool false), (.func (.func 58) #[] #[]), (mkS [114, 101, 112, 97, 105, 114]), (.bool false), (.bool false), (.func (.func 59) #[] #[]), (mkS [114, 101, 112, 108, 97, 99, 101]), (.bool true), (.bool false), (.func (.func 60) #[] #[]), (mkS [114, 101, 109, 111, 118, 101]), (.bool false), (.bool false), (.func (.func 61) #[] #[])]) (r := (.agg #[(mkS [114, 101, 109, 111, 118, 101]), (.bool false), (.bool false), (.func (.func 61) #[] #[])])) (eq_of_beq hc6) rfl rfl rfl (fun _ => by kernel_rfl)) ?_
          refine AL.any (rs := [5]) (by kernel_rfl) (by decide) ?_
          refine ALs.cons0 (i := 5) rfl (Runs.free rfl) rfl ?_ ?_
          ·
           skip
           refine os_store (i := 1) (vs := [(mkS [114, 101, 109, 111, 118, 101]), (.bool false), (.bool false), (.func (.func 61) #[] #[])]) (cs' := [(mkS [114, 101, 109, 111, 118, 101]), (.bool false), (.bool false), (.func (.func 61) #[] #[])]) Tryz.sizeOf100 rfl rfl rfl rfl rfl rfl rfl rfl rfl ?_
           refine ⟨fun w' s => (s.select [2] (by decide) rfl), ?_⟩
           refine AL.done (by kernel_rfl) ?_
           refine then_normal ?_
           exact ⟨b2, [114, 101, 109, 111, 118, 101], false, false, (.func (.func 61) #[] #[]), (Sub.cons rfl (Sub.cons rfl (Sub.cons rfl (Sub.nil _)))), fun w' s => (s.select [1, 2] (by decide) rfl), hm⟩
          exact ALs.nil
         ·
          replace hm := ite_f hc6 hm
          exact (none_some hm).elim
   exact ALs.nil
  exact ALs.nil
 ·
  rintro g' S' ⟨b9, s1, c1, c2, v1, hsub1, hS1, hm⟩
  refine WP.sub hsub1 (WP.weaken hS1 ?_)
  replace hm := (congrFun (congrFun (congrFun hk1 s1) c1) c2).symm.trans hm
  refine WP.seq (WP.region ?_)
  refine wq rfl rfl rfl (ov_fieldAddr Tryz.underlying100 rfl rfl rfl Tryz.sizeOf9 rfl rfl) ?_
  refine wq rfl rfl rfl (ov_load_box (i := 0) Tryz.isAgg9 rfl rfl rfl rfl) ?_
  obtain ⟨s2, e1, hm⟩ := bind_some hm
  refine wq rfl rfl rfl (ov_sadd' e1 rfl rfl rfl) ?_
  refine wq rfl rfl rfl (ov_fieldAddr Tryz.underlying39 rfl rfl rfl Tryz.sizeOf9 rfl rfl) ?_
  refine wq rfl rfl rfl (ov_load_box (i := 1) Tryz.isAgg9 rfl rfl rfl rfl) ?_
  obtain ⟨s3, e2, hm⟩ := bind_some hm
  refine wq rfl rfl rfl (ov_sadd' e2 rfl rfl rfl) ?_
  refine wq rfl rfl rfl (ov_assign rfl rfl) ?_
  refine WL.nil (then_normal ?_)
  obtain ⟨k2, hk2, hm⟩ := joinK_some hm
  refine WP.seq_join (fun g' S' => ∃ (s6 : (List UInt8)), Sub [(1, (pB b1 0)), (3, (pB b9 0)), (4, (mkS s6)), (1000000007, (.bool false))] g' ∧ (∀ w', S' w' → St w H [.blk b9 100 [(mkS s1), (.bool c1), (.bool c2), v1], .blk b1 39 [(.int .i64 p_x.kind), (mkS p_x.name), (.int .i64 p_x.count), (.int .i64 p_x.strokes)]] H w') ∧ k2 s6 = some r) ?_ ?_
  ·
   skip
   refine WP.seq (WP.region ?_)
   refine wq rfl rfl rfl (ov_fieldAddr Tryz.underlying100 rfl rfl rfl Tryz.sizeOf4 rfl rfl) ?_
   refine wq rfl rfl rfl (ov_load_box (i := 0) Tryz.isAgg4 rfl rfl rfl rfl) ?_
   refine WL.nil (then_normal ?_)
   refine WP.cond rfl (fun hc7 => ?_) (fun hc7 => ?_)
   ·
    replace hm := ite_t hc7 hm
    refine WP.region ?_
    refine wq rfl rfl rfl (ov_move rfl rfl) ?_
    refine wq rfl rfl rfl (ov_fieldAddr Tryz.underlying39 rfl rfl rfl Tryz.sizeOf3 rfl rfl) ?_
    refine wq rfl rfl rfl (ov_load_box (i := 1) Tryz.isAgg3 rfl rfl rfl rfl) ?_
    obtain ⟨r1, e3, hm⟩ := bind_some hm
    refine WL.quiet (Runs.free rfl) rfl rfl (oq_con (r := (mkS r1)) Tryz.call32 rfl rfl (fun w' s => ⟨_, (itoa_con p_x.count  w' H s.hold hG r1 e3)⟩)) ?_
    obtain ⟨s4, e4, hm⟩ := bind_some hm
    refine wq rfl rfl rfl (ov_sadd' e4 rfl rfl rfl) ?_
    obtain ⟨s5, e5, hm⟩ := bind_some hm
    refine wq rfl rfl rfl (ov_sadd' e5 rfl rfl rfl) ?_
    refine wq rfl rfl rfl (ov_assign rfl rfl) ?_
    refine WL.nil (then_normal ?_)
    exact ⟨s5, (Sub.cons rfl (Sub.cons rfl (Sub.cons rfl (Sub.cons rfl (Sub.nil _))))), fun w' s => s, hm⟩
   ·
    replace hm := ite_f hc7 hm
    refine WP.skip (then_normal ?_)
    exact ⟨s3, (Sub.cons rfl (Sub.cons rfl (Sub.cons rfl (Sub.cons rfl (Sub.nil _))))), fun w' s => s, hm⟩
  ·
   rintro g' S' ⟨s6, hsub2, hS2, hm⟩
   refine WP.sub hsub2 (WP.weaken hS2 ?_)
   replace hm := (congrFun hk2 s6).symm.trans hm
   obtain ⟨k3, hk3, hm⟩ := joinK_some hm
   refine WP.seq_join (fun g' S' => ∃ (s9 : (List UInt8)), Sub [(4, (mkS s9)), (1000000007, (.bool false))] g' ∧ (∀ w', S' w' → St w H [] H w') ∧ k3 s9 = some r) ?_ ?_
   ·
    skip
    refine WP.seq (WP.region ?_)
    refine wq rfl rfl rfl (ov_fieldAddr Tryz.underlying100 rfl rfl rfl Tryz.sizeOf4 rfl rfl) ?_
    refine wq rfl rfl rfl (ov_load_box (i := 0) Tryz.isAgg4 rfl rfl rfl rfl) ?_
    refine WL.nil (then_normal ?_)
    refine WP.cond rfl (fun hc8 => ?_) (fun hc8 => ?_)
    ·
     replace hm := ite_t hc8 hm
     refine WP.region ?_
     refine wq rfl rfl rfl (ov_move rfl rfl) ?_
     refine wq rfl rfl rfl (ov_fieldAddr Tryz.underlying39 rfl rfl rfl Tryz.sizeOf3 rfl rfl) ?_
     refine wq rfl rfl rfl (ov_load_box (i := 1) Tryz.isAgg3 rfl rfl rfl rfl) ?_
     obtain ⟨r2, e6, hm⟩ := bind_some hm
     refine WL.quiet (Runs.free rfl) rfl rfl (oq_con (r := (mkS r2)) Tryz.call32 rfl rfl (fun w' s => ⟨_, (itoa_con p_x.strokes  w' H s.hold hG r2 e6)⟩)) ?_
     obtain ⟨s7, e7, hm⟩ := bind_some hm
     refine wq rfl rfl rfl (ov_sadd' e7 rfl rfl rfl) ?_
     obtain ⟨s8, e8, hm⟩ := bind_some hm
     refine wq rfl rfl rfl (ov_sadd' e8 rfl rfl rfl) ?_
     refine wq rfl rfl rfl (ov_assign rfl rfl) ?_
     refine WL.nil (then_normal ?_)
     exact ⟨s8, (Sub.cons rfl (Sub.cons rfl (Sub.nil _))), fun w' s => (s.select [] (by decide) rfl), hm⟩
    ·
     replace hm := ite_f hc8 hm
     refine WP.skip (then_normal ?_)
     exact ⟨s6, (Sub.cons rfl (Sub.cons rfl (Sub.nil _))), fun w' s => (s.select [] (by decide) rfl), hm⟩
   ·
    rintro g' S' ⟨s9, hsub3, hS3, hm⟩
    refine WP.sub hsub3 (WP.weaken hS3 ?_)
    replace hm := (congrFun hk3 s9).symm.trans hm
    refine WP.seq (WP.region ?_)
    refine wq rfl rfl rfl (ov_move rfl rfl) ?_
    refine wq rfl rfl rfl (ov_assign rfl rfl) ?_
    refine WL.nil (then_normal (WP.ret ?_))
    obtain rfl := Option.some.inj hm
    refine retQ_ret Tryz.results29 (Res.tmp rfl Res.nil) rfl (fun w' s => ⟨s.below, ?_⟩)
    exact rfl

end Go.Proofs.YtcgmhlakihjbkaaGreatDoor.W
