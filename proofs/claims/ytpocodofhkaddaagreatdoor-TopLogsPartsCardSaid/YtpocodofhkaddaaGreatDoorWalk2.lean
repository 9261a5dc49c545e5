/- The walks. Written by our own program gen.py; Lean checks it. -/
import Derived.Test.YtpocodofhkaddaaGreatDoorPlain
import Derived.Test.YtpocodofhkaddaaGreatDoorEqs
import Derived.Test.YtpocodofhkaddaaGreatDoorProg
import Derived.Test.YtpocodofhkaddaaGreatDoorExt
import Derived.Test.YtpocodofhkaddaaGreatDoorClone
import Derived.Test.YtpocodofhkaddaaGreatDoorCloneE
import Derived.Test.YtpocodofhkaddaaGreatDoorInsert
import Derived.Test.YtpocodofhkaddaaGreatDoorBuild
import Derived.Test.YtpocodofhkaddaaGreatDoorWalk0
import Derived.Test.YtpocodofhkaddaaGreatDoorWalk1
set_option linter.unusedVariables false
set_option maxRecDepth 100000
set_option maxHeartbeats 4000000
namespace Go.Proofs.YtpocodofhkaddaaGreatDoor.W
open Go Go.RowKit
theorem journal_Run_con (p_l : (List Entry)) (ao1 : Option Addr) (cap1 : Nat) (w : World) (H : Heap) (hH : Le H (hp w)) (h1 : SL H encEntry ao1 p_l) (hc1 : p_l.length ≤ cap1) (hG : Glob H) (r : (Machine × Int × Int)) (hm : journal_Run p_l = some r) :
  Con Tryz.prog 8 [(.slice ao1 p_l.length cap1)] w H (fun v H' => ∃ (ao2 : Option Addr) (cap2 : Nat), v = (.tuple #[(.agg #[(.slice ao2 r.1.items.length cap2), (.int .i64 r.1.cycles)]), (.int .i64 r.2.1), (.int .i64 r.2.2)]) ∧ SL H' encItem ao2 r.1.items ∧ r.1.items.length ≤ cap2) := by
 unfold journal_Run at hm
 refine con_of hH Tryz.func8 rfl 37 Tryz.ntmps8 rfl ?_
 refine WP.seq (WP.region ?_)
 refine WL.step (Runs.free rfl) rfl rfl (os_alloc (cs := [(.slice none 0 0), (.int .i64 0)]) Tryz.zeroValue36 rfl rfl (fun b1 => ?_))
 refine wq rfl rfl rfl (ov_assign rfl rfl) ?_
 refine wq rfl rfl rfl (ov_assign rfl rfl) ?_
 refine WL.nil (then_normal (WP.seq (WP.seq (WP.region ?_))))
 refine wq rfl rfl rfl (ov_move rfl rfl) ?_
 refine wq rfl rfl rfl (ov_len_slice Tryz.underlying22 rfl rfl) ?_
 refine wq rfl rfl rfl (ov_gtr rfl rfl rfl) ?_
 refine WL.nil (then_normal ?_)
 refine WP.cond rfl (fun hc3 => ?_) (fun hc3 => ?_)
 ·
  replace hm := ite_t hc3 hm
  refine WP.seq (WP.region ?_)
  refine wq rfl rfl rfl (ov_build (r := (.agg #[(.slice none 0 0), (.int .i64 0)])) rfl rfl (fun _ => by kernel_rfl)) ?_
  refine WL.step0 (Runs.free rfl) rfl (os_store (i := 0) (vs := [(.slice none 0 0), (.int .i64 0)]) (cs' := [(.slice none 0 0), (.int .i64 0)]) Tryz.sizeOf36 rfl rfl rfl rfl rfl rfl rfl rfl rfl ?_)
  refine wq rfl rfl rfl (ov_assign rfl rfl) ?_
  refine wq rfl rfl rfl (ov_assign rfl rfl) ?_
  refine WL.nil (then_normal (WP.ret (then_ret ?_)))
  obtain rfl := Option.some.inj hm
  refine retQ_ret Tryz.results8 (Res.cell rfl (box_loads (i := 0) Tryz.isAgg36 Tryz.sizeOf36 rfl rfl) (Res.tmp rfl (Res.tmp rfl Res.nil))) rfl (fun w' s => ⟨s.below, ?_⟩)
  exact ⟨none, 0, rfl, SL.nil _ _ _, Nat.le_refl _⟩
 ·
  replace hm := ite_f hc3 hm
  refine WP.skip (then_normal (WP.seq (WP.region ?_)))
  refine WL.step (Runs.free rfl) rfl rfl (os_alloc (cs := [(.slice none 0 0), (.int .i64 0)]) Tryz.zeroValue36 rfl rfl (fun b2 => ?_))
  refine WL.nil (then_normal ?_)
  obtain ⟨k1, hk1, hm⟩ := joinK_some hm
  refine WP.seq_join (fun g' S' => ∃ (H4 : Heap) (l3 : (List Item)) (ao6 : Option Addr) (cap6 : Nat) (i5 : Int), Le H H4 ∧ SL H4 encItem ao6 l3 ∧ l3.length ≤ cap6 ∧ Sub [(2, (pB b1 0)), (5, (pB b2 0)), (1000000007, (.bool false))] g' ∧ (∀ w', S' w' → St w H [.blk b2 36 [(.slice ao6 l3.length cap6), (.int .i64 i5)], .blk b1 36 [(.slice none 0 0), (.int .i64 0)]] H4 w') ∧ k1 l3 i5 = some r) ?_ ?_
  ·
   skip
   refine WP.seq (WP.region ?_)
   refine wq rfl rfl rfl (ov_move rfl rfl) ?_
   refine wq rfl rfl rfl (ov_len_slice Tryz.underlying22 rfl rfl) ?_
   refine wq rfl rfl rfl (ov_move rfl rfl) ?_
   refine WL.nil (then_normal (WP.block ?_))
   refine WP.loop (fun m1 g' S' => ∃ (H1 : Heap) (i1 : Int) (l1 : (List Item)) (ao3 : Option Addr) (cap3 : Nat) (i2 : Int), Le H H1 ∧ SL H1 encItem ao3 l1 ∧ l1.length ≤ cap3 ∧ Sub [(2, (pB b1 0)), (5, (pB b2 0)), (13, (.slice ao1 p_l.length cap1)), (14, (.int .i64 (p_l.length : Int))), (15, (.int .i64 i1)), (1000000007, (.bool false))] g' ∧ (∀ w', S' w' → St w H [.blk b2 36 [(.slice ao3 l1.length cap3), (.int .i64 i2)], .blk b1 36 [(.slice none 0 0), (.int .i64 0)]] H1 w') ∧ journal_Run_loop1 p_l k1 m1 i1 l1 i2 = some r) ((Int.toNat ((p_l.length : Int) - 0) + 1)) ⟨H, 0, [], none, 0, 0, (Le.refl _), (SL.nil _ _ _), (Nat.le_refl _), (Sub.cons rfl (Sub.cons rfl (Sub.cons rfl (Sub.cons rfl (Sub.cons rfl (Sub.cons rfl (Sub.nil _))))))), fun w' s => s, hm⟩ ?_ ?_
   ·
    rintro g' S' ⟨_, _, _, _, _, _, _, _, _, _, _, hm⟩
    exact none_some hm
   ·
    rintro m1 g' S' ⟨H1, i1, l1, ao3, cap3, i2, hle1, h3, hc4, hsub1, hS1, hm⟩
    refine WP.sub hsub1 (WP.weaken hS1 ?_)
    rw [journal_Run_loop1] at hm
    replace h1 := h1.mono hle1
    replace hG := hG.mono hle1
    refine WP.seq (WP.region ?_)
    refine wq rfl rfl rfl (ov_lss rfl rfl rfl) ?_
    refine WL.nil (then_normal (WP.seq ?_))
    refine WP.cond rfl (fun hc5 => ?_) (fun hc5 => ?_)
    ·
     replace hm := ite_t hc5 hm
     refine WP.skip (then_normal (WP.seq (WP.block (WP.seq (WP.region ?_)))))
     refine wq rfl rfl rfl (ov_move rfl rfl) ?_
     obtain ⟨x1, e1, hm⟩ := bind_some hm
     obtain ⟨h4, h5, h6, cs1, h7, h8⟩ := h1.get e1 (by decide)
     obtain rfl : cs1 = [(.int .i64 x1.kind), (mkS x1.name), (.int .i64 x1.count), (.int .i64 x1.strokes)] := h7
     refine wq rfl rfl rfl (ov_indexAddr Tryz.underlying22 Tryz.sizeOf24 rfl rfl rfl h4 h5 h6) ?_
     refine wq rfl rfl rfl (ov_load_elems (vs := [(.int .i64 x1.kind), (mkS x1.name), (.int .i64 x1.count), (.int .i64 x1.strokes)]) Tryz.isAgg24 Tryz.sizeOf24 rfl rfl rfl h8 h6) ?_
     refine WL.step (Runs.free rfl) rfl rfl (os_alloc (cs := [(.int .i64 0), (mkS []), (.int .i64 0), (.int .i64 0)]) Tryz.zeroValue24 rfl rfl (fun b3 => ?_))
     refine wq rfl rfl rfl (ov_assign rfl rfl) ?_
     refine WL.step0 (Runs.free rfl) rfl (os_store (i := 0) (vs := [(.int .i64 x1.kind), (mkS x1.name), (.int .i64 x1.count), (.int .i64 x1.strokes)]) (cs' := [(.int .i64 x1.kind), (mkS x1.name), (.int .i64 x1.count), (.int .i64 x1.strokes)]) Tryz.sizeOf24 rfl rfl rfl rfl rfl rfl rfl rfl rfl ?_)
     refine WL.nil (then_normal (WP.seq (WP.region ?_)))
     refine wq rfl rfl rfl (ov_load_whole (i := 0) Tryz.isAgg24 Tryz.sizeOf24 rfl rfl rfl rfl) ?_
     obtain ⟨r1, e2, hm⟩ := bind_some hm
     refine WL.quiet (Runs.free rfl) rfl rfl (oq_con (r := (.int .i64 r1)) Tryz.call20 rfl rfl (fun w' s => ⟨_, (journal_Right_con x1  w' H1 s.hold hG r1 e2)⟩)) ?_
     refine wq rfl rfl rfl (ov_assign rfl rfl) ?_
     refine WL.nil (then_normal ?_)
     obtain ⟨k2, hk2, hm⟩ := joinK_some hm
     refine WP.seq_join (fun g' S' => ∃ (H3 : Heap) (i3 : Int) (l2 : (List Item)) (ao5 : Option Addr) (cap5 : Nat) (i4 : Int), Le H1 H3 ∧ SL H3 encItem ao5 l2 ∧ l2.length ≤ cap5 ∧ Sub [(2, (pB b1 0)), (5, (pB b2 0)), (6, (.int .i64 i1)), (8, (.int .i64 i3)), (13, (.slice ao1 p_l.length cap1)), (14, (.int .i64 (p_l.length : Int))), (15, (.int .i64 i1)), (1000000007, (.bool false))] g' ∧ (∀ w', S' w' → St w H [.blk b2 36 [(.slice ao5 l2.length cap5), (.int .i64 i4)], .blk b1 36 [(.slice none 0 0), (.int .i64 0)]] H3 w') ∧ k2 i3 l2 i4 = some r) ?_ ?_
     ·
      skip
      refine WP.seq (WP.region ?_)
      refine wq rfl rfl rfl (ov_move rfl rfl) ?_
      refine wq rfl rfl rfl (ov_eql rfl rfl rfl) ?_
      refine WL.nil (then_normal ?_)
      refine WP.cond rfl (fun hc6 => ?_) (fun hc6 => ?_)
      ·
       replace hm := ite_t hc6 hm
       refine WP.region ?_
       refine wq rfl rfl rfl (ov_load_whole (i := 1) Tryz.isAgg36 Tryz.sizeOf36 rfl rfl rfl rfl) ?_
       refine wq rfl rfl rfl (ov_load_whole (i := 0) Tryz.isAgg24 Tryz.sizeOf24 rfl rfl rfl rfl) ?_
       obtain ⟨r2, e3, hm⟩ := bind_some hm
       refine WL.step (Runs.free rfl) rfl rfl (os_con Tryz.call21 rfl rfl (fun w' s => (journal_done_con (Machine.mk l1 i2) x1 ao3 cap3  w' H1 s.hold h3 hc4 hG r2 e3)) (fun rr1 H2 hle2 hR1 => ?_))
       replace h1 := h1.mono hle2
       replace h8 := h8.mono hle2
       replace h3 := h3.mono hle2
       replace hG := hG.mono hle2
       obtain ⟨ao4, cap4, rfl, h9, hc7⟩ := hR1
       refine wq rfl rfl rfl (ov_move rfl rfl) ?_
       refine wq rfl rfl rfl (ov_extract rfl rfl rfl) ?_
       refine wq rfl rfl rfl (ov_extract rfl rfl rfl) ?_
       refine WL.step0 (Runs.free rfl) rfl (os_store (i := 1) (vs := [(.slice ao4 r2.1.items.length cap4), (.int .i64 r2.1.cycles)]) (cs' := [(.slice ao4 r2.1.items.length cap4), (.int .i64 r2.1.cycles)]) Tryz.sizeOf36 rfl rfl rfl rfl rfl rfl rfl rfl rfl ?_)
       refine wq rfl rfl rfl (ov_assign rfl rfl) ?_
       refine WL.nil (then_normal ?_)
       exact ⟨H2, r2.2, r2.1.items, ao4, cap4, r2.1.cycles, hle2, h9, hc7, (Sub.cons rfl (Sub.cons rfl (Sub.cons rfl (Sub.cons rfl (Sub.cons rfl (Sub.cons rfl (Sub.cons rfl (Sub.cons rfl (Sub.nil _))))))))), fun w' s => (s.select [1, 2] (by decide) rfl), hm⟩
      ·
       replace hm := ite_f hc6 hm
       refine WP.skip (then_normal ?_)
       exact ⟨H1, r1, l1, ao3, cap3, i2, (Le.refl _), h3, hc4, (Sub.cons rfl (Sub.cons rfl (Sub.cons rfl (Sub.cons rfl (Sub.cons rfl (Sub.cons rfl (Sub.cons rfl (Sub.cons rfl (Sub.nil _))))))))), fun w' s => (s.select [1, 2] (by decide) rfl), hm⟩
     ·
      rintro g' S' ⟨H3, i3, l2, ao5, cap5, i4, hle3, h10, hc8, hsub2, hS2, hm⟩
      refine WP.sub hsub2 (WP.weaken hS2 ?_)
      replace hm := (congrFun (congrFun (congrFun hk2 i3) l2) i4).symm.trans hm
      replace h1 := h1.mono hle3
      replace hG := hG.mono hle3
      refine WP.seq (WP.region ?_)
      refine wq rfl rfl rfl (ov_move rfl rfl) ?_
      refine wq rfl rfl rfl (ov_neq rfl rfl rfl) ?_
      refine WL.nil (then_normal ?_)
      refine WP.cond rfl (fun hc9 => ?_) (fun hc9 => ?_)
      ·
       replace hm := ite_t hc9 hm
       refine WP.seq (WP.region ?_)
       refine wq rfl rfl rfl (ov_build (r := (.agg #[(.slice none 0 0), (.int .i64 0)])) rfl rfl (fun _ => by kernel_rfl)) ?_
       refine wq rfl rfl rfl (ov_move rfl rfl) ?_
       refine wq rfl rfl rfl (ov_move rfl rfl) ?_
       refine WL.step0 (Runs.free rfl) rfl (os_store (i := 1) (vs := [(.slice none 0 0), (.int .i64 0)]) (cs' := [(.slice none 0 0), (.int .i64 0)]) Tryz.sizeOf36 rfl rfl rfl rfl rfl rfl rfl rfl rfl ?_)
       refine wq rfl rfl rfl (ov_assign rfl rfl) ?_
       refine wq rfl rfl rfl (ov_assign rfl rfl) ?_
       refine WL.nil (then_normal (WP.ret (block_ret (then_ret (then_ret (block_ret (then_ret ?_)))))))
       obtain rfl := Option.some.inj hm
       refine retQ_ret Tryz.results8 (Res.cell rfl (box_loads (i := 1) Tryz.isAgg36 Tryz.sizeOf36 rfl rfl) (Res.tmp rfl (Res.tmp rfl Res.nil))) rfl (fun w' s => ⟨s.below, ?_⟩)
       exact ⟨none, 0, rfl, SL.nil _ _ _, Nat.le_refl _⟩
      ·
       replace hm := ite_f hc9 hm
       refine WP.skip (block_normal (then_normal (WP.region ?_)))
       refine wq rfl rfl rfl (ov_add rfl rfl rfl) ?_
       refine wq rfl rfl rfl (ov_move rfl rfl) ?_
       refine WL.nil (then_normal ?_)
       exact ⟨H3, (IntKind.wrap .i64 (i1 + 1)), l2, ao5, cap5, i4, (hle1.trans hle3), h10, hc8, (Sub.cons rfl (Sub.cons rfl (Sub.cons rfl (Sub.cons rfl (Sub.cons rfl (Sub.cons rfl (Sub.nil _))))))), fun w' s => s, hm⟩
    ·
     replace hm := ite_f hc5 hm
     refine WP.exit (then_exit (then_exit (block_here (then_normal ?_))))
     exact ⟨H1, l1, ao3, cap3, i2, hle1, h3, hc4, (Sub.cons rfl (Sub.cons rfl (Sub.cons rfl (Sub.nil _)))), fun w' s => s, hm⟩
  ·
   rintro g' S' ⟨H4, l3, ao6, cap6, i5, hle4, h11, hc10, hsub3, hS3, hm⟩
   refine WP.sub hsub3 (WP.weaken hS3 ?_)
   replace hm := (congrFun (congrFun hk1 l3) i5).symm.trans hm
   replace hG := hG.mono hle4
   refine WP.seq (WP.region ?_)
   refine wq rfl rfl rfl (ov_load_whole (i := 0) Tryz.isAgg36 Tryz.sizeOf36 rfl rfl rfl rfl) ?_
   refine WL.step0 (Runs.free rfl) rfl (os_store (i := 1) (vs := [(.slice ao6 l3.length cap6), (.int .i64 i5)]) (cs' := [(.slice ao6 l3.length cap6), (.int .i64 i5)]) Tryz.sizeOf36 rfl rfl rfl rfl rfl rfl rfl rfl rfl ?_)
   refine wq rfl rfl rfl (ov_assign rfl rfl) ?_
   refine wq rfl rfl rfl (ov_assign rfl rfl) ?_
   refine WL.nil (then_normal (WP.ret ?_))
   obtain rfl := Option.some.inj hm
   refine retQ_ret Tryz.results8 (Res.cell rfl (box_loads (i := 1) Tryz.isAgg36 Tryz.sizeOf36 rfl rfl) (Res.tmp rfl (Res.tmp rfl Res.nil))) rfl (fun w' s => ⟨s.below, ?_⟩)
   exact ⟨ao6, cap6, rfl, h11.mono s.le_newer, hc10⟩

theorem journal_text_con (p_x : Entry) (w : World) (H : Heap) (hH : Le H (hp w)) (hG : Glob H) (r : (List UInt8)) (hm : journal_text p_x = some r) :
  Con Tryz.prog 25 [(.agg #[(.int .i64 p_x.kind), (mkS p_x.name), (.int .i64 p_x.count), (.int .i64 p_x.strokes)])] w H (fun v _ => v = (mkS r)) := by
 unfold journal_text at hm
 refine con_of hH Tryz.func25 rfl 32 Tryz.ntmps25 rfl ?_
 refine WP.seq (WP.region ?_)
 refine WL.step (Runs.free rfl) rfl rfl (os_box (cs := [(.int .i64 p_x.kind), (mkS p_x.name), (.int .i64 p_x.count), (.int .i64 p_x.strokes)]) rfl rfl rfl (fun b1 => ?_))
 refine wq rfl rfl rfl (ov_assign rfl rfl) ?_
 refine WL.nil (then_normal ?_)
 obtain ⟨k1, hk1, hm⟩ := joinK_some hm
 refine WP.seq_join (fun g' S' => ∃ (b11 : Nat) (s1 : (List UInt8)) (c1 : Bool) (c2 : Bool) (v1 : Value), Sub [(1, (pB b1 0)), (3, (pB b11 0)), (1000000007, (.bool false))] g' ∧ (∀ w', S' w' → St w H [.blk b11 87 [(mkS s1), (.bool c1), (.bool c2), v1], .blk b1 24 [(.int .i64 p_x.kind), (mkS p_x.name), (.int .i64 p_x.count), (.int .i64 p_x.strokes)]] H w') ∧ k1 s1 c1 c2 = some r) ?_ ?_
 ·
  skip
  refine WP.region_any (S₀ := St w H [.blk b1 24 [(.int .i64 p_x.kind), (mkS p_x.name), (.int .i64 p_x.count), (.int .i64 p_x.strokes)]] H) 6 rfl (by kernel_rfl) (fun w' s => s) (fun _ s => s.drew) ?_
  refine tq (i := 1) rfl (by kernel_rfl) rfl rfl rfl (ov_fieldAddr Tryz.underlying24 rfl rfl rfl Tryz.sizeOf3 rfl rfl) ?_
  refine tq (i := 2) rfl (by kernel_rfl) rfl rfl rfl (ov_load_box (i := 0) Tryz.isAgg3 rfl rfl rfl rfl) ?_
  refine AL.any (rs := [0, 4]) (by kernel_rfl) (by decide) ?_
  refine ALs.cons (i := 0) rfl (Runs.free rfl) rfl rfl ?_ ?_
  ·
   skip
   refine os_inline (cap := []) (vs := []) Tryz.call37 rfl rfl rfl Tryz.func37 rfl 8 Tryz.ntmps37 rfl (fun w' s => ?_)
   refine WP.seq (WP.region ?_)
   refine WL.step (Runs.free rfl) rfl rfl (os_alloc (cs := [(mkS []), (.bool false), (.bool false), .nilFunc, (mkS []), (.bool false), (.bool false), .nilFunc, (mkS []), (.bool false), (.bool false), .nilFunc, (mkS []), (.bool false), (.bool false), .nilFunc, (mkS []), (.bool false), (.bool false), .nilFunc, (mkS []), (.bool false), (.bool false), .nilFunc]) Tryz.zeroValue88 rfl rfl (fun b2 => ?_))
   refine WL.nil (then_normal (WP.seq (WP.region ?_)))
   refine wq rfl rfl rfl (ov_build (r := (.agg #[(mkS [112, 97, 114, 116]), (.bool true), (.bool false), (.func (.func 54) #[] #[])])) rfl rfl (fun _ => by kernel_rfl)) ?_
   refine wq rfl rfl rfl (ov_build (r := (.agg #[(mkS [99, 121, 99, 108, 101, 115]), (.bool true), (.bool true), (.func (.func 55) #[] #[])])) rfl rfl (fun _ => by kernel_rfl)) ?_
   refine wq rfl rfl rfl (ov_build (r := (.agg #[(mkS [102, 97, 117, 108, 116]), (.bool false), (.bool false), (.func (.func 56) #[] #[])])) rfl rfl (fun _ => by kernel_rfl)) ?_
   refine wq rfl rfl rfl (ov_build (r := (.agg #[(mkS [114, 101, 112, 97, 105, 114]), (.bool false), (.bool false), (.func (.func 57) #[] #[])])) rfl rfl (fun _ => by kernel_rfl)) ?_
   refine wq rfl rfl rfl (ov_build (r := (.agg #[(mkS [114, 101, 112, 108, 97, 99, 101]), (.bool true), (.bool false), (.func (.func 58) #[] #[])])) rfl rfl (fun _ => by kernel_rfl)) ?_
   refine wq rfl rfl rfl (ov_build (r := (.agg #[(mkS [114, 101, 109, 111, 118, 101]), (.bool false), (.bool false), (.func (.func 59) #[] #[])])) rfl rfl (fun _ => by kernel_rfl)) ?_
   refine wq rfl rfl rfl (ov_build (r := (.agg #[(mkS [112, 97, 114, 116]), (.bool true), (.bool false), (.func (.func 54) #[] #[]), (mkS [99, 121, 99, 108, 101, 115]), (.bool true), (.bool true), (.func (.func 55) #[] #[]), (mkS [102, 97, 117, 108, 116]), (.bool false), (.bool false), (.func (.func 56) #[] #[]), (mkS [114, 101, 112, 97, 105, 114]), (.bool false), (.bool false), (.func (.func 57) #[] #[]), (mkS [114, 101, 112, 108, 97, 99, 101]), (.bool true), (.bool false), (.func (.func 58) #[] #[]), (mkS [114, 101, 109, 111, 118, 101]), (.bool false), (.bool false), (.func (.func 59) #[] #[])])) rfl rfl (fun _ => by kernel_rfl)) ?_
   refine WL.step0 (Runs.free rfl) rfl (os_store (i := 0) (vs := [(mkS [112, 97, 114, 116]), (.bool true), (.bool false), (.func (.func 54) #[] #[]), (mkS [99, 121, 99, 108, 101, 115]), (.bool true), (.bool true), (.func (.func 55) #[] #[]), (mkS [102, 97, 117, 108, 116]), (.bool false), (.bool false), (.func (.func 56) #[] #[]), (mkS [114, 101, 112, 97, 105, 114]), (.bool false), (.bool false), (.func (.func 57) #[] #[]), (mkS [114, 101, 112, 108, 97, 99, 101]), (.bool true), (.bool false), (.func (.func 58) #[] #[]), (mkS [114, 101, 109, 111, 118, 101]), (.bool false), (.bool false), (.func (.func 59) #[] #[])]) (cs' := [(mkS [112, 97, 114, 116]), (.bool true), (.bool false), (.func (.func 54) #[] #[]), (mkS [99, 121, 99, 108, 101, 115]), (.bool true), (.bool true), (.func (.func 55) #[] #[]), (mkS [102, 97, 117, 108, 116]), (.bool false), (.bool false), (.func (.func 56) #[] #[]), (mkS [114, 101, 112, 97, 105, 114]), (.bool false), (.bool false), (.func (.func 57) #[] #[]), (mkS [114, 101, 112, 108, 97, 99, 101]), (.bool true), (.bool false), (.func (.func 58) #[] #[]), (mkS [114, 101, 109, 111, 118, 101]), (.bool false), (.bool false), (.func (.func 59) #[] #[])]) Tryz.sizeOf88 rfl rfl rfl rfl rfl rfl rfl rfl rfl ?_)
   refine WL.nil (then_normal (WP.ret ?_))
   refine retQ_ret (v := (.agg #[(mkS [112, 97, 114, 116]), (.bool true), (.bool false), (.func (.func 54) #[] #[]), (mkS [99, 121, 99, 108, 101, 115]), (.bool true), (.bool true), (.func (.func 55) #[] #[]), (mkS [102, 97, 117, 108, 116]), (.bool false), (.bool false), (.func (.func 56) #[] #[]), (mkS [114, 101, 112, 97, 105, 114]), (.bool false), (.bool false), (.func (.func 57) #[] #[]), (mkS [114, 101, 112, 108, 97, 99, 101]), (.bool true), (.bool false), (.func (.func 58) #[] #[]), (mkS [114, 101, 109, 111, 118, 101]), (.bool false), (.bool false), (.func (.func 59) #[] #[])])) Tryz.results37 (Res.cell rfl (box_loads (i := 0) Tryz.isAgg88 Tryz.sizeOf88 rfl rfl) Res.nil) rfl (fun w' s => ⟨_, ?_, s⟩)
   refine ⟨fun w' s => (s.select [1] (by decide) rfl), ?_⟩
   rcases Bool.eq_false_or_eq_true (p_x.kind == 0) with hc1 | hc1
   ·
    replace hm := ite_t hc1 hm
    refine tq (i := 3) rfl (by kernel_rfl) rfl rfl rfl (ov_index_at (j := 0) (cs := [(mkS [112, 97, 114, 116]), (.bool true), (.bool false), (.func (.func 54) #[] #[]), (mkS [99, 121, 99, 108, 101, 115]), (.bool true), (.bool true), (.func (.func 55) #[] #[]), (mkS [102, 97, 117, 108, 116]), (.bool false), (.bool false), (.func (.func 56) #[] #[]), (mkS [114, 101, 112, 97, 105, 114]), (.bool false), (.bool false), (.func (.func 57) #[] #[]), (mkS [114, 101, 112, 108, 97, 99, 101]), (.bool true), (.bool false), (.func (.func 58) #[] #[]), (mkS [114, 101, 109, 111, 118, 101]), (.bool false), (.bool false), (.func (.func 59) #[] #[])]) (r := (.agg #[(mkS [112, 97, 114, 116]), (.bool true), (.bool false), (.func (.func 54) #[] #[])])) (eq_of_beq hc1) rfl rfl rfl (fun _ => by kernel_rfl)) ?_
    refine AL.any (rs := [4]) (by kernel_rfl) (by decide) ?_
    refine ALs.cons (i := 4) rfl (Runs.free rfl) rfl rfl ?_ ?_
    ·
     skip
     refine os_alloc (cs := [(mkS []), (.bool false), (.bool false), .nilFunc]) Tryz.zeroValue87 rfl rfl (fun b3 => ?_)
     refine ⟨fun w' s => (s.select [2] (by decide) rfl), ?_⟩
     refine AL.any (rs := [5]) (by kernel_rfl) (by decide) ?_
     refine ALs.cons0 (i := 5) rfl (Runs.free rfl) rfl ?_ ?_
     ·
      skip
      refine os_store (i := 0) (vs := [(mkS [112, 97, 114, 116]), (.bool true), (.bool false), (.func (.func 54) #[] #[])]) (cs' := [(mkS [112, 97, 114, 116]), (.bool true), (.bool false), (.func (.func 54) #[] #[])]) Tryz.sizeOf87 rfl rfl rfl rfl rfl rfl rfl rfl rfl ?_
      refine ⟨fun w' s => (s.select [2] (by decide) rfl), ?_⟩
      refine AL.done (by kernel_rfl) ?_
      refine then_normal ?_
      exact ⟨b3, [112, 97, 114, 116], true, false, (.func (.func 54) #[] #[]), (Sub.cons rfl (Sub.cons rfl (Sub.cons rfl (Sub.nil _)))), fun w' s => (s.select [0, 2] (by decide) rfl), hm⟩
     exact ALs.nil
    exact ALs.nil
   ·
    replace hm := ite_f hc1 hm
    rcases Bool.eq_false_or_eq_true (p_x.kind == 1) with hc2 | hc2
    ·
     replace hm := ite_t hc2 hm
     refine tq (i := 3) rfl (by kernel_rfl) rfl rfl rfl (ov_index_at (j := 1) (cs := [(mkS [112, 97, 114, 116]), (.bool true), (.bool false), (.func (.func 54) #[] #[]), (mkS [99, 121, 99, 108, 101, 115]), (.bool true), (.bool true), (.func (.func 55) #[] #[]), (mkS [102, 97, 117, 108, 116]), (.bool false), (.bool false), (.func (.func 56) #[] #[]), (mkS [114, 101, 112, 97, 105, 114]), (.bool false), (.bool false), (.func (.func 57) #[] #[]), (mkS [114, 101, 112, 108, 97, 99, 101]), (.bool true), (.bool false), (.func (.func 58) #[] #[]), (mkS [114, 101, 109, 111, 118, 101]), (.bool false), (.bool false), (.func (.func 59) #[] #[])]) (r := (.agg #[(mkS [99, 121, 99, 108, 101, 115]), (.bool true), (.bool true), (.func (.func 55) #[] #[])])) (eq_of_beq hc2) rfl rfl rfl (fun _ => by kernel_rfl)) ?_
     refine AL.any (rs := [4]) (by kernel_rfl) (by decide) ?_
     refine ALs.cons (i := 4) rfl (Runs.free rfl) rfl rfl ?_ ?_
     ·
      skip
      refine os_alloc (cs := [(mkS []), (.bool false), (.bool false), .nilFunc]) Tryz.zeroValue87 rfl rfl (fun b4 => ?_)
      refine ⟨fun w' s => (s.select [2] (by decide) rfl), ?_⟩
      refine AL.any (rs := [5]) (by kernel_rfl) (by decide) ?_
      refine ALs.cons0 (i := 5) rfl (Runs.free rfl) rfl ?_ ?_
      ·
       skip
       refine os_store (i := 0) (vs := [(mkS [99, 121, 99, 108, 101, 115]), (.bool true), (.bool true), (.func (.func 55) #[] #[])]) (cs' := [(mkS [99, 121, 99, 108, 101, 115]), (.bool true), (.bool true), (.func (.func 55) #[] #[])]) Tryz.sizeOf87 rfl rfl rfl rfl rfl rfl rfl rfl rfl ?_
       refine ⟨fun w' s => (s.select [2] (by decide) rfl), ?_⟩
       refine AL.done (by kernel_rfl) ?_
       refine then_normal ?_
       exact ⟨b4, [99, 121, 99, 108, 101, 115], true, true, (.func (.func 55) #[] #[]), (Sub.cons rfl (Sub.cons rfl (Sub.cons rfl (Sub.nil _)))), fun w' s => (s.select [0, 2] (by decide) rfl), hm⟩
      exact ALs.nil
     exact ALs.nil
    ·
     replace hm := ite_f hc2 hm
     rcases Bool.eq_false_or_eq_true (p_x.kind == 2) with hc3 | hc3
     ·
      replace hm := ite_t hc3 hm
      refine tq (i := 3) rfl (by kernel_rfl) rfl rfl rfl (ov_index_at (j := 2) (cs := [(mkS [112, 97, 114, 116]), (.bool true), (.bool false), (.func (.func 54) #[] #[]), (mkS [99, 121, 99, 108, 101, 115]), (.bool true), (.bool true), (.func (.func 55) #[] #[]), (mkS [102, 97, 117, 108, 116]), (.bool false), (.bool false), (.func (.func 56) #[] #[]), (mkS [114, 101, 112, 97, 105, 114]), (.bool false), (.bool false), (.func (.func 57) #[] #[]), (mkS [114, 101, 112, 108, 97, 99, 101]), (.bool true), (.bool false), (.func (.func 58) #[] #[]), (mkS [114, 101, 109, 111, 118, 101]), (.bool false), (.bool false), (.func (.func 59) #[] #[])]) (r := (.agg #[(mkS [102, 97, 117, 108, 116]), (.bool false), (.bool false), (.func (.func 56) #[] #[])])) (eq_of_beq hc3) rfl rfl rfl (fun _ => by kernel_rfl)) ?_
      refine AL.any (rs := [4]) (by kernel_rfl) (by decide) ?_
      refine ALs.cons (i := 4) rfl (Runs.free rfl) rfl rfl ?_ ?_
      ·
       skip
       refine os_alloc (cs := [(mkS []), (.bool false), (.bool false), .nilFunc]) Tryz.zeroValue87 rfl rfl (fun b5 => ?_)
       refine ⟨fun w' s => (s.select [2] (by decide) rfl), ?_⟩
       refine AL.any (rs := [5]) (by kernel_rfl) (by decide) ?_
       refine ALs.cons0 (i := 5) rfl (Runs.free rfl) rfl ?_ ?_
       ·
        skip
        refine os_store (i := 0) (vs := [(mkS [102, 97, 117, 108, 116]), (.bool false), (.bool false), (.func (.func 56) #[] #[])]) (cs' := [(mkS [102, 97, 117, 108, 116]), (.bool false), (.bool false), (.func (.func 56) #[] #[])]) Tryz.sizeOf87 rfl rfl rfl rfl rfl rfl rfl rfl rfl ?_
        refine ⟨fun w' s => (s.select [2] (by decide) rfl), ?_⟩
        refine AL.done (by kernel_rfl) ?_
        refine then_normal ?_
        exact ⟨b5, [102, 97, 117, 108, 116], false, false, (.func (.func 56) #[] #[]), (Sub.cons rfl (Sub.cons rfl (Sub.cons rfl (Sub.nil _)))), fun w' s => (s.select [0, 2] (by decide) rfl), hm⟩
       exact ALs.nil
      exact ALs.nil
     ·
      replace hm := ite_f hc3 hm
      rcases Bool.eq_false_or_eq_true (p_x.kind == 3) with hc4 | hc4
      ·
       replace hm := ite_t hc4 hm
       refine tq (i := 3) rfl (by kernel_rfl) rfl rfl rfl (ov_index_at (j := 3) (cs := [(mkS [112, 97, 114, 116]), (.bool true), (.bool false), (.func (.func 54) #[] #[]), (mkS [99, 121, 99, 108, 101, 115]), (.bool true), (.bool true), (.func (.func 55) #[] #[]), (mkS [102, 97, 117, 108, 116]), (.bool false), (.bool false), (.func (.func 56) #[] #[]), (mkS [114, 101, 112, 97, 105, 114]), (.bool false), (.bool false), (.func (.func 57) #[] #[]), (mkS [114, 101, 112, 108, 97, 99, 101]), (.bool true), (.bool false), (.func (.func 58) #[] #[]), (mkS [114, 101, 109, 111, 118, 101]), (.bool false), (.bool false), (.func (.func 59) #[] #[])]) (r := (.agg #[(mkS [114, 101, 112, 97, 105, 114]), (.bool false), (.bool false), (.func (.func 57) #[] #[])])) (eq_of_beq hc4) rfl rfl rfl (fun _ => by kernel_rfl)) ?_
       refine AL.any (rs := [4]) (by kernel_rfl) (by decide) ?_
       refine ALs.cons (i := 4) rfl (Runs.free rfl) rfl rfl ?_ ?_
       ·
        skip
        refine os_alloc (cs := [(mkS []), (.bool false), (.bool false), .nilFunc]) Tryz.zeroValue87 rfl rfl (fun b6 => ?_)
        refine ⟨fun w' s => (s.select [2] (by decide) rfl), ?_⟩
        refine AL.any (rs := [5]) (by kernel_rfl) (by decide) ?_
        refine ALs.cons0 (i := 5) rfl (Runs.free rfl) rfl ?_ ?_
        ·
         skip
         refine os_store (i := 0) (vs := [(mkS [114, 101, 112, 97, 105, 114]), (.bool false), (.bool false), (.func (.func 57) #[] #[])]) (cs' := [(mkS [114, 101, 112, 97, 105, 114]), (.bool false), (.bool false), (.func (.func 57) #[] #[])]) Tryz.sizeOf87 rfl rfl rfl rfl rfl rfl rfl rfl rfl ?_
         refine ⟨fun w' s => (s.select [2] (by decide) rfl), ?_⟩
         refine AL.done (by kernel_rfl) ?_
         refine then_normal ?_
         exact ⟨b6, [114, 101, 112, 97, 105, 114], false, false, (.func (.func 57) #[] #[]), (Sub.cons rfl (Sub.cons rfl (Sub.cons rfl (Sub.nil _)))), fun w' s => (s.select [0, 2] (by decide) rfl), hm⟩
        exact ALs.nil
       exact ALs.nil
      ·
       replace hm := ite_f hc4 hm
       rcases Bool.eq_false_or_eq_true (p_x.kind == 4) with hc5 | hc5
       ·
        replace hm := ite_t hc5 hm
        refine tq (i := 3) rfl (by kernel_rfl) rfl rfl rfl (ov_index_at (j := 4) (cs := [(mkS [112, 97, 114, 116]), (.bool true), (.bool false), (.func (.func 54) #[] #[]), (mkS [99, 121, 99, 108, 101, 115]), (.bool true), (.bool true), (.func (.func 55) #[] #[]), (mkS [102, 97, 117, 108, 116]), (.bool false), (.bool false), (.func (.func 56) #[] #[]), (mkS [114, 101, 112, 97, 105, 114]), (.bool false), (.bool false), (.func (.func 57) #[] #[]), (mkS [114, 101, 112, 108, 97, 99, 101]), (.bool true), (.bool false), (.func (.func 58) #[] #[]), (mkS [114, 101, 109, 111, 118, 101]), (.bool false), (.bool false), (.func (.func 59) #[] #[])]) (r := (.agg #[(mkS [114, 101, 112, 108, 97, 99, 101]), (.bool true), (.bool false), (.func (.func 58) #[] #[])])) (eq_of_beq hc5) rfl rfl rfl (fun _ => by kernel_rfl)) ?_
        refine AL.any (rs := [4]) (by kernel_rfl) (by decide) ?_
        refine ALs.cons (i := 4) rfl (Runs.free rfl) rfl rfl ?_ ?_
        ·
         skip
         refine os_alloc (cs := [(mkS []), (.bool false), (.bool false), .nilFunc]) Tryz.zeroValue87 rfl rfl (fun b7 => ?_)
         refine ⟨fun w' s => (s.select [2] (by decide) rfl), ?_⟩
         refine AL.any (rs := [5]) (by kernel_rfl) (by decide) ?_
         refine ALs.cons0 (i := 5) rfl (Runs.free rfl) rfl ?_ ?_
         ·
          skip
          refine os_store (i := 0) (vs := [(mkS [114, 101, 112, 108, 97, 99, 101]), (.bool true), (.bool false), (.func (.func 58) #[] #[])]) (cs' := [(mkS [114, 101, 112, 108, 97, 99, 101]), (.bool true), (.bool false), (.func (.func 58) #[] #[])]) Tryz.sizeOf87 rfl rfl rfl rfl rfl rfl rfl rfl rfl ?_
          refine ⟨fun w' s => (s.select [2] (by decide) rfl), ?_⟩
          refine AL.done (by kernel_rfl) ?_
          refine then_normal ?_
          exact ⟨b7, [114, 101, 112, 108, 97, 99, 101], true, false, (.func (.func 58) #[] #[]), (Sub.cons rfl (Sub.cons rfl (Sub.cons rfl (Sub.nil _)))), fun w' s => (s.select [0, 2] (by decide) rfl), hm⟩
         exact ALs.nil
        exact ALs.nil
       ·
        replace hm := ite_f hc5 hm
        rcases Bool.eq_false_or_eq_true (p_x.kind == 5) with hc6 | hc6
        ·
         replace hm := ite_t hc6 hm
         refine tq (i := 3) rfl (by kernel_rfl) rfl rfl rfl (ov_index_at (j := 5) (cs := [(mkS [112, 97, 114, 116]), (.bool true), (.bool false), (.func (.func 54) #[] #[]), (mkS [99, 121, 99, 108, 101, 115]), (.bool true), (.bool true), (.func (.func 55) #[] #[]), (mkS [102, 97, 117, 108, 116]), (.bool false), (.bool false), (.func (.func 56) #[] #[]), (mkS [114, 101, 112, 97, 105, 114]), (.bool false), (.bool false), (.func (.func 57) #[] #[]), (mkS [114, 101, 112, 108, 97, 99, 101]), (.bool true), (.bool false), (.func (.func 58) #[] #[]), (mkS [114, 101, 109, 111, 118, 101]), (.bool false), (.bool false), (.func (.func 59) #[] #[])]) (r := (.agg #[(mkS [114, 101, 109, 111, 118, 101]), (.bool false), (.bool false), (.func (.func 59) #[] #[])])) (eq_of_beq hc6) rfl rfl rfl (fun _ => by kernel_rfl)) ?_
         refine AL.any (rs := [4]) (by kernel_rfl) (by decide) ?_
         refine ALs.cons (i := 4) rfl (Runs.free rfl) rfl rfl ?_ ?_
         ·
          skip
          refine os_alloc (cs := [(mkS []), (.bool false), (.bool false), .nilFunc]) Tryz.zeroValue87 rfl rfl (fun b8 => ?_)
          refine ⟨fun w' s => (s.select [2] (by decide) rfl), ?_⟩
          refine AL.any (rs := [5]) (by kernel_rfl) (by decide) ?_
          refine ALs.cons0 (i := 5) rfl (Runs.free rfl) rfl ?_ ?_
          ·
           skip
           refine os_store (i := 0) (vs := [(mkS [114, 101, 109, 111, 118, 101]), (.bool false), (.bool false), (.func (.func 59) #[] #[])]) (cs' := [(mkS [114, 101, 109, 111, 118, 101]), (.bool false), (.bool false), (.func (.func 59) #[] #[])]) Tryz.sizeOf87 rfl rfl rfl rfl rfl rfl rfl rfl rfl ?_
           refine ⟨fun w' s => (s.select [2] (by decide) rfl), ?_⟩
           refine AL.done (by kernel_rfl) ?_
           refine then_normal ?_
           exact ⟨b8, [114, 101, 109, 111, 118, 101], false, false, (.func (.func 59) #[] #[]), (Sub.cons rfl (Sub.cons rfl (Sub.cons rfl (Sub.nil _)))), fun w' s => (s.select [0, 2] (by decide) rfl), hm⟩
          exact ALs.nil
         exact ALs.nil
        ·
         replace hm := ite_f hc6 hm
         exact (none_some hm).elim
  refine ALs.cons (i := 4) rfl (Runs.free rfl) rfl rfl ?_ ?_
  ·
   skip
   refine os_alloc (cs := [(mkS []), (.bool false), (.bool false), .nilFunc]) Tryz.zeroValue87 rfl rfl (fun b9 => ?_)
   refine ⟨fun w' s => (s.select [1] (by decide) rfl), ?_⟩
   refine AL.any (rs := [0]) (by kernel_rfl) (by decide) ?_
   refine ALs.cons (i := 0) rfl (Runs.free rfl) rfl rfl ?_ ?_
   ·
    skip
    refine os_inline (cap := []) (vs := []) Tryz.call37 rfl rfl rfl Tryz.func37 rfl 8 Tryz.ntmps37 rfl (fun w' s => ?_)
    refine WP.seq (WP.region ?_)
    refine WL.step (Runs.free rfl) rfl rfl (os_alloc (cs := [(mkS []), (.bool false), (.bool false), .nilFunc, (mkS []), (.bool false), (.bool false), .nilFunc, (mkS []), (.bool false), (.bool false), .nilFunc, (mkS []), (.bool false), (.bool false), .nilFunc, (mkS []), (.bool false), (.bool false), .nilFunc, (mkS []), (.bool false), (.bool false), .nilFunc]) Tryz.zeroValue88 rfl rfl (fun b10 => ?_))
    refine WL.nil (then_normal (WP.seq (WP.region ?_)))
    refine wq rfl rfl rfl (ov_build (r := (.agg #[(mkS [112, 97, 114, 116]), (.bool true), (.bool false), (.func (.func 54) #[] #[])])) rfl rfl (fun _ => by kernel_rfl)) ?_
    refine wq rfl rfl rfl (ov_build (r := (.agg #[(mkS [99, 121, 99, 108, 101, 115]), (.bool true), (.bool true), (.func (.func 55) #[] #[])])) rfl rfl (fun _ => by kernel_rfl)) ?_
    refine wq rfl rfl rfl (ov_build (r := (.agg #[(mkS [102, 97, 117, 108, 116]), (.bool false), (.bool false), (.func (.func 56) #[] #[])])) rfl rfl (fun _ => by kernel_rfl)) ?_
    refine wq rfl rfl rfl (ov_build (r := (.agg #[(mkS [114, 101, 112, 97, 105, 114]), (.bool false), (.bool false), (.func (.func 57) #[] #[])])) rfl rfl (fun _ => by kernel_rfl)) ?_
    refine wq rfl rfl rfl (ov_build (r := (.agg #[(mkS [114, 101, 112, 108, 97, 99, 101]), (.bool true), (.bool false), (.func (.func 58) #[] #[])])) rfl rfl (fun _ => by kernel_rfl)) ?_
    refine wq rfl rfl rfl (ov_build (r := (.agg #[(mkS [114, 101, 109, 111, 118, 101]), (.bool false), (.bool false), (.func (.func 59) #[] #[])])) rfl rfl (fun _ => by kernel_rfl)) ?_
    refine wq rfl rfl rfl (ov_build (r := (.agg #[(mkS [112, 97, 114, 116]), (.bool true), (.bool false), (.func (.func 54) #[] #[]), (mkS [99, 121, 99, 108, 101, 115]), (.bool true), (.bool true), (.func (.func 55) #[] #[]), (mkS [102, 97, 117, 108, 116]), (.bool false), (.bool false), (.func (.func 56) #[] #[]), (mkS [114, 101, 112, 97, 105, 114]), (.bool false), (.bool false), (.func (.func 57) #[] #[]), (mkS [114, 101, 112, 108, 97, 99, 101]), (.bool true), (.bool false), (.func (.func 58) #[] #[]), (mkS [114, 101, 109, 111, 118, 101]), (.bool false), (.bool false), (.func (.func 59) #[] #[])])) rfl rfl (fun _ => by kernel_rfl)) ?_
    refine WL.step0 (Runs.free rfl) rfl (os_store (i := 0) (vs := [(mkS [112, 97, 114, 116]), (.bool true), (.bool false), (.func (.func 54) #[] #[]), (mkS [99, 121, 99, 108, 101, 115]), (.bool true), (.bool true), (.func (.func 55) #[] #[]), (mkS [102, 97, 117, 108, 116]), (.bool false), (.bool false), (.func (.func 56) #[] #[]), (mkS [114, 101, 112, 97, 105, 114]), (.bool false), (.bool false), (.func (.func 57) #[] #[]), (mkS [114, 101, 112, 108, 97, 99, 101]), (.bool true), (.bool false), (.func (.func 58) #[] #[]), (mkS [114, 101, 109, 111, 118, 101]), (.bool false), (.bool false), (.func (.func 59) #[] #[])]) (cs' := [(mkS [112, 97, 114, 116]), (.bool true), (.bool false), (.func (.func 54) #[] #[]), (mkS [99, 121, 99, 108, 101, 115]), (.bool true), (.bool true), (.func (.func 55) #[] #[]), (mkS [102, 97, 117, 108, 116]), (.bool false), (.bool false), (.func (.func 56) #[] #[]), (mkS [114, 101, 112, 97, 105, 114]), (.bool false), (.bool false), (.func (.func 57) #[] #[]), (mkS [114, 101, 112, 108, 97, 99, 101]), (.bool true), (.bool false), (.func (.func 58) #[] #[]), (mkS [114, 101, 109, 111, 118, 101]), (.bool false), (.bool false), (.func (.func 59) #[] #[])]) Tryz.sizeOf88 rfl rfl rfl rfl rfl rfl rfl rfl rfl ?_)
    refine WL.nil (then_normal (WP.ret ?_))
    refine retQ_ret (v := (.agg #[(mkS [112, 97, 114, 116]), (.bool true), (.bool false), (.func (.func 54) #[] #[]), (mkS [99, 121, 99, 108, 101, 115]), (.bool true), (.bool true), (.func (.func 55) #[] #[]), (mkS [102, 97, 117, 108, 116]), (.bool false), (.bool false), (.func (.func 56) #[] #[]), (mkS [114, 101, 112, 97, 105, 114]), (.bool false), (.bool false), (.func (.func 57) #[] #[]), (mkS [114, 101, 112, 108, 97, 99, 101]), (.bool true), (.bool false), (.func (.func 58) #[] #[]), (mkS [114, 101, 109, 111, 118, 101]), (.bool false), (.bool false), (.func (.func 59) #[] #[])])) Tryz.results37 (Res.cell rfl (box_loads (i := 0) Tryz.isAgg88 Tryz.sizeOf88 rfl rfl) Res.nil) rfl (fun w' s => ⟨_, ?_, s⟩)
    refine ⟨fun w' s => (s.select [2] (by decide) rfl), ?_⟩
    rcases Bool.eq_false_or_eq_true (p_x.kind == 0) with hc7 | hc7
    ·
     replace hm := ite_t hc7 hm
     refine tq (i := 3) rfl (by kernel_rfl) rfl rfl rfl (ov_index_at (j := 0) (cs := [(mkS [112, 97, 114, 116]), (.bool true), (.bool false), (.func (.func 54) #[] #[]), (mkS [99, 121, 99, 108, 101, 115]), (.bool true), (.bool true), (.func (.func 55) #[] #[]), (mkS [102, 97, 117, 108, 116]), (.bool false), (.bool false), (.func (.func 56) #[] #[]), (mkS [114, 101, 112, 97, 105, 114]), (.bool false), (.bool false), (.func (.func 57) #[] #[]), (mkS [114, 101, 112, 108, 97, 99, 101]), (.bool true), (.bool false), (.func (.func 58) #[] #[]), (mkS [114, 101, 109, 111, 118, 101]), (.bool false), (.bool false), (.func (.func 59) #[] #[])]) (r := (.agg #[(mkS [112, 97, 114, 116]), (.bool true), (.bool false), (.func (.func 54) #[] #[])])) (eq_of_beq hc7) rfl rfl rfl (fun _ => by kernel_rfl)) ?_
     refine AL.any (rs := [5]) (by kernel_rfl) (by decide) ?_
     refine ALs.cons0 (i := 5) rfl (Runs.free rfl) rfl ?_ ?_
     ·
      skip
      refine os_store (i := 1) (vs := [(mkS [112, 97, 114, 116]), (.bool true), (.bool false), (.func (.func 54) #[] #[])]) (cs' := [(mkS [112, 97, 114, 116]), (.bool true), (.bool false), (.func (.func 54) #[] #[])]) Tryz.sizeOf87 rfl rfl rfl rfl rfl rfl rfl rfl rfl ?_
      refine ⟨fun w' s => (s.select [2] (by decide) rfl), ?_⟩
      refine AL.done (by kernel_rfl) ?_
      refine then_normal ?_
      exact ⟨b9, [112, 97, 114, 116], true, false, (.func (.func 54) #[] #[]), (Sub.cons rfl (Sub.cons rfl (Sub.cons rfl (Sub.nil _)))), fun w' s => (s.select [1, 2] (by decide) rfl), hm⟩
     exact ALs.nil
    ·
     replace hm := ite_f hc7 hm
     rcases Bool.eq_false_or_eq_true (p_x.kind == 1) with hc8 | hc8
     ·
      replace hm := ite_t hc8 hm
      refine tq (i := 3) rfl (by kernel_rfl) rfl rfl rfl (ov_index_at (j := 1) (cs := [(mkS [112, 97, 114, 116]), (.bool true), (.bool false), (.func (.func 54) #[] #[]), (mkS [99, 121, 99, 108, 101, 115]), (.bool true), (.bool true), (.func (.func 55) #[] #[]), (mkS [102, 97, 117, 108, 116]), (.bool false), (.bool false), (.func (.func 56) #[] #[]), (mkS [114, 101, 112, 97, 105, 114]), (.bool false), (.bool false), (.func (.func 57) #[] #[]), (mkS [114, 101, 112, 108, 97, 99, 101]), (.bool true), (.bool false), (.func (.func 58) #[] #[]), (mkS [114, 101, 109, 111, 118, 101]), (.bool false), (.bool false), (.func (.func 59) #[] #[])]) (r := (.agg #[(mkS [99, 121, 99, 108, 101, 115]), (.bool true), (.bool true), (.func (.func 55) #[] #[])])) (eq_of_beq hc8) rfl rfl rfl (fun _ => by kernel_rfl)) ?_
      refine AL.any (rs := [5]) (by kernel_rfl) (by decide) ?_
      refine ALs.cons0 (i := 5) rfl (Runs.free rfl) rfl ?_ ?_
      ·
       skip
       refine os_store (i := 1) (vs := [(mkS [99, 121, 99, 108, 101, 115]), (.bool true), (.bool true), (.func (.func 55) #[] #[])]) (cs' := [(mkS [99, 121, 99, 108, 101, 115]), (.bool true), (.bool true), (.func (.func 55) #[] #[])]) Tryz.sizeOf87 rfl rfl rfl rfl rfl rfl rfl rfl rfl ?_
       refine ⟨fun w' s => (s.select [2] (by decide) rfl), ?_⟩
       refine AL.done (by kernel_rfl) ?_
       refine then_normal ?_
       exact ⟨b9, [99, 121, 99, 108, 101, 115], true, true, (.func (.func 55) #[] #[]), (Sub.cons rfl (Sub.cons rfl (Sub.cons rfl (Sub.nil _)))), fun w' s => (s.select [1, 2] (by decide) rfl), hm⟩
      exact ALs.nil
     ·
      replace hm := ite_f hc8 hm
      rcases Bool.eq_false_or_eq_true (p_x.kind == 2) with hc9 | hc9
      ·
       replace hm := ite_t hc9 hm
       refine tq (i := 3) rfl (by kernel_rfl) rfl rfl rfl (ov_index_at (j := 2) (cs := [(mkS [112, 97, 114, 116]), (.bool true), (.bool false), (.func (.func 54) #[] #[]), (mkS [99, 121, 99, 108, 101, 115]), (.bool true), (.bool true), (.func (.func 55) #[] #[]), (mkS [102, 97, 117, 108, 116]), (.bool false), (.bool false), (.func (.func 56) #[] #[]), (mkS [114, 101, 112, 97, 105, 114]), (.bool false), (.bool false), (.func (.func 57) #[] #[]), (mkS [114, 101, 112, 108, 97, 99, 101]), (.bool true), (.bool false), (.func (.func 58) #[] #[]), (mkS [114, 101, 109, 111, 118, 101]), (.bool false), (.bool false), (.func (.func 59) #[] #[])]) (r := (.agg #[(mkS [102, 97, 117, 108, 116]), (.bool false), (.bool false), (.func (.func 56) #[] #[])])) (eq_of_beq hc9) rfl rfl rfl (fun _ => by kernel_rfl)) ?_
       refine AL.any (rs := [5]) (by kernel_rfl) (by decide) ?_
       refine ALs.cons0 (i := 5) rfl (Runs.free rfl) rfl ?_ ?_
       ·
        skip
        refine os_store (i := 1) (vs := [(mkS [102, 97, 117, 108, 116]), (.bool false), (.bool false), (.func (.func 56) #[] #[])]) (cs' := [(mkS [102, 97, 117, 108, 116]), (.bool false), (.bool false), (.func (.func 56) #[] #[])]) Tryz.sizeOf87 rfl rfl rfl rfl rfl rfl rfl rfl rfl ?_
        refine ⟨fun w' s => (s.select [2] (by decide) rfl), ?_⟩
        refine AL.done (by kernel_rfl) ?_
        refine then_normal ?_
        exact ⟨b9, [102, 97, 117, 108, 116], false, false, (.func (.func 56) #[] #[]), (Sub.cons rfl (Sub.cons rfl (Sub.cons rfl (Sub.nil _)))), fun w' s => (s.select [1, 2] (by decide) rfl), hm⟩
       exact ALs.nil
      ·
       replace hm := ite_f hc9 hm
       rcases Bool.eq_false_or_eq_true (p_x.kind == 3) with hc10 | hc10
       ·
        replace hm := ite_t hc10 hm
        refine tq (i := 3) rfl (by kernel_rfl) rfl rfl rfl (ov_index_at (j := 3) (cs := [(mkS [112, 97, 114, 116]), (.bool true), (.bool false), (.func (.func 54) #[] #[]), (mkS [99, 121, 99, 108, 101, 115]), (.bool true), (.bool true), (.func (.func 55) #[] #[]), (mkS [102, 97, 117, 108, 116]), (.bool false), (.bool false), (.func (.func 56) #[] #[]), (mkS [114, 101, 112, 97, 105, 114]), (.bool false), (.bool false), (.func (.func 57) #[] #[]), (mkS [114, 101, 112, 108, 97, 99, 101]), (.bool true), (.bool false), (.func (.func 58) #[] #[]), (mkS [114, 101, 109, 111, 118, 101]), (.bool false), (.bool false), (.func (.func 59) #[] #[])]) (r := (.agg #[(mkS [114, 101, 112, 97, 105, 114]), (.bool false), (.bool false), (.func (.func 57) #[] #[])])) (eq_of_beq hc10) rfl rfl rfl (fun _ => by kernel_rfl)) ?_
        refine AL.any (rs := [5]) (by kernel_rfl) (by decide) ?_
        refine ALs.cons0 (i := 5) rfl (Runs.free rfl) rfl ?_ ?_
        ·
         skip
         refine os_store (i := 1) (vs := [(mkS [114, 101, 112, 97, 105, 114]), (.bool false), (.bool false), (.func (.func 57) #[] #[])]) (cs' := [(mkS [114, 101, 112, 97, 105, 114]), (.bool false), (.bool false), (.func (.func 57) #[] #[])]) Tryz.sizeOf87 rfl rfl rfl rfl rfl rfl rfl rfl rfl ?_
         refine ⟨fun w' s => (s.select [2] (by decide) rfl), ?_⟩
         refine AL.done (by kernel_rfl) ?_
         refine then_normal ?_
         exact ⟨b9, [114, 101, 112, 97, 105, 114], false, false, (.func (.func 57) #[] #[]), (Sub.cons rfl (Sub.cons rfl (Sub.cons rfl (Sub.nil _)))), fun w' s => (s.select [1, 2] (by decide) rfl), hm⟩
        exact ALs.nil
       ·
        replace hm := ite_f hc10 hm
        rcases Bool.eq_false_or_eq_true (p_x.kind == 4) with hc11 | hc11
        ·
         replace hm := ite_t hc11 hm
         refine tq (i := 3) rfl (by kernel_rfl) rfl rfl rfl (ov_index_at (j := 4) (cs := [(mkS [112, 97, 114, 116]), (.bool true), (.bool false), (.func (.func 54) #[] #[]), (mkS [99, 121, 99, 108, 101, 115]), (.bool true), (.bool true), (.func (.func 55) #[] #[]), (mkS [102, 97, 117, 108, 116]), (.bool false), (.bool false), (.func (.func 56) #[] #[]), (mkS [114, 101, 112, 97, 105, 114]), (.bool false), (.bool false), (.func (.func 57) #[] #[]), (mkS [114, 101, 112, 108, 97, 99, 101]), (.bool true), (.bool false), (.func (.func 58) #[] #[]), (mkS [114, 101, 109, 111, 118, 101]), (.bool false), (.bool false), (.func (.func 59) #[] #[])]) (r := (.agg #[(mkS [114, 101, 112, 108, 97, 99, 101]), (.bool true), (.bool false), (.func (.func 58) #[] #[])])) (eq_of_beq hc11) rfl rfl rfl (fun _ => by kernel_rfl)) ?_
         refine AL.any (rs := [5]) (by kernel_rfl) (by decide) ?_
         refine ALs.cons0 (i := 5) rfl (Runs.free rfl) rfl ?_ ?_
         ·
          skip
          refine os_store (i := 1) (vs := [(mkS [114, 101, 112, 108, 97, 99, 101]), (.bool true), (.bool false), (.func (.func 58) #[] #[])]) (cs' := [(mkS [114, 101, 112, 108, 97, 99, 101]), (.bool true), (.bool false), (.func (.func 58) #[] #[])]) Tryz.sizeOf87 rfl rfl rfl rfl rfl rfl rfl rfl rfl ?_
          refine ⟨fun w' s => (s.select [2] (by decide) rfl), ?_⟩
          refine AL.done (by kernel_rfl) ?_
          refine then_normal ?_
          exact ⟨b9, [114, 101, 112, 108, 97, 99, 101], true, false, (.func (.func 58) #[] #[]), (Sub.cons rfl (Sub.cons rfl (Sub.cons rfl (Sub.nil _)))), fun w' s => (s.select [1, 2] (by decide) rfl), hm⟩
         exact ALs.nil
        ·
         replace hm := ite_f hc11 hm
         rcases Bool.eq_false_or_eq_true (p_x.kind == 5) with hc12 | hc12
         ·
          replace hm := ite_t hc12 hm
          refine tq (i := 3) rfl (by kernel_rfl) rfl rfl rfl (ov_index_at (j := 5) (cs := [(mkS [112, 97, 114, 116]), (.bool true), (.bool false), (.func (.func 54) #[] #[]), (mkS [99, 121, 99, 108, 101, 115]), (.bool true), (.bool true), (.func (.func 55) #[] #[]), (mkS [102, 97, 117, 108, 116]), (.bool false), (.bool false), (.func (.func 56) #[] #[]), (mkS [114, 101, 112, 97, 105, 114]), (.bool false), (.bool false), (.func (.func 57) #[] #[]), (mkS [114, 101, 112, 108, 97, 99, 101]), (.bool true), (.bool false), (.func (.func 58) #[] #[]), (mkS [114, 101, 109, 111, 118, 101]), (.bool false), (.bool false), (.func (.func 59) #[] #[])]) (r := (.agg #[(mkS [114, 101, 109, 111, 118, 101]), (.bool false), (.bool false), (.func (.func 59) #[] #[])])) (eq_of_beq hc12) rfl rfl rfl (fun _ => by kernel_rfl)) ?_
          refine AL.any (rs := [5]) (by kernel_rfl) (by decide) ?_
          refine ALs.cons0 (i := 5) rfl (Runs.free rfl) rfl ?_ ?_
          ·
           skip
           refine os_store (i := 1) (vs := [(mkS [114, 101, 109, 111, 118, 101]), (.bool false), (.bool false), (.func (.func 59) #[] #[])]) (cs' := [(mkS [114, 101, 109, 111, 118, 101]), (.bool false), (.bool false), (.func (.func 59) #[] #[])]) Tryz.sizeOf87 rfl rfl rfl rfl rfl rfl rfl rfl rfl ?_
           refine ⟨fun w' s => (s.select [2] (by decide) rfl), ?_⟩
           refine AL.done (by kernel_rfl) ?_
           refine then_normal ?_
           exact ⟨b9, [114, 101, 109, 111, 118, 101], false, false, (.func (.func 59) #[] #[]), (Sub.cons rfl (Sub.cons rfl (Sub.cons rfl (Sub.nil _)))), fun w' s => (s.select [1, 2] (by decide) rfl), hm⟩
          exact ALs.nil
         ·
          replace hm := ite_f hc12 hm
          exact (none_some hm).elim
   exact ALs.nil
  exact ALs.nil
 ·
  rintro g' S' ⟨b11, s1, c1, c2, v1, hsub1, hS1, hm⟩
  refine WP.sub hsub1 (WP.weaken hS1 ?_)
  replace hm := (congrFun (congrFun (congrFun hk1 s1) c1) c2).symm.trans hm
  refine WP.seq (WP.region ?_)
  refine wq rfl rfl rfl (ov_fieldAddr Tryz.underlying87 rfl rfl rfl Tryz.sizeOf9 rfl rfl) ?_
  refine wq rfl rfl rfl (ov_load_box (i := 0) Tryz.isAgg9 rfl rfl rfl rfl) ?_
  obtain ⟨s2, e1, hm⟩ := bind_some hm
  refine wq rfl rfl rfl (ov_sadd' e1 rfl rfl rfl) ?_
  refine wq rfl rfl rfl (ov_fieldAddr Tryz.underlying24 rfl rfl rfl Tryz.sizeOf9 rfl rfl) ?_
  refine wq rfl rfl rfl (ov_load_box (i := 1) Tryz.isAgg9 rfl rfl rfl rfl) ?_
  obtain ⟨s3, e2, hm⟩ := bind_some hm
  refine wq rfl rfl rfl (ov_sadd' e2 rfl rfl rfl) ?_
  refine wq rfl rfl rfl (ov_assign rfl rfl) ?_
  refine WL.nil (then_normal ?_)
  obtain ⟨k2, hk2, hm⟩ := joinK_some hm
  refine WP.seq_join (fun g' S' => ∃ (s6 : (List UInt8)), Sub [(1, (pB b1 0)), (3, (pB b11 0)), (4, (mkS s6)), (1000000007, (.bool false))] g' ∧ (∀ w', S' w' → St w H [.blk b11 87 [(mkS s1), (.bool c1), (.bool c2), v1], .blk b1 24 [(.int .i64 p_x.kind), (mkS p_x.name), (.int .i64 p_x.count), (.int .i64 p_x.strokes)]] H w') ∧ k2 s6 = some r) ?_ ?_
  ·
   skip
   refine WP.seq (WP.region ?_)
   refine wq rfl rfl rfl (ov_fieldAddr Tryz.underlying87 rfl rfl rfl Tryz.sizeOf4 rfl rfl) ?_
   refine wq rfl rfl rfl (ov_load_box (i := 0) Tryz.isAgg4 rfl rfl rfl rfl) ?_
   refine WL.nil (then_normal ?_)
   refine WP.cond rfl (fun hc13 => ?_) (fun hc13 => ?_)
   ·
    replace hm := ite_t hc13 hm
    refine WP.region ?_
    refine wq rfl rfl rfl (ov_move rfl rfl) ?_
    refine wq rfl rfl rfl (ov_fieldAddr Tryz.underlying24 rfl rfl rfl Tryz.sizeOf3 rfl rfl) ?_
    refine wq rfl rfl rfl (ov_load_box (i := 1) Tryz.isAgg3 rfl rfl rfl rfl) ?_
    obtain ⟨r1, e3, hm⟩ := bind_some hm
    refine WL.quiet (Runs.free rfl) rfl rfl (oq_con (r := (mkS r1)) Tryz.call28 rfl rfl (fun w' s => ⟨_, (itoa_con p_x.count  w' H s.hold hG r1 e3)⟩)) ?_
    obtain ⟨s4, e4, hm⟩ := bind_some hm
    refine wq rfl rfl rfl (ov_sadd' e4 rfl rfl rfl) ?_
    obtain ⟨s5, e5, hm⟩ := bind_some hm
    refine wq rfl rfl rfl (ov_sadd' e5 rfl rfl rfl) ?_
    refine wq rfl rfl rfl (ov_assign rfl rfl) ?_
    refine WL.nil (then_normal ?_)
    exact ⟨s5, (Sub.cons rfl (Sub.cons rfl (Sub.cons rfl (Sub.cons rfl (Sub.nil _))))), fun w' s => s, hm⟩
   ·
    replace hm := ite_f hc13 hm
    refine WP.skip (then_normal ?_)
    exact ⟨s3, (Sub.cons rfl (Sub.cons rfl (Sub.cons rfl (Sub.cons rfl (Sub.nil _))))), fun w' s => s, hm⟩
  ·
   rintro g' S' ⟨s6, hsub2, hS2, hm⟩
   refine WP.sub hsub2 (WP.weaken hS2 ?_)
   replace hm := (congrFun hk2 s6).symm.trans hm
   obtain ⟨k3, hk3, hm⟩ := joinK_some hm
   refine WP.seq_join (fun g' S' => ∃ (s9 : (List UInt8)), Sub [(4, (mkS s9)), (1000000007, (.bool false))] g' ∧ (∀ w', S' w' → St w H [] H w') ∧ k3 s9 = some r) ?_ ?_
   ·
    skip
    refine WP.seq (WP.region ?_)
    refine wq rfl rfl rfl (ov_fieldAddr Tryz.underlying87 rfl rfl rfl Tryz.sizeOf4 rfl rfl) ?_
    refine wq rfl rfl rfl (ov_load_box (i := 0) Tryz.isAgg4 rfl rfl rfl rfl) ?_
    refine WL.nil (then_normal ?_)
    refine WP.cond rfl (fun hc14 => ?_) (fun hc14 => ?_)
    ·
     replace hm := ite_t hc14 hm
     refine WP.region ?_
     refine wq rfl rfl rfl (ov_move rfl rfl) ?_
     refine wq rfl rfl rfl (ov_fieldAddr Tryz.underlying24 rfl rfl rfl Tryz.sizeOf3 rfl rfl) ?_
     refine wq rfl rfl rfl (ov_load_box (i := 1) Tryz.isAgg3 rfl rfl rfl rfl) ?_
     obtain ⟨r2, e6, hm⟩ := bind_some hm
     refine WL.quiet (Runs.free rfl) rfl rfl (oq_con (r := (mkS r2)) Tryz.call28 rfl rfl (fun w' s => ⟨_, (itoa_con p_x.strokes  w' H s.hold hG r2 e6)⟩)) ?_
     obtain ⟨s7, e7, hm⟩ := bind_some hm
     refine wq rfl rfl rfl (ov_sadd' e7 rfl rfl rfl) ?_
     obtain ⟨s8, e8, hm⟩ := bind_some hm
     refine wq rfl rfl rfl (ov_sadd' e8 rfl rfl rfl) ?_
     refine wq rfl rfl rfl (ov_assign rfl rfl) ?_
     refine WL.nil (then_normal ?_)
     exact ⟨s8, (Sub.cons rfl (Sub.cons rfl (Sub.nil _))), fun w' s => (s.select [] (by decide) rfl), hm⟩
    ·
     replace hm := ite_f hc14 hm
     refine WP.skip (then_normal ?_)
     exact ⟨s6, (Sub.cons rfl (Sub.cons rfl (Sub.nil _))), fun w' s => (s.select [] (by decide) rfl), hm⟩
   ·
    rintro g' S' ⟨s9, hsub3, hS3, hm⟩
    refine WP.sub hsub3 (WP.weaken hS3 ?_)
    replace hm := (congrFun hk3 s9).symm.trans hm
    refine WP.seq (WP.region ?_)
    refine wq rfl rfl rfl (ov_move rfl rfl) ?_
    refine wq rfl rfl rfl (ov_assign rfl rfl) ?_
    refine WL.nil (then_normal (WP.ret ?_))
    obtain rfl := Option.some.inj hm
    refine retQ_ret Tryz.results25 (Res.tmp rfl Res.nil) rfl (fun w' s => ⟨s.below, ?_⟩)
    exact rfl

theorem journal_mark_con (p_before : Int) (p_s : (List UInt8)) (w : World) (H : Heap) (hH : Le H (hp w)) (hG : Glob H) (r : Int) (hm : journal_mark p_before p_s = some r) :
  Con Tryz.prog 26 [(.int .i64 p_before), (mkS p_s)] w H (fun v _ => v = (.int .i64 r)) := by
 unfold journal_mark at hm
 refine con_of hH Tryz.func26 rfl 25 Tryz.ntmps26 rfl ?_
 refine WP.seq (WP.region ?_)
 refine wq rfl rfl rfl (ov_assign rfl rfl) ?_
 refine WL.nil (then_normal (WP.seq (WP.region ?_)))
 refine wq rfl rfl rfl (ov_move rfl rfl) ?_
 refine wq rfl rfl rfl (ov_rem rfl rfl rfl (by decide)) ?_
 refine wq rfl rfl rfl (ov_assign rfl rfl) ?_
 refine WL.nil (then_normal ?_)
 obtain ⟨k1, hk1, hm⟩ := joinK_some hm
 refine WP.seq_join (fun g' S' => ∃ (i3 : Int), Sub [(5, (.int .i64 i3)), (1000000007, (.bool false))] g' ∧ (∀ w', S' w' → St w H [] H w') ∧ k1 i3 = some r) ?_ ?_
 ·
  skip
  refine WP.seq (WP.region ?_)
  refine wq rfl rfl rfl (ov_move rfl rfl) ?_
  refine wq rfl rfl rfl (ov_len_string Tryz.underlying9 rfl rfl) ?_
  refine wq rfl rfl rfl (ov_move rfl rfl) ?_
  refine WL.nil (then_normal (WP.block ?_))
  refine WP.loop (fun m1 g' S' => ∃ (i1 : Int) (i2 : Int), Sub [(1, (mkS p_s)), (5, (.int .i64 i1)), (10, (.int .i64 (p_s.length : Int))), (11, (.int .i64 i2)), (1000000007, (.bool false))] g' ∧ (∀ w', S' w' → St w H [] H w') ∧ journal_mark_loop1 p_s k1 m1 i1 i2 = some r) ((Int.toNat ((p_s.length : Int) - 0) + 1)) ⟨(Int.tmod p_before 65521), 0, (Sub.cons rfl (Sub.cons rfl (Sub.cons rfl (Sub.cons rfl (Sub.cons rfl (Sub.nil _)))))), fun w' s => s, hm⟩ ?_ ?_
  ·
   rintro g' S' ⟨_, _, _, _, hm⟩
   exact none_some hm
  ·
   rintro m1 g' S' ⟨i1, i2, hsub1, hS1, hm⟩
   refine WP.sub hsub1 (WP.weaken hS1 ?_)
   rw [journal_mark_loop1] at hm
   refine WP.seq (WP.region ?_)
   refine wq rfl rfl rfl (ov_lss rfl rfl rfl) ?_
   refine WL.nil (then_normal (WP.seq ?_))
   refine WP.cond rfl (fun hc1 => ?_) (fun hc1 => ?_)
   ·
    replace hm := ite_t hc1 hm
    refine WP.skip (then_normal (WP.seq (WP.block (WP.seq (WP.region ?_)))))
    refine wq rfl rfl rfl (ov_move rfl rfl) ?_
    refine wq rfl rfl rfl (ov_assign rfl rfl) ?_
    refine WL.nil (then_normal (WP.region ?_))
    refine wq rfl rfl rfl (ov_move rfl rfl) ?_
    refine wq rfl rfl rfl (ov_mul rfl rfl rfl) ?_
    refine wq rfl rfl rfl (ov_move rfl rfl) ?_
    refine wq rfl rfl rfl (ov_move rfl rfl) ?_
    obtain ⟨b1, e1, hm⟩ := bind_some hm
    refine wq rfl rfl rfl (ov_index_string Tryz.underlying9 rfl rfl rfl e1) ?_
    refine wq rfl rfl rfl (ov_convert_int Tryz.underlying5 Tryz.underlying3 rfl rfl) ?_
    refine wq rfl rfl rfl (ov_add rfl rfl rfl) ?_
    refine wq rfl rfl rfl (ov_add rfl rfl rfl) ?_
    refine wq rfl rfl rfl (ov_rem rfl rfl rfl (by decide)) ?_
    refine wq rfl rfl rfl (ov_assign rfl rfl) ?_
    refine WL.nil (block_normal (then_normal (WP.region ?_)))
    refine wq rfl rfl rfl (ov_add rfl rfl rfl) ?_
    refine wq rfl rfl rfl (ov_move rfl rfl) ?_
    refine WL.nil (then_normal ?_)
    exact ⟨(Int.tmod (IntKind.wrap .i64 ((IntKind.wrap .i64 ((IntKind.wrap .i64 (i1 * 31)) + (IntKind.wrap .i64 (b1.toNat : Int)))) + 7)) 65521), (IntKind.wrap .i64 (i2 + 1)), (Sub.cons rfl (Sub.cons rfl (Sub.cons rfl (Sub.cons rfl (Sub.cons rfl (Sub.nil _)))))), fun w' s => s, hm⟩
   ·
    replace hm := ite_f hc1 hm
    refine WP.exit (then_exit (then_exit (block_here (then_normal ?_))))
    exact ⟨i1, (Sub.cons rfl (Sub.cons rfl (Sub.nil _))), fun w' s => s, hm⟩
 ·
  rintro g' S' ⟨i3, hsub2, hS2, hm⟩
  refine WP.sub hsub2 (WP.weaken hS2 ?_)
  replace hm := (congrFun hk1 i3).symm.trans hm
  refine WP.seq (WP.region ?_)
  refine wq rfl rfl rfl (ov_move rfl rfl) ?_
  refine wq rfl rfl rfl (ov_assign rfl rfl) ?_
  refine WL.nil (then_normal (WP.ret ?_))
  obtain rfl := Option.some.inj hm
  refine retQ_ret Tryz.results26 (Res.tmp rfl Res.nil) rfl (fun w' s => ⟨s.below, ?_⟩)
  exact rfl

theorem journal_Log_con (p_l : (List Entry)) (ao1 : Option Addr) (cap1 : Nat) (w : World) (H : Heap) (hH : Le H (hp w)) (h1 : SL H encEntry ao1 p_l) (hc1 : p_l.length ≤ cap1) (hG : Glob H) (r : ((List UInt8) × Int)) (hm : journal_Log p_l = some r) :
  Con Tryz.prog 13 [(.slice ao1 p_l.length cap1)] w H (fun v _ => v = (.tuple #[(mkS r.1), (.int .i64 r.2)])) := by
 unfold journal_Log at hm
 refine con_of hH Tryz.func13 rfl 43 Tryz.ntmps13 rfl ?_
 refine WP.seq (WP.region ?_)
 refine wq rfl rfl rfl (ov_assign rfl rfl) ?_
 refine wq rfl rfl rfl (ov_assign rfl rfl) ?_
 refine WL.nil (then_normal (WP.seq (WP.seq (WP.region ?_))))
 refine wq rfl rfl rfl (ov_move rfl rfl) ?_
 obtain ⟨r1, e1, hm⟩ := bind_some hm
 refine WL.step (Runs.free rfl) rfl rfl (os_con Tryz.call8 rfl rfl (fun w' s => (journal_Run_con p_l ao1 cap1  w' H s.hold h1 hc1 hG r1 e1)) (fun rr1 H1 hle1 hR1 => ?_))
 replace h1 := h1.mono hle1
 replace hG := hG.mono hle1
 obtain ⟨ao2, cap2, rfl, h2, hc2⟩ := hR1
 refine wq rfl rfl rfl (ov_move rfl rfl) ?_
 refine wq rfl rfl rfl (ov_extract rfl rfl rfl) ?_
 refine wq rfl rfl rfl (ov_extract rfl rfl rfl) ?_
 refine wq rfl rfl rfl (ov_extract rfl rfl rfl) ?_
 refine WL.step (Runs.free rfl) rfl rfl (os_alloc (cs := [(.slice none 0 0), (.int .i64 0)]) Tryz.zeroValue36 rfl rfl (fun b1 => ?_))
 refine WL.step0 (Runs.free rfl) rfl (os_store (i := 0) (vs := [(.slice ao2 r1.1.items.length cap2), (.int .i64 r1.1.cycles)]) (cs' := [(.slice ao2 r1.1.items.length cap2), (.int .i64 r1.1.cycles)]) Tryz.sizeOf36 rfl rfl rfl rfl rfl rfl rfl rfl rfl ?_)
 refine wq rfl rfl rfl (ov_assign rfl rfl) ?_
 refine wq rfl rfl rfl (ov_assign rfl rfl) ?_
 refine WL.nil (then_normal (WP.seq (WP.region ?_)))
 refine wq rfl rfl rfl (ov_move rfl rfl) ?_
 refine wq rfl rfl rfl (ov_neq rfl rfl rfl) ?_
 refine WL.nil (then_normal ?_)
 refine WP.cond rfl (fun hc3 => ?_) (fun hc3 => ?_)
 ·
  replace hm := ite_t hc3 hm
  refine WP.seq (WP.region ?_)
  refine wq rfl rfl rfl (ov_move rfl rfl) ?_
  refine wq rfl rfl rfl (ov_assign rfl rfl) ?_
  refine wq rfl rfl rfl (ov_assign rfl rfl) ?_
  refine WL.nil (then_normal (WP.ret (then_ret ?_)))
  obtain rfl := Option.some.inj hm
  refine retQ_ret Tryz.results13 (Res.tmp rfl (Res.tmp rfl Res.nil)) rfl (fun w' s => ⟨s.below, ?_⟩)
  exact rfl
 ·
  replace hm := ite_f hc3 hm
  refine WP.skip (then_normal (WP.seq (WP.region ?_)))
  refine WL.step (Runs.free rfl) rfl rfl (os_alloc (cs := [(.pointer none), (.slice none 0 0)]) Tryz.zeroValue67 rfl rfl (fun b2 => ?_))
  refine WL.nil (then_normal (WP.seq (WP.region ?_)))
  refine wq rfl rfl rfl (ov_assign rfl rfl) ?_
  refine WL.nil (then_normal ?_)
  obtain ⟨k1, hk1, hm⟩ := joinK_some hm
  refine WP.seq_join (fun g' S' => ∃ (v2 : Value) (l3 : (List UInt8)) (ao5 : Option Addr) (cap5 : Nat) (xs2 : List Value), (v2 = .pointer none ∨ v2 = pB b2 0) ∧ RL H1 encByte l3 xs2 ∧ Sub [(7, (pB b2 0)), (1000000007, (.bool false))] g' ∧ (∀ w', S' w' → St w H [.row 5 (encByte).size l3.length (.slice ao5 l3.length cap5) xs2, .blk b2 67 [v2, (.slice ao5 l3.length cap5)]] H1 w') ∧ k1 l3 = some r) ?_ ?_
  ·
   skip
   refine WP.seq (WP.region ?_)
   refine wq rfl rfl rfl (ov_move rfl rfl) ?_
   refine wq rfl rfl rfl (ov_len_slice Tryz.underlying22 rfl rfl) ?_
   refine wq rfl rfl rfl (ov_move rfl rfl) ?_
   refine WL.nil (then_normal (WP.block ?_))
   have rl1 := RL.nil (α := UInt8) H1 encByte
   refine WP.weaken (fun _ s => s.nilrow 5 (encByte).size) ?_
   refine WP.loop (fun m1 g' S' => ∃ (i1 : Int) (i2 : Int) (v1 : Value) (l1 : (List UInt8)) (ao3 : Option Addr) (cap3 : Nat) (xs1 : List Value), (v1 = .pointer none ∨ v1 = pB b2 0) ∧ RL H1 encByte l1 xs1 ∧ Sub [(7, (pB b2 0)), (8, (.int .i64 i1)), (21, (.slice ao1 p_l.length cap1)), (22, (.int .i64 (p_l.length : Int))), (23, (.int .i64 i2)), (1000000007, (.bool false))] g' ∧ (∀ w', S' w' → St w H [.row 5 (encByte).size l1.length (.slice ao3 l1.length cap3) xs1, .blk b2 67 [v1, (.slice ao3 l1.length cap3)]] H1 w') ∧ journal_Log_loop1 p_l k1 m1 i1 i2 l1 = some r) ((Int.toNat ((p_l.length : Int) - 0) + 1)) ⟨0, 0, (.pointer none), ([] : List UInt8), none, 0, [], (.inl rfl), rl1, (Sub.cons rfl (Sub.cons rfl (Sub.cons rfl (Sub.cons rfl (Sub.cons rfl (Sub.cons rfl (Sub.nil _))))))), fun w' s => (s.select [0, 1] (by decide) rfl), hm⟩ ?_ ?_
   ·
    rintro g' S' ⟨_, _, _, _, _, _, _, _, _, _, _, hm⟩
    exact none_some hm
   ·
    rintro m1 g' S' ⟨i1, i2, v1, l1, ao3, cap3, xs1, hv1, rl2, hsub1, hS1, hm⟩
    refine WP.sub hsub1 (WP.weaken hS1 ?_)
    rw [journal_Log_loop1] at hm
    refine WP.seq (WP.region ?_)
    refine wq rfl rfl rfl (ov_lss rfl rfl rfl) ?_
    refine WL.nil (then_normal (WP.seq ?_))
    refine WP.cond rfl (fun hc4 => ?_) (fun hc4 => ?_)
    ·
     replace hm := ite_t hc4 hm
     refine WP.skip (then_normal (WP.seq (WP.block (WP.seq (WP.region ?_)))))
     obtain ⟨x1, e2, hm⟩ := bind_some hm
     obtain ⟨h3, h4, h5, cs1, h6, h7⟩ := h1.get e2 (by decide)
     obtain rfl : cs1 = [(.int .i64 x1.kind), (mkS x1.name), (.int .i64 x1.count), (.int .i64 x1.strokes)] := h6
     refine wq rfl rfl rfl (ov_indexAddr Tryz.underlying22 Tryz.sizeOf24 rfl rfl rfl h3 h4 h5) ?_
     refine wq rfl rfl rfl (ov_load_elems (vs := [(.int .i64 x1.kind), (mkS x1.name), (.int .i64 x1.count), (.int .i64 x1.strokes)]) Tryz.isAgg24 Tryz.sizeOf24 rfl rfl rfl h7 h5) ?_
     refine WL.step (Runs.free rfl) rfl rfl (os_alloc (cs := [(.int .i64 0), (mkS []), (.int .i64 0), (.int .i64 0)]) Tryz.zeroValue24 rfl rfl (fun b3 => ?_))
     refine WL.step0 (Runs.free rfl) rfl (os_store (i := 0) (vs := [(.int .i64 x1.kind), (mkS x1.name), (.int .i64 x1.count), (.int .i64 x1.strokes)]) (cs' := [(.int .i64 x1.kind), (mkS x1.name), (.int .i64 x1.count), (.int .i64 x1.strokes)]) Tryz.sizeOf24 rfl rfl rfl rfl rfl rfl rfl rfl rfl ?_)
     refine WL.nil (then_normal (WP.seq (WP.region ?_)))
     refine wq rfl rfl rfl (ov_load_whole (i := 0) Tryz.isAgg24 Tryz.sizeOf24 rfl rfl rfl rfl) ?_
     obtain ⟨r2, e3, hm⟩ := bind_some hm
     refine WL.quiet (Runs.free rfl) rfl rfl (oq_con (r := (mkS r2)) Tryz.call25 rfl rfl (fun w' s => ⟨_, (journal_text_con x1  w' H1 s.hold hG r2 e3)⟩)) ?_
     refine wq rfl rfl rfl (ov_assign rfl rfl) ?_
     refine WL.nil (then_normal (WP.seq (WP.region ?_)))
     refine wq rfl rfl rfl (ov_move rfl rfl) ?_
     refine wq rfl rfl rfl (ov_move rfl rfl) ?_
     obtain ⟨r3, e4, hm⟩ := bind_some hm
     refine WL.quiet (Runs.free rfl) rfl rfl (oq_con (r := (.int .i64 r3)) Tryz.call26 rfl rfl (fun w' s => ⟨_, (journal_mark_con i1 r2  w' H1 s.hold hG r3 e4)⟩)) ?_
     refine wq rfl rfl rfl (ov_assign rfl rfl) ?_
     refine WL.nil (then_normal (WP.seq (WP.region ?_)))
     refine wq rfl rfl rfl (ov_move rfl rfl) ?_
     obtain ⟨s1, e5, hm⟩ := bind_some hm
     refine wq rfl rfl rfl (ov_sadd' e5 rfl rfl rfl) ?_
     refine wq rfl rfl rfl (ov_move rfl rfl) ?_
     obtain ⟨r4, e6, hm⟩ := bind_some hm
     refine WL.quiet (Runs.free rfl) rfl rfl (oq_con (r := (mkS r4)) Tryz.call28 rfl rfl (fun w' s => ⟨_, (itoa_con r3  w' H1 s.hold hG r4 e6)⟩)) ?_
     obtain ⟨s2, e7, hm⟩ := bind_some hm
     refine wq rfl rfl rfl (ov_sadd' e7 rfl rfl rfl) ?_
     obtain ⟨s3, e8, hm⟩ := bind_some hm
     refine wq rfl rfl rfl (ov_sadd' e8 rfl rfl rfl) ?_
     refine WL.step (Runs.free rfl) rfl rfl (os_inline (cap := []) (vs := [(pB b2 0), (mkS s3)]) Tryz.call27 rfl rfl rfl Tryz.func27 rfl 19 Tryz.ntmps27 rfl (fun w' s => ?_))
     refine WP.seq (WP.region ?_)
     refine wq rfl rfl rfl (ov_assign rfl rfl) ?_
     refine wq rfl rfl rfl (ov_assign rfl rfl) ?_
     refine WL.nil (then_normal (WP.seq (WP.region ?_)))
     refine wq rfl rfl rfl (ov_move rfl rfl) ?_
     refine WL.step (Runs.free rfl) rfl rfl (os_copyCheck (i := 2) rfl rfl rfl hv1 ?_)
     refine WL.nil (then_normal (WP.seq (WP.region ?_)))
     refine wq rfl rfl rfl (ov_move rfl rfl) ?_
     refine wq rfl rfl rfl (ov_move rfl rfl) ?_
     refine wq rfl rfl rfl (ov_nilCheckB rfl rfl) ?_
     refine wq rfl rfl rfl (ov_fieldAddr Tryz.underlying67 rfl rfl rfl Tryz.sizeOf65 rfl rfl) ?_
     refine wq rfl rfl rfl (ov_load_box (i := 2) Tryz.isAgg65 rfl rfl rfl rfl) ?_
     refine wq rfl rfl rfl (ov_move rfl rfl) ?_
     obtain ⟨l2, e9, hm⟩ := bind_some hm
     refine WL.step (Runs.free rfl) rfl rfl (os_app_str (i := 1) (xs := xs1) Tryz.underlying65 Tryz.underlying9 (by kernel_rfl : (Tryz.prog.info? 5).map (fun i => (i.zero, i.size, i.bytes)) = some (some (.int .u8 0), 1, 1)) rfl rfl rfl rfl rl2 e9 (fun ao4 cap4 ys1 rl3 => ?_))
     refine wq rfl rfl rfl (ov_nilCheckB rfl rfl) ?_
     refine wq rfl rfl rfl (ov_fieldAddr Tryz.underlying67 rfl rfl rfl Tryz.sizeOf65 rfl rfl) ?_
     refine WL.step0 (Runs.free rfl) rfl (os_store (i := 2) (vs := [(.slice ao4 (l1 ++ s3).length cap4)]) (cs' := [(pB b2 0), (.slice ao4 (l1 ++ s3).length cap4)]) Tryz.sizeOf65 rfl rfl rfl rfl rfl rfl rfl rfl rfl ?_)
     refine WL.nil (then_normal (WP.seq (WP.region ?_)))
     refine wq rfl rfl rfl (ov_move rfl rfl) ?_
     refine wq rfl rfl rfl (ov_len_string Tryz.underlying9 rfl rfl) ?_
     refine wq rfl rfl rfl (ov_assign rfl rfl) ?_
     refine wq rfl rfl rfl (ov_assign rfl rfl) ?_
     refine WL.nil (then_normal (WP.ret ?_))
     refine retQ_ret (v := (.tuple #[(.int .i64 (s3.length : Int)), .nilIface])) Tryz.results27 (Res.tmp rfl (Res.tmp rfl Res.nil)) rfl (fun w' s => ⟨_, ?_, s⟩)
     refine WL.nil (then_normal (WP.seq (WP.region ?_)))
     refine WL.step (Runs.free rfl) rfl rfl (os_inline (cap := []) (vs := [(pB b2 0)]) Tryz.call29 rfl rfl rfl Tryz.func29 rfl 8 Tryz.ntmps29 rfl (fun w' s => ?_))
     refine WP.seq (WP.region ?_)
     refine wq rfl rfl rfl (ov_assign rfl rfl) ?_
     refine WL.nil (then_normal (WP.seq (WP.region ?_)))
     refine wq rfl rfl rfl (ov_move rfl rfl) ?_
     refine wq rfl rfl rfl (ov_nilCheckB rfl rfl) ?_
     refine wq rfl rfl rfl (ov_fieldAddr Tryz.underlying67 rfl rfl rfl Tryz.sizeOf65 rfl rfl) ?_
     refine wq rfl rfl rfl (ov_load_box (i := 2) Tryz.isAgg65 rfl rfl rfl rfl) ?_
     refine wq rfl rfl rfl (ov_len_slice Tryz.underlying65 rfl rfl) ?_
     refine wq rfl rfl rfl (ov_assign rfl rfl) ?_
     refine WL.nil (then_normal (WP.ret ?_))
     refine retQ_ret (v := (.int .i64 ((l1 ++ s3).length : Int))) Tryz.results29 (Res.tmp rfl Res.nil) rfl (fun w' s => ⟨_, ?_, s⟩)
     refine wq rfl rfl rfl (ov_gtr rfl rfl rfl) ?_
     refine WL.nil (then_normal ?_)
     refine WP.cond rfl (fun hc5 => ?_) (fun hc5 => ?_)
     ·
      replace hm := ite_t hc5 hm
      refine WP.seq (WP.region ?_)
      refine wq rfl rfl rfl (ov_assign rfl rfl) ?_
      refine wq rfl rfl rfl (ov_assign rfl rfl) ?_
      refine WL.nil (then_normal (WP.ret (block_ret (then_ret (then_ret (block_ret (then_ret ?_)))))))
      obtain rfl := Option.some.inj hm
      refine retQ_ret Tryz.results13 (Res.tmp rfl (Res.tmp rfl Res.nil)) rfl (fun w' s => ⟨s.below, ?_⟩)
      exact rfl
     ·
      replace hm := ite_f hc5 hm
      refine WP.skip (block_normal (then_normal (WP.region ?_)))
      refine wq rfl rfl rfl (ov_add rfl rfl rfl) ?_
      refine wq rfl rfl rfl (ov_move rfl rfl) ?_
      refine WL.nil (then_normal ?_)
      exact ⟨r3, (IntKind.wrap .i64 (i2 + 1)), (pB b2 0), (l1 ++ s3), ao4, cap4, (xs1 ++ ys1), (.inr rfl), rl3, (Sub.cons rfl (Sub.cons rfl (Sub.cons rfl (Sub.cons rfl (Sub.cons rfl (Sub.cons rfl (Sub.nil _))))))), fun w' s => (s.select [1, 2] (by decide) rfl), hm⟩
    ·
     replace hm := ite_f hc4 hm
     refine WP.exit (then_exit (then_exit (block_here (then_normal ?_))))
     exact ⟨v1, l1, ao3, cap3, xs1, hv1, rl2, (Sub.cons rfl (Sub.cons rfl (Sub.nil _))), fun w' s => s, hm⟩
  ·
   rintro g' S' ⟨v2, l3, ao5, cap5, xs2, hv2, rl4, hsub2, hS2, hm⟩
   refine WP.sub hsub2 (WP.weaken hS2 ?_)
   replace hm := (congrFun hk1 l3).symm.trans hm
   refine WP.seq (WP.region ?_)
   refine WL.step (Runs.free rfl) rfl rfl (os_bstring (i := 1) (j := 0) rfl rfl rfl rfl hv2 rl4 (fun H2 => ?_))
   refine wq rfl rfl rfl (ov_assign rfl rfl) ?_
   refine wq rfl rfl rfl (ov_assign rfl rfl) ?_
   refine WL.nil (then_normal (WP.ret ?_))
   obtain rfl := Option.some.inj hm
   refine retQ_ret Tryz.results13 (Res.tmp rfl (Res.tmp rfl Res.nil)) rfl (fun w' s => ⟨s.below, ?_⟩)
   exact rfl

theorem internal_stringslite_CutPrefix_con (p_s : (List UInt8)) (p_prefix : (List UInt8)) (w : World) (H : Heap) (hH : Le H (hp w)) (hG : Glob H) (r : ((List UInt8) × Bool)) (hm : internal_stringslite_CutPrefix p_s p_prefix = some r) :
  Con Tryz.prog 110 [(mkS p_s), (mkS p_prefix)] w H (fun v _ => v = (.tuple #[(mkS r.1), (.bool r.2)])) := by
 unfold internal_stringslite_CutPrefix at hm
 refine con_of hH Tryz.func110 rfl 15 Tryz.ntmps110 rfl ?_
 refine WP.seq (WP.region ?_)
 refine wq rfl rfl rfl (ov_assign rfl rfl) ?_
 refine wq rfl rfl rfl (ov_assign rfl rfl) ?_
 refine WL.nil (then_normal (WP.seq (WP.seq (WP.region ?_))))
 refine wq rfl rfl rfl (ov_move rfl rfl) ?_
 refine wq rfl rfl rfl (ov_move rfl rfl) ?_
 obtain ⟨r1, e1, hm⟩ := bind_some hm
 refine WL.quiet (Runs.free rfl) rfl rfl (oq_con (r := (.bool r1)) Tryz.call32 rfl rfl (fun w' s => ⟨_, (internal_stringslite_HasPrefix_con p_s p_prefix  w' H s.hold hG r1 e1)⟩)) ?_
 refine wq rfl rfl rfl (ov_not rfl rfl) ?_
 refine WL.nil (then_normal ?_)
 refine WP.cond rfl (fun hc1 => ?_) (fun hc1 => ?_)
 ·
  replace hm := ite_t hc1 hm
  refine WP.seq (WP.region ?_)
  refine wq rfl rfl rfl (ov_move rfl rfl) ?_
  refine wq rfl rfl rfl (ov_assign rfl rfl) ?_
  refine wq rfl rfl rfl (ov_assign rfl rfl) ?_
  refine WL.nil (then_normal (WP.ret (then_ret ?_)))
  obtain rfl := Option.some.inj hm
  refine retQ_ret Tryz.results110 (Res.tmp rfl (Res.tmp rfl Res.nil)) rfl (fun w' s => ⟨s.below, ?_⟩)
  exact rfl
 ·
  replace hm := ite_f hc1 hm
  refine WP.skip (then_normal (WP.seq (WP.region ?_)))
  refine wq rfl rfl rfl (ov_move rfl rfl) ?_
  refine wq rfl rfl rfl (ov_move rfl rfl) ?_
  refine wq rfl rfl rfl (ov_len_string Tryz.underlying9 rfl rfl) ?_
  obtain ⟨s1, e2, hm⟩ := bind_some hm
  refine wq rfl rfl rfl (ov_slice_string_from Tryz.underlying9 rfl rfl rfl e2) ?_
  refine wq rfl rfl rfl (ov_assign rfl rfl) ?_
  refine wq rfl rfl rfl (ov_assign rfl rfl) ?_
  refine WL.nil (then_normal (WP.ret ?_))
  obtain rfl := Option.some.inj hm
  refine retQ_ret Tryz.results110 (Res.tmp rfl (Res.tmp rfl Res.nil)) rfl (fun w' s => ⟨s.below, ?_⟩)
  exact rfl

theorem strings_CutPrefix_con (p_s : (List UInt8)) (p_prefix : (List UInt8)) (w : World) (H : Heap) (hH : Le H (hp w)) (hG : Glob H) (r : ((List UInt8) × Bool)) (hm : strings_CutPrefix p_s p_prefix = some r) :
  Con Tryz.prog 98 [(mkS p_s), (mkS p_prefix)] w H (fun v _ => v = (.tuple #[(mkS r.1), (.bool r.2)])) := by
 unfold strings_CutPrefix at hm
 refine con_of hH Tryz.func98 rfl 11 Tryz.ntmps98 rfl ?_
 refine WP.seq (WP.region ?_)
 refine wq rfl rfl rfl (ov_assign rfl rfl) ?_
 refine wq rfl rfl rfl (ov_assign rfl rfl) ?_
 refine WL.nil (then_normal (WP.seq (WP.region ?_)))
 refine wq rfl rfl rfl (ov_move rfl rfl) ?_
 refine wq rfl rfl rfl (ov_move rfl rfl) ?_
 obtain ⟨r1, e1, hm⟩ := bind_some hm
 refine WL.quiet (Runs.free rfl) rfl rfl (oq_con (r := (.tuple #[(mkS r1.1), (.bool r1.2)])) Tryz.call110 rfl rfl (fun w' s => ⟨_, (internal_stringslite_CutPrefix_con p_s p_prefix  w' H s.hold hG r1 e1)⟩)) ?_
 refine wq rfl rfl rfl (ov_extract rfl rfl rfl) ?_
 refine wq rfl rfl rfl (ov_extract rfl rfl rfl) ?_
 refine wq rfl rfl rfl (ov_assign rfl rfl) ?_
 refine wq rfl rfl rfl (ov_assign rfl rfl) ?_
 refine WL.nil (then_normal (WP.ret ?_))
 obtain rfl := Option.some.inj hm
 refine retQ_ret Tryz.results98 (Res.tmp rfl (Res.tmp rfl Res.nil)) rfl (fun w' s => ⟨s.below, ?_⟩)
 exact rfl

theorem lexer_Number_con (p_s : (List UInt8)) (w : World) (H : Heap) (hH : Le H (hp w)) (hG : Glob H) (r : Int) (hm : lexer_Number p_s = some r) :
  Con Tryz.prog 99 [(mkS p_s)] w H (fun v _ => v = (.int .i64 r)) := by
 unfold lexer_Number at hm
 refine con_of hH Tryz.func99 rfl 27 Tryz.ntmps99 rfl ?_
 refine WP.seq (WP.region ?_)
 refine wq rfl rfl rfl (ov_assign rfl rfl) ?_
 refine WL.nil (then_normal (WP.seq (WP.block (WP.seq (WP.region ?_)))))
 refine wq rfl rfl rfl (ov_move rfl rfl) ?_
 refine wq rfl rfl rfl (ov_seql rfl rfl rfl) ?_
 refine wq rfl rfl rfl (ov_move rfl rfl) ?_
 obtain ⟨c1, e1, hm⟩ := bind_some hm
 refine WL.cut_bool 7 13 (x := c1) ?_ ?_
 ·
  rcases Bool.eq_false_or_eq_true (p_s == []) with hc1 | hc1
  ·
   skip
   replace hm := ite_t hc1 e1
   refine WL.idle (Idle.no rfl rfl rfl hc1) rfl rfl ?_
   refine WL.idle (Idle.no rfl rfl rfl hc1) rfl rfl ?_
   refine WL.idle (Idle.no rfl rfl rfl hc1) rfl rfl ?_
   refine WL.idle (Idle.no rfl rfl rfl hc1) rfl rfl ?_
   refine WL.idle (Idle.no rfl rfl rfl hc1) rfl rfl ?_
   refine WL.idle (Idle.no rfl rfl rfl hc1) rfl rfl ?_
   refine wq rfl rfl rfl (ov_pick_true rfl (guard_eq rfl hc1) rfl) ?_
   exact WL.nil ⟨Sub.cons' rfl (congrArg Value.bool (Option.some.inj hm)) (Sub.skip rfl (Sub.skip rfl (Sub.skip rfl (Sub.skip rfl (Sub.skip rfl (Sub.skip rfl (Sub.skip rfl (Sub.refl _)))))))), fun _ s => s⟩
  ·
   skip
   replace hm := ite_f hc1 e1
   refine WL.quiet (Runs.yes rfl rfl rfl hc1) rfl rfl (OV.quiet (ov_move rfl rfl)) ?_
   have rl1 : RL H (encInt .i64) ([2] : List Int) [(.int .i64 2)] := RL.cons (cs := [(.int .i64 2)]) (xs := []) rfl (RL.nil _ _)
   refine WL.step (Runs.yes rfl rfl rfl hc1) rfl rfl (os_buildSlice (cs := [(.int .i64 2)]) (E := 3) (sz := 1) rfl rfl (fun _ => by kernel_rfl) rfl (by decide) (fun b1 => ?_))
   refine WL.held rl1 (fun H1 hc2 hle1 h1 => ?_)
   replace hG := hG.mono hle1
   obtain ⟨r1, e2, hm⟩ := bind_some hm
   refine WL.quiet (Runs.yes rfl rfl rfl hc1) rfl rfl (oq_con (r := (.int .i64 r1)) Tryz.call40 rfl rfl (fun w' s => ⟨_, (lexer_run_con p_s ([2] : List Int) (some ⟨b1, 0, none⟩) 1  w' H1 s.hold h1 hc2 hG r1 e2)⟩)) ?_
   refine WL.quiet (Runs.yes rfl rfl rfl hc1) rfl rfl (OV.quiet (ov_move rfl rfl)) ?_
   refine WL.quiet (Runs.yes rfl rfl rfl hc1) rfl rfl (OV.quiet (ov_len_string Tryz.underlying9 rfl rfl)) ?_
   refine WL.quiet (Runs.yes rfl rfl rfl hc1) rfl rfl (OV.quiet (ov_neq rfl rfl rfl)) ?_
   refine wq rfl rfl rfl (ov_pick_false rfl (guard_eq rfl hc1) rfl) ?_
   exact WL.nil ⟨Sub.cons' rfl (congrArg Value.bool (Option.some.inj hm)) (Sub.skip rfl (Sub.skip rfl (Sub.skip rfl (Sub.skip rfl (Sub.skip rfl (Sub.skip rfl (Sub.skip rfl (Sub.refl _)))))))), fun _ s => (s.heap hle1)⟩
 refine wq rfl rfl rfl (ov_move rfl rfl) ?_
 obtain ⟨c2, e3, hm⟩ := bind_some hm
 refine WL.cut_bool 8 22 (x := c2) ?_ ?_
 ·
  rcases Bool.eq_false_or_eq_true c1 with hc3 | hc3
  ·
   skip
   replace hm := ite_t hc3 e3
   refine WL.idle (Idle.no rfl rfl rfl hc3) rfl rfl ?_
   refine WL.idle (Idle.no rfl rfl rfl hc3) rfl rfl ?_
   refine WL.idle (Idle.no rfl rfl rfl hc3) rfl rfl ?_
   refine WL.idle (Idle.no rfl rfl rfl hc3) rfl rfl ?_
   refine WL.idle (Idle.undef rfl rfl rfl) rfl rfl ?_
   refine WL.idle (Idle.undef rfl rfl rfl) rfl rfl ?_
   refine WL.idle (Idle.no rfl rfl rfl hc3) rfl rfl ?_
   refine wq rfl rfl rfl (ov_pick_true rfl (guard_eq rfl hc3) rfl) ?_
   exact WL.nil ⟨Sub.cons' rfl (congrArg Value.bool (Option.some.inj hm)) (Sub.skip rfl (Sub.skip rfl (Sub.skip rfl (Sub.skip rfl (Sub.skip rfl (Sub.skip rfl (Sub.skip rfl (Sub.skip rfl (Sub.refl _))))))))), fun _ s => s⟩
  ·
   skip
   replace hm := ite_f hc3 e3
   refine WL.quiet (Runs.yes rfl rfl rfl hc3) rfl rfl (OV.quiet (ov_move rfl rfl)) ?_
   obtain ⟨b2, e4, hm⟩ := bind_some hm
   refine WL.quiet (Runs.yes rfl rfl rfl hc3) rfl rfl (OV.quiet (ov_index_string Tryz.underlying9 rfl rfl rfl e4)) ?_
   refine WL.quiet (Runs.yes rfl rfl rfl hc3) rfl rfl (OV.quiet (ov_eql rfl rfl rfl)) ?_
   refine WL.quiet (Runs.yes rfl rfl rfl hc3) rfl rfl (OV.quiet (ov_move rfl rfl)) ?_
   refine WL.cut_bool 3 21 (x := (((b2.toNat : Int) == 48) && (!(p_s == [48])))) ?_ ?_
   ·
    rcases Bool.eq_false_or_eq_true ((b2.toNat : Int) == 48) with hc4 | hc4
    ·
     skip
     refine WL.quiet (Runs.yes rfl rfl rfl hc4) rfl rfl (OV.quiet (ov_move rfl rfl)) ?_
     refine WL.quiet (Runs.yes rfl rfl rfl hc4) rfl rfl (OV.quiet (ov_sneq rfl rfl rfl)) ?_
     refine WL.quiet (Runs.yes rfl rfl rfl hc3) rfl rfl (OV.quiet (ov_pick_true rfl (guard_eq rfl hc4) rfl)) ?_
     exact WL.nil ⟨Sub.cons' rfl (congrArg Value.bool (andT hc4)) (Sub.skip rfl (Sub.skip rfl (Sub.skip rfl (Sub.refl _)))), fun _ s => s⟩
    ·
     skip
     refine WL.idle (Idle.no rfl rfl rfl hc4) rfl rfl ?_
     refine WL.idle (Idle.no rfl rfl rfl hc4) rfl rfl ?_
     refine WL.quiet (Runs.yes rfl rfl rfl hc3) rfl rfl (OV.quiet (ov_pick_false rfl (guard_eq rfl hc4) rfl)) ?_
     exact WL.nil ⟨Sub.cons' rfl (congrArg Value.bool (andF hc4)) (Sub.skip rfl (Sub.skip rfl (Sub.skip rfl (Sub.refl _)))), fun _ s => s⟩
   refine wq rfl rfl rfl (ov_pick_false rfl (guard_eq rfl hc3) rfl) ?_
   exact WL.nil ⟨Sub.cons' rfl (congrArg Value.bool (Option.some.inj hm)) (Sub.skip rfl (Sub.skip rfl (Sub.skip rfl (Sub.skip rfl (Sub.skip rfl (Sub.skip rfl (Sub.refl _))))))), fun _ s => s⟩
 refine wq rfl rfl rfl (ov_assign rfl rfl) ?_
 refine WL.nil (then_normal ?_)
 refine WP.cond rfl (fun hc5 => ?_) (fun hc5 => ?_)
 ·
  replace hm := ite_t hc5 hm
  refine WP.seq (WP.region ?_)
  refine wq rfl rfl rfl (ov_assign rfl rfl) ?_
  refine WL.nil (then_normal (WP.ret (block_ret (then_ret ?_))))
  obtain rfl := Option.some.inj hm
  refine retQ_ret Tryz.results99 (Res.tmp rfl Res.nil) rfl (fun w' s => ⟨s.below, ?_⟩)
  exact rfl
 ·
  replace hm := ite_f hc5 hm
  refine WP.seq (WP.region ?_)
  refine wq rfl rfl rfl (ov_move rfl rfl) ?_
  refine wq rfl rfl rfl (ov_len_string Tryz.underlying9 rfl rfl) ?_
  refine wq rfl rfl rfl (ov_gtr rfl rfl rfl) ?_
  refine wq rfl rfl rfl (ov_assign rfl rfl) ?_
  refine WL.nil (then_normal ?_)
  refine WP.cond rfl (fun hc6 => ?_) (fun hc6 => ?_)
  ·
   replace hm := ite_t hc6 hm
   refine WP.seq (WP.region ?_)
   refine wq rfl rfl rfl (ov_assign rfl rfl) ?_
   refine WL.nil (then_normal (WP.ret (block_ret (then_ret ?_))))
   obtain rfl := Option.some.inj hm
   refine retQ_ret Tryz.results99 (Res.tmp rfl Res.nil) rfl (fun w' s => ⟨s.below, ?_⟩)
   exact rfl
  ·
   replace hm := ite_f hc6 hm
   refine WP.skip (block_normal (then_normal (WP.seq (WP.region ?_))))
   refine wq rfl rfl rfl (ov_assign rfl rfl) ?_
   refine WL.nil (then_normal (WP.ret ?_))
   obtain rfl := Option.some.inj hm
   refine retQ_ret Tryz.results99 (Res.tmp rfl Res.nil) rfl (fun w' s => ⟨s.below, ?_⟩)
   exact rfl

theorem internal_strconv_Atoi_con (p_s : (List UInt8)) (w : World) (H : Heap) (hH : Le H (hp w)) (hG : Glob H) (r : (Int × Unit)) (hm : internal_strconv_Atoi p_s = some r) :
  Con Tryz.prog 111 [(mkS p_s)] w H (fun v _ => v = (.tuple #[(.int .i64 r.1), .nilIface])) := by
 unfold internal_strconv_Atoi at hm
 refine con_of hH Tryz.func111 rfl 77 Tryz.ntmps111 rfl ?_
 refine WP.seq (WP.region ?_)
 refine wq rfl rfl rfl (ov_assign rfl rfl) ?_
 refine wq rfl rfl rfl (ov_assign rfl rfl) ?_
 refine WL.nil (then_normal (WP.seq (WP.region ?_)))
 refine wq rfl rfl rfl (ov_move rfl rfl) ?_
 refine wq rfl rfl rfl (ov_len_string Tryz.underlying9 rfl rfl) ?_
 refine wq rfl rfl rfl (ov_assign rfl rfl) ?_
 refine WL.nil (then_normal ?_)
 obtain ⟨k1, hk1, hm⟩ := joinK_some hm
 refine WP.seq_join (fun g' S' => Sub [(0, (mkS p_s)), (1000000007, (.bool false))] g' ∧ (∀ w', S' w' → St w H [] H w') ∧ k1 = some r) ?_ ?_
 ·
  skip
  refine WP.seq (WP.region ?_)
  refine wq rfl rfl rfl (ov_move rfl rfl) ?_
  refine WL.idle (Idle.no rfl rfl rfl rfl) rfl rfl ?_
  refine WL.idle (Idle.no rfl rfl rfl rfl) rfl rfl ?_
  refine WL.idle (Idle.no rfl rfl rfl rfl) rfl rfl ?_
  refine WL.idle (Idle.undef rfl rfl rfl) rfl rfl ?_
  refine WL.idle (Idle.undef rfl rfl rfl) rfl rfl ?_
  refine WL.idle (Idle.no rfl rfl rfl rfl) rfl rfl ?_
  refine wq rfl rfl rfl (ov_pick_false rfl (guard_eq rfl rfl) rfl) ?_
  refine wq rfl rfl rfl (ov_move rfl rfl) ?_
  refine WL.quiet (Runs.yes rfl rfl rfl rfl) rfl rfl (OV.quiet (ov_move rfl rfl)) ?_
  refine WL.quiet (Runs.yes rfl rfl rfl rfl) rfl rfl (OV.quiet (ov_move rfl rfl)) ?_
  refine WL.quiet (Runs.yes rfl rfl rfl rfl) rfl rfl (OV.quiet (ov_lss rfl rfl rfl)) ?_
  refine WL.quiet (Runs.yes rfl rfl rfl rfl) rfl rfl (OV.quiet (ov_move rfl rfl)) ?_
  refine WL.cut_bool 3 28 (x := ((decide ((0 : Int) < (p_s.length : Int))) && (decide ((p_s.length : Int) < 19)))) ?_ ?_
  ·
   rcases Bool.eq_false_or_eq_true (decide ((0 : Int) < (p_s.length : Int))) with hc1 | hc1
   ·
    skip
    refine WL.quiet (Runs.yes rfl rfl rfl hc1) rfl rfl (OV.quiet (ov_move rfl rfl)) ?_
    refine WL.quiet (Runs.yes rfl rfl rfl hc1) rfl rfl (OV.quiet (ov_lss rfl rfl rfl)) ?_
    refine WL.quiet (Runs.yes rfl rfl rfl rfl) rfl rfl (OV.quiet (ov_pick_true rfl (guard_eq rfl hc1) rfl)) ?_
    exact WL.nil ⟨Sub.cons' rfl (congrArg Value.bool (andT hc1)) (Sub.skip rfl (Sub.skip rfl (Sub.skip rfl (Sub.refl _)))), fun _ s => s⟩
   ·
    skip
    refine WL.idle (Idle.no rfl rfl rfl hc1) rfl rfl ?_
    refine WL.idle (Idle.no rfl rfl rfl hc1) rfl rfl ?_
    refine WL.quiet (Runs.yes rfl rfl rfl rfl) rfl rfl (OV.quiet (ov_pick_false rfl (guard_eq rfl hc1) rfl)) ?_
    exact WL.nil ⟨Sub.cons' rfl (congrArg Value.bool (andF hc1)) (Sub.skip rfl (Sub.skip rfl (Sub.skip rfl (Sub.refl _)))), fun _ s => s⟩
  refine WL.quiet (Runs.yes rfl rfl rfl rfl) rfl rfl (OV.quiet (ov_pick_true rfl (guard_eq rfl rfl) rfl)) ?_
  refine wq rfl rfl rfl (ov_pick_false rfl (guard_eq rfl rfl) rfl) ?_
  refine WL.nil (then_normal ?_)
  refine WP.cond rfl (fun hc2 => ?_) (fun hc2 => ?_)
  ·
   replace hm := ite_t hc2 hm
   refine WP.seq (WP.region ?_)
   refine wq rfl rfl rfl (ov_move rfl rfl) ?_
   refine wq rfl rfl rfl (ov_assign rfl rfl) ?_
   refine WL.nil (then_normal ?_)
   obtain ⟨k2, hk2, hm⟩ := joinK_some hm
   refine WP.seq_join (fun g' S' => ∃ (s2 : (List UInt8)), Sub [(0, (mkS s2)), (5, (mkS p_s)), (1000000007, (.bool false))] g' ∧ (∀ w', S' w' → St w H [] H w') ∧ k2 s2 = some r) ?_ ?_
   ·
    skip
    refine WP.seq (WP.region ?_)
    refine wq rfl rfl rfl (ov_move rfl rfl) ?_
    obtain ⟨b1, e1, hm⟩ := bind_some hm
    refine wq rfl rfl rfl (ov_index_string Tryz.underlying9 rfl rfl rfl e1) ?_
    refine wq rfl rfl rfl (ov_eql rfl rfl rfl) ?_
    refine wq rfl rfl rfl (ov_move rfl rfl) ?_
    obtain ⟨c1, e2, hm⟩ := bind_some hm
    refine WL.cut_bool 4 39 (x := c1) ?_ ?_
    ·
     rcases Bool.eq_false_or_eq_true ((b1.toNat : Int) == 45) with hc3 | hc3
     ·
      skip
      replace hm := ite_t hc3 e2
      refine WL.idle (Idle.no rfl rfl rfl hc3) rfl rfl ?_
      refine WL.idle (Idle.no rfl rfl rfl hc3) rfl rfl ?_
      refine WL.idle (Idle.no rfl rfl rfl hc3) rfl rfl ?_
      refine wq rfl rfl rfl (ov_pick_true rfl (guard_eq rfl hc3) rfl) ?_
      exact WL.nil ⟨Sub.cons' rfl (congrArg Value.bool (Option.some.inj hm)) (Sub.skip rfl (Sub.skip rfl (Sub.skip rfl (Sub.skip rfl (Sub.refl _))))), fun _ s => s⟩
     ·
      skip
      replace hm := ite_f hc3 e2
      refine WL.quiet (Runs.yes rfl rfl rfl hc3) rfl rfl (OV.quiet (ov_move rfl rfl)) ?_
      obtain ⟨b2, e3, hm⟩ := bind_some hm
      refine WL.quiet (Runs.yes rfl rfl rfl hc3) rfl rfl (OV.quiet (ov_index_string Tryz.underlying9 rfl rfl rfl e3)) ?_
      refine WL.quiet (Runs.yes rfl rfl rfl hc3) rfl rfl (OV.quiet (ov_eql rfl rfl rfl)) ?_
      refine wq rfl rfl rfl (ov_pick_false rfl (guard_eq rfl hc3) rfl) ?_
      exact WL.nil ⟨Sub.cons' rfl (congrArg Value.bool (Option.some.inj hm)) (Sub.skip rfl (Sub.skip rfl (Sub.skip rfl (Sub.skip rfl (Sub.refl _))))), fun _ s => s⟩
    refine WL.nil (then_normal ?_)
    refine WP.cond rfl (fun hc4 => ?_) (fun hc4 => ?_)
    ·
     replace hm := ite_t hc4 hm
     refine WP.seq (WP.region ?_)
     refine wq rfl rfl rfl (ov_move rfl rfl) ?_
     obtain ⟨s1, e4, hm⟩ := bind_some hm
     refine wq rfl rfl rfl (ov_slice_string_from Tryz.underlying9 rfl rfl rfl e4) ?_
     refine wq rfl rfl rfl (ov_assign rfl rfl) ?_
     refine WL.nil (then_normal (WP.seq (WP.region ?_)))
     refine wq rfl rfl rfl (ov_move rfl rfl) ?_
     refine wq rfl rfl rfl (ov_len_string Tryz.underlying9 rfl rfl) ?_
     refine wq rfl rfl rfl (ov_lss rfl rfl rfl) ?_
     refine WL.nil (then_normal ?_)
     refine WP.cond rfl (fun hc5 => ?_) (fun hc5 => ?_)
     ·
      replace hm := ite_t hc5 hm
      exact (none_some hm).elim
     ·
      replace hm := ite_f hc5 hm
      refine WP.skip (then_normal ?_)
      exact ⟨s1, (Sub.cons rfl (Sub.cons rfl (Sub.cons rfl (Sub.nil _)))), fun w' s => s, hm⟩
    ·
     replace hm := ite_f hc4 hm
     refine WP.skip (then_normal ?_)
     exact ⟨p_s, (Sub.cons rfl (Sub.cons rfl (Sub.cons rfl (Sub.nil _)))), fun w' s => s, hm⟩
   ·
    rintro g' S' ⟨s2, hsub1, hS1, hm⟩
    refine WP.sub hsub1 (WP.weaken hS1 ?_)
    replace hm := (congrFun hk2 s2).symm.trans hm
    refine WP.seq (WP.region ?_)
    refine wq rfl rfl rfl (ov_assign rfl rfl) ?_
    refine WL.nil (then_normal ?_)
    obtain ⟨k3, hk3, hm⟩ := joinK_some hm
    refine WP.seq_join (fun g' S' => ∃ (H2 : Heap) (i3 : Int), Le H H2 ∧ Sub [(5, (mkS p_s)), (6, (.int .i64 i3)), (1000000007, (.bool false))] g' ∧ (∀ w', S' w' → St w H [] H2 w') ∧ k3 i3 = some r) ?_ ?_
    ·
     skip
     refine WP.seq (WP.region ?_)
     refine wq rfl rfl rfl (ov_move rfl rfl) ?_
     refine WL.step (Runs.free rfl) rfl rfl (os_bytes Tryz.underlying9 Tryz.underlying65 Tryz.underlying5 rfl rfl (fun ao1 cap1 H1 hle1 h1 hc6 => ?_))
     replace hG := hG.mono hle1
     refine wq rfl rfl rfl (ov_len_slice Tryz.underlying65 rfl rfl) ?_
     refine wq rfl rfl rfl (ov_move rfl rfl) ?_
     refine WL.nil (then_normal (WP.block ?_))
     refine WP.loop (fun m1 g' S' => ∃ (i1 : Int) (i2 : Int), Sub [(5, (mkS p_s)), (6, (.int .i64 i1)), (47, (.slice ao1 (bytesI s2).length cap1)), (48, (.int .i64 ((bytesI s2).length : Int))), (49, (.int .i64 i2)), (1000000007, (.bool false))] g' ∧ (∀ w', S' w' → St w H [] H1 w') ∧ internal_strconv_Atoi_loop1 s2 k3 m1 i1 i2 = some r) ((Int.toNat (((bytesI s2).length : Int) - 0) + 1)) ⟨0, 0, (Sub.cons rfl (Sub.cons rfl (Sub.cons rfl (Sub.cons rfl (Sub.cons rfl (Sub.cons rfl (Sub.nil _))))))), fun w' s => s, hm⟩ ?_ ?_
     ·
      rintro g' S' ⟨_, _, _, _, hm⟩
      exact none_some hm
     ·
      rintro m1 g' S' ⟨i1, i2, hsub2, hS2, hm⟩
      refine WP.sub hsub2 (WP.weaken hS2 ?_)
      rw [internal_strconv_Atoi_loop1] at hm
      refine WP.seq (WP.region ?_)
      refine wq rfl rfl rfl (ov_lss rfl rfl rfl) ?_
      refine WL.nil (then_normal (WP.seq ?_))
      refine WP.cond rfl (fun hc7 => ?_) (fun hc7 => ?_)
      ·
       replace hm := ite_t hc7 hm
       refine WP.skip (then_normal (WP.seq (WP.block (WP.seq (WP.region ?_)))))
       obtain ⟨x1, e5, hm⟩ := bind_some hm
       obtain ⟨h2, h3, h4, cs1, h5, h6⟩ := h1.get e5 (by decide)
       obtain rfl : cs1 = [(.int .u8 x1)] := h5
       refine wq rfl rfl rfl (ov_indexAddr Tryz.underlying65 Tryz.sizeOf5 rfl rfl rfl h2 h3 h4) ?_
       refine wq rfl rfl rfl (ov_load_elem (v := (.int .u8 x1)) Tryz.isAgg5 rfl rfl h6) ?_
       refine wq rfl rfl rfl (ov_assign rfl rfl) ?_
       refine WL.nil (then_normal (WP.seq (WP.region ?_)))
       refine wq rfl rfl rfl (ov_move rfl rfl) ?_
       refine wq rfl rfl rfl (ov_sub rfl rfl rfl) ?_
       refine wq rfl rfl rfl (ov_assign rfl rfl) ?_
       refine WL.nil (then_normal (WP.seq (WP.seq (WP.region ?_))))
       refine wq rfl rfl rfl (ov_move rfl rfl) ?_
       refine wq rfl rfl rfl (ov_gtr rfl rfl rfl) ?_
       refine WL.nil (then_normal ?_)
       refine WP.cond rfl (fun hc8 => ?_) (fun hc8 => ?_)
       ·
        replace hm := ite_t hc8 hm
        exact (none_some hm).elim
       ·
        replace hm := ite_f hc8 hm
        refine WP.skip (then_normal (WP.region ?_))
        refine wq rfl rfl rfl (ov_move rfl rfl) ?_
        refine wq rfl rfl rfl (ov_mul rfl rfl rfl) ?_
        refine wq rfl rfl rfl (ov_move rfl rfl) ?_
        refine wq rfl rfl rfl (ov_convert_int Tryz.underlying5 Tryz.underlying3 rfl rfl) ?_
        refine wq rfl rfl rfl (ov_add rfl rfl rfl) ?_
        refine wq rfl rfl rfl (ov_assign rfl rfl) ?_
        refine WL.nil (block_normal (then_normal (WP.region ?_)))
        refine wq rfl rfl rfl (ov_add rfl rfl rfl) ?_
        refine wq rfl rfl rfl (ov_move rfl rfl) ?_
        refine WL.nil (then_normal ?_)
        exact ⟨(IntKind.wrap .i64 ((IntKind.wrap .i64 (i1 * 10)) + (IntKind.wrap .i64 (IntKind.wrap .u8 (x1 - 48))))), (IntKind.wrap .i64 (i2 + 1)), (Sub.cons rfl (Sub.cons rfl (Sub.cons rfl (Sub.cons rfl (Sub.cons rfl (Sub.cons rfl (Sub.nil _))))))), fun w' s => s, hm⟩
      ·
       replace hm := ite_f hc7 hm
       refine WP.exit (then_exit (then_exit (block_here (then_normal ?_))))
       exact ⟨H1, i1, hle1, (Sub.cons rfl (Sub.cons rfl (Sub.cons rfl (Sub.nil _)))), fun w' s => s, hm⟩
    ·
     rintro g' S' ⟨H2, i3, hle2, hsub3, hS3, hm⟩
     refine WP.sub hsub3 (WP.weaken hS3 ?_)
     replace hm := (congrFun hk3 i3).symm.trans hm
     replace hG := hG.mono hle2
     obtain ⟨k4, hk4, hm⟩ := joinK_some hm
     refine WP.seq_join (fun g' S' => ∃ (i4 : Int), Sub [(6, (.int .i64 i4)), (1000000007, (.bool false))] g' ∧ (∀ w', S' w' → St w H [] H2 w') ∧ k4 i4 = some r) ?_ ?_
     ·
      skip
      refine WP.seq (WP.region ?_)
      refine wq rfl rfl rfl (ov_move rfl rfl) ?_
      obtain ⟨b3, e6, hm⟩ := bind_some hm
      refine wq rfl rfl rfl (ov_index_string Tryz.underlying9 rfl rfl rfl e6) ?_
      refine wq rfl rfl rfl (ov_eql rfl rfl rfl) ?_
      refine WL.nil (then_normal ?_)
      refine WP.cond rfl (fun hc9 => ?_) (fun hc9 => ?_)
      ·
       replace hm := ite_t hc9 hm
       refine WP.region ?_
       refine wq rfl rfl rfl (ov_move rfl rfl) ?_
       refine wq rfl rfl rfl (ov_neg rfl rfl) ?_
       refine wq rfl rfl rfl (ov_assign rfl rfl) ?_
       refine WL.nil (then_normal ?_)
       exact ⟨(IntKind.wrap .i64 (0 - i3)), (Sub.cons rfl (Sub.cons rfl (Sub.nil _))), fun w' s => s, hm⟩
      ·
       replace hm := ite_f hc9 hm
       refine WP.skip (then_normal ?_)
       exact ⟨i3, (Sub.cons rfl (Sub.cons rfl (Sub.nil _))), fun w' s => s, hm⟩
     ·
      rintro g' S' ⟨i4, hsub4, hS4, hm⟩
      refine WP.sub hsub4 (WP.weaken hS4 ?_)
      replace hm := (congrFun hk4 i4).symm.trans hm
      refine WP.seq (WP.region ?_)
      refine wq rfl rfl rfl (ov_move rfl rfl) ?_
      refine wq rfl rfl rfl (ov_assign rfl rfl) ?_
      refine wq rfl rfl rfl (ov_assign rfl rfl) ?_
      refine WL.nil (then_normal (WP.ret (then_ret ?_)))
      obtain rfl := Option.some.inj hm
      refine retQ_ret Tryz.results111 (Res.tmp rfl (Res.tmp rfl Res.nil)) rfl (fun w' s => ⟨s.below, ?_⟩)
      exact rfl
  ·
   replace hm := ite_f hc2 hm
   refine WP.skip (then_normal ?_)
   exact ⟨(Sub.cons rfl (Sub.cons rfl (Sub.nil _))), fun w' s => s, hm⟩
 ·
  rintro g' S' ⟨hsub5, hS5, hm⟩
  refine WP.sub hsub5 (WP.weaken hS5 ?_)
  replace hm := hk1.symm.trans hm
  exact (none_some hm).elim

end Go.Proofs.YtpocodofhkaddaaGreatDoor.W
