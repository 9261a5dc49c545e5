/- The walks. Written by our own program gen.py; Lean checks it. -/
import Derived.Test.YtpigfknmlmeihaaGreatDoorPlain
import Derived.Test.YtpigfknmlmeihaaGreatDoorEqs
import Derived.Test.YtpigfknmlmeihaaGreatDoorProg
import Derived.Test.YtpigfknmlmeihaaGreatDoorExt
import Derived.Test.YtpigfknmlmeihaaGreatDoorClone
import Derived.Test.YtpigfknmlmeihaaGreatDoorInsert
import Derived.Test.YtpigfknmlmeihaaGreatDoorBuild
import Derived.Test.YtpigfknmlmeihaaGreatDoorWalk0
import Derived.Test.YtpigfknmlmeihaaGreatDoorWalk1
set_option linter.unusedVariables false
set_option maxRecDepth 100000
set_option maxHeartbeats 4000000
namespace Go.Proofs.YtpigfknmlmeihaaGreatDoor.W
open Go Go.RowKit
theorem journal_Run_con (p_l : (List Entry)) (ao1 : Option Addr) (cap1 : Nat) (w : World) (H : Heap) (hH : Le H (hp w)) (h1 : SL H encEntry ao1 p_l) (hc1 : p_l.length ≤ cap1) (hG : Glob H) (r : (Machine × Int × Int)) (hm : journal_Run p_l = some r) :
  Con Tryz.prog 23 [(.slice ao1 p_l.length cap1)] w H (fun v H' => ∃ (ao2 : Option Addr) (cap2 : Nat), v = (.tuple #[(.agg #[(.slice ao2 r.1.items.length cap2), (.int .i64 r.1.cycles)]), (.int .i64 r.2.1), (.int .i64 r.2.2)]) ∧ SL H' encItem ao2 r.1.items ∧ r.1.items.length ≤ cap2) := by
 unfold journal_Run at hm
 refine con_of hH Tryz.func23 rfl 37 Tryz.ntmps23 rfl ?_
 refine WP.seq (WP.region ?_)
 refine WL.step (Runs.free rfl) rfl rfl (os_alloc (cs := [(.slice none 0 0), (.int .i64 0)]) Tryz.zeroValue41 rfl rfl (fun b1 => ?_))
 refine wq rfl rfl rfl (ov_assign rfl rfl) ?_
 refine wq rfl rfl rfl (ov_assign rfl rfl) ?_
 refine WL.nil (then_normal (WP.seq (WP.seq (WP.region ?_))))
 refine wq rfl rfl rfl (ov_move rfl rfl) ?_
 refine wq rfl rfl rfl (ov_len_slice Tryz.underlying52 rfl rfl) ?_
 refine wq rfl rfl rfl (ov_gtr rfl rfl rfl) ?_
 refine WL.nil (then_normal ?_)
 refine WP.cond rfl (fun hc3 => ?_) (fun hc3 => ?_)
 ·
  replace hm := ite_t hc3 hm
  refine WP.seq (WP.region ?_)
  refine wq rfl rfl rfl (ov_build (r := (.agg #[(.slice none 0 0), (.int .i64 0)])) rfl rfl (fun _ => by kernel_rfl)) ?_
  refine WL.step0 (Runs.free rfl) rfl (os_store (i := 0) (vs := [(.slice none 0 0), (.int .i64 0)]) (cs' := [(.slice none 0 0), (.int .i64 0)]) Tryz.sizeOf41 rfl rfl rfl rfl rfl rfl rfl rfl rfl ?_)
  refine wq rfl rfl rfl (ov_assign rfl rfl) ?_
  refine wq rfl rfl rfl (ov_assign rfl rfl) ?_
  refine WL.nil (then_normal (WP.ret (then_ret ?_)))
  obtain rfl := Option.some.inj hm
  refine retQ_ret Tryz.results23 (Res.cell rfl (box_loads (i := 0) Tryz.isAgg41 Tryz.sizeOf41 rfl rfl) (Res.tmp rfl (Res.tmp rfl Res.nil))) rfl (fun w' s => ⟨s.below, ?_⟩)
  exact ⟨none, 0, rfl, SL.nil _ _ _, Nat.le_refl _⟩
 ·
  replace hm := ite_f hc3 hm
  refine WP.skip (then_normal (WP.seq (WP.region ?_)))
  refine WL.step (Runs.free rfl) rfl rfl (os_alloc (cs := [(.slice none 0 0), (.int .i64 0)]) Tryz.zeroValue41 rfl rfl (fun b2 => ?_))
  refine WL.nil (then_normal ?_)
  obtain ⟨k1, hk1, hm⟩ := joinK_some hm
  refine WP.seq_join (fun g' S' => ∃ (H4 : Heap) (l3 : (List Item)) (ao6 : Option Addr) (cap6 : Nat) (i5 : Int), Le H H4 ∧ SL H4 encItem ao6 l3 ∧ l3.length ≤ cap6 ∧ Sub [(2, (pB b1 0)), (5, (pB b2 0)), (1000000007, (.bool false))] g' ∧ (∀ w', S' w' → St w H [.blk b2 41 [(.slice ao6 l3.length cap6), (.int .i64 i5)], .blk b1 41 [(.slice none 0 0), (.int .i64 0)]] H4 w') ∧ k1 l3 i5 = some r) ?_ ?_
  ·
   skip
   refine WP.seq (WP.region ?_)
   refine wq rfl rfl rfl (ov_move rfl rfl) ?_
   refine wq rfl rfl rfl (ov_len_slice Tryz.underlying52 rfl rfl) ?_
   refine wq rfl rfl rfl (ov_move rfl rfl) ?_
   refine WL.nil (then_normal (WP.block ?_))
   refine WP.loop (fun m1 g' S' => ∃ (H1 : Heap) (i1 : Int) (l1 : (List Item)) (ao3 : Option Addr) (cap3 : Nat) (i2 : Int), Le H H1 ∧ SL H1 encItem ao3 l1 ∧ l1.length ≤ cap3 ∧ Sub [(2, (pB b1 0)), (5, (pB b2 0)), (13, (.slice ao1 p_l.length cap1)), (14, (.int .i64 (p_l.length : Int))), (15, (.int .i64 i1)), (1000000007, (.bool false))] g' ∧ (∀ w', S' w' → St w H [.blk b2 41 [(.slice ao3 l1.length cap3), (.int .i64 i2)], .blk b1 41 [(.slice none 0 0), (.int .i64 0)]] H1 w') ∧ journal_Run_loop1 p_l k1 m1 i1 l1 i2 = some r) ((Int.toNat ((p_l.length : Int) - 0) + 1)) ⟨H, 0, [], none, 0, 0, (Le.refl _), (SL.nil _ _ _), (Nat.le_refl _), (Sub.cons rfl (Sub.cons rfl (Sub.cons rfl (Sub.cons rfl (Sub.cons rfl (Sub.cons rfl (Sub.nil _))))))), fun w' s => s, hm⟩ ?_ ?_
   ·
    rintro g' S' ⟨_, _, _, _, _, _, _, _, _, _, _, hm⟩
    exact none_some hm
   ·
    rintro m1 g' S' ⟨H1, i1, l1, ao3, cap3, i2, hle1, h3, hc4, hsub1, hS1, hm⟩
    refine WP.sub hsub1 (WP.weaken hS1 ?_)
    rw [journal_Run_loop1] at hm
    replace h1 := h1.mono hle1
    replace hG := hG.mono hle1
    refine WP.seq (WP.region ?_)
    refine wq rfl rfl rfl (ov_lss rfl rfl rfl) ?_
    refine WL.nil (then_normal (WP.seq ?_))
    refine WP.cond rfl (fun hc5 => ?_) (fun hc5 => ?_)
    ·
     replace hm := ite_t hc5 hm
     refine WP.skip (then_normal (WP.seq (WP.block (WP.seq (WP.region ?_)))))
     refine wq rfl rfl rfl (ov_move rfl rfl) ?_
     obtain ⟨x1, e1, hm⟩ := bind_some hm
     obtain ⟨h4, h5, h6, cs1, h7, h8⟩ := h1.get e1 (by decide)
     obtain rfl : cs1 = [(.int .i64 x1.kind), (mkS x1.name), (.int .i64 x1.count), (.int .i64 x1.strokes)] := h7
     refine wq rfl rfl rfl (ov_indexAddr Tryz.underlying52 Tryz.sizeOf23 rfl rfl rfl h4 h5 h6) ?_
     refine wq rfl rfl rfl (ov_load_elems (vs := [(.int .i64 x1.kind), (mkS x1.name), (.int .i64 x1.count), (.int .i64 x1.strokes)]) Tryz.isAgg23 Tryz.sizeOf23 rfl rfl rfl h8 h6) ?_
     refine WL.step (Runs.free rfl) rfl rfl (os_alloc (cs := [(.int .i64 0), (mkS []), (.int .i64 0), (.int .i64 0)]) Tryz.zeroValue23 rfl rfl (fun b3 => ?_))
     refine wq rfl rfl rfl (ov_assign rfl rfl) ?_
     refine WL.step0 (Runs.free rfl) rfl (os_store (i := 0) (vs := [(.int .i64 x1.kind), (mkS x1.name), (.int .i64 x1.count), (.int .i64 x1.strokes)]) (cs' := [(.int .i64 x1.kind), (mkS x1.name), (.int .i64 x1.count), (.int .i64 x1.strokes)]) Tryz.sizeOf23 rfl rfl rfl rfl rfl rfl rfl rfl rfl ?_)
     refine WL.nil (then_normal (WP.seq (WP.region ?_)))
     refine wq rfl rfl rfl (ov_load_whole (i := 0) Tryz.isAgg23 Tryz.sizeOf23 rfl rfl rfl rfl) ?_
     obtain ⟨r1, e2, hm⟩ := bind_some hm
     refine WL.quiet (Runs.free rfl) rfl rfl (oq_con (r := (.int .i64 r1)) Tryz.call33 rfl rfl (fun w' s => ⟨_, (journal_Right_con x1  w' H1 s.hold hG r1 e2)⟩)) ?_
     refine wq rfl rfl rfl (ov_assign rfl rfl) ?_
     refine WL.nil (then_normal ?_)
     obtain ⟨k2, hk2, hm⟩ := joinK_some hm
     refine WP.seq_join (fun g' S' => ∃ (H3 : Heap) (i3 : Int) (l2 : (List Item)) (ao5 : Option Addr) (cap5 : Nat) (i4 : Int), Le H1 H3 ∧ SL H3 encItem ao5 l2 ∧ l2.length ≤ cap5 ∧ Sub [(2, (pB b1 0)), (5, (pB b2 0)), (6, (.int .i64 i1)), (8, (.int .i64 i3)), (13, (.slice ao1 p_l.length cap1)), (14, (.int .i64 (p_l.length : Int))), (15, (.int .i64 i1)), (1000000007, (.bool false))] g' ∧ (∀ w', S' w' → St w H [.blk b2 41 [(.slice ao5 l2.length cap5), (.int .i64 i4)], .blk b1 41 [(.slice none 0 0), (.int .i64 0)]] H3 w') ∧ k2 i3 l2 i4 = some r) ?_ ?_
     ·
      skip
      refine WP.seq (WP.region ?_)
      refine wq rfl rfl rfl (ov_move rfl rfl) ?_
      refine wq rfl rfl rfl (ov_eql rfl rfl rfl) ?_
      refine WL.nil (then_normal ?_)
      refine WP.cond rfl (fun hc6 => ?_) (fun hc6 => ?_)
      ·
       replace hm := ite_t hc6 hm
       refine WP.region ?_
       refine wq rfl rfl rfl (ov_load_whole (i := 1) Tryz.isAgg41 Tryz.sizeOf41 rfl rfl rfl rfl) ?_
       refine wq rfl rfl rfl (ov_load_whole (i := 0) Tryz.isAgg23 Tryz.sizeOf23 rfl rfl rfl rfl) ?_
       obtain ⟨r2, e3, hm⟩ := bind_some hm
       refine WL.step (Runs.free rfl) rfl rfl (os_con Tryz.call57 rfl rfl (fun w' s => (journal_done_con (Machine.mk l1 i2) x1 ao3 cap3  w' H1 s.hold h3 hc4 hG r2 e3)) (fun rr1 H2 hle2 hR1 => ?_))
       replace h1 := h1.mono hle2
       replace h8 := h8.mono hle2
       replace h3 := h3.mono hle2
       replace hG := hG.mono hle2
       obtain ⟨ao4, cap4, rfl, h9, hc7⟩ := hR1
       refine wq rfl rfl rfl (ov_move rfl rfl) ?_
       refine wq rfl rfl rfl (ov_extract rfl rfl rfl) ?_
       refine wq rfl rfl rfl (ov_extract rfl rfl rfl) ?_
       refine WL.step0 (Runs.free rfl) rfl (os_store (i := 1) (vs := [(.slice ao4 r2.1.items.length cap4), (.int .i64 r2.1.cycles)]) (cs' := [(.slice ao4 r2.1.items.length cap4), (.int .i64 r2.1.cycles)]) Tryz.sizeOf41 rfl rfl rfl rfl rfl rfl rfl rfl rfl ?_)
       refine wq rfl rfl rfl (ov_assign rfl rfl) ?_
       refine WL.nil (then_normal ?_)
       exact ⟨H2, r2.2, r2.1.items, ao4, cap4, r2.1.cycles, hle2, h9, hc7, (Sub.cons rfl (Sub.cons rfl (Sub.cons rfl (Sub.cons rfl (Sub.cons rfl (Sub.cons rfl (Sub.cons rfl (Sub.cons rfl (Sub.nil _))))))))), fun w' s => (s.select [1, 2] (by decide) rfl), hm⟩
      ·
       replace hm := ite_f hc6 hm
       refine WP.skip (then_normal ?_)
       exact ⟨H1, r1, l1, ao3, cap3, i2, (Le.refl _), h3, hc4, (Sub.cons rfl (Sub.cons rfl (Sub.cons rfl (Sub.cons rfl (Sub.cons rfl (Sub.cons rfl (Sub.cons rfl (Sub.cons rfl (Sub.nil _))))))))), fun w' s => (s.select [1, 2] (by decide) rfl), hm⟩
     ·
      rintro g' S' ⟨H3, i3, l2, ao5, cap5, i4, hle3, h10, hc8, hsub2, hS2, hm⟩
      refine WP.sub hsub2 (WP.weaken hS2 ?_)
      replace hm := (congrFun (congrFun (congrFun hk2 i3) l2) i4).symm.trans hm
      replace h1 := h1.mono hle3
      replace hG := hG.mono hle3
      refine WP.seq (WP.region ?_)
      refine wq rfl rfl rfl (ov_move rfl rfl) ?_
      refine wq rfl rfl rfl (ov_neq rfl rfl rfl) ?_
      refine WL.nil (then_normal ?_)
      refine WP.cond rfl (fun hc9 => ?_) (fun hc9 => ?_)
      ·
       replace hm := ite_t hc9 hm
       refine WP.seq (WP.region ?_)
       refine wq rfl rfl rfl (ov_build (r := (.agg #[(.slice none 0 0), (.int .i64 0)])) rfl rfl (fun _ => by kernel_rfl)) ?_
       refine wq rfl rfl rfl (ov_move rfl rfl) ?_
       refine wq rfl rfl rfl (ov_move rfl rfl) ?_
       refine WL.step0 (Runs.free rfl) rfl (os_store (i := 1) (vs := [(.slice none 0 0), (.int .i64 0)]) (cs' := [(.slice none 0 0), (.int .i64 0)]) Tryz.sizeOf41 rfl rfl rfl rfl rfl rfl rfl rfl rfl ?_)
       refine wq rfl rfl rfl (ov_assign rfl rfl) ?_
       refine wq rfl rfl rfl (ov_assign rfl rfl) ?_
       refine WL.nil (then_normal (WP.ret (block_ret (then_ret (then_ret (block_ret (then_ret ?_)))))))
       obtain rfl := Option.some.inj hm
       refine retQ_ret Tryz.results23 (Res.cell rfl (box_loads (i := 1) Tryz.isAgg41 Tryz.sizeOf41 rfl rfl) (Res.tmp rfl (Res.tmp rfl Res.nil))) rfl (fun w' s => ⟨s.below, ?_⟩)
       exact ⟨none, 0, rfl, SL.nil _ _ _, Nat.le_refl _⟩
      ·
       replace hm := ite_f hc9 hm
       refine WP.skip (block_normal (then_normal (WP.region ?_)))
       refine wq rfl rfl rfl (ov_add rfl rfl rfl) ?_
       refine wq rfl rfl rfl (ov_move rfl rfl) ?_
       refine WL.nil (then_normal ?_)
       exact ⟨H3, (IntKind.wrap .i64 (i1 + 1)), l2, ao5, cap5, i4, (hle1.trans hle3), h10, hc8, (Sub.cons rfl (Sub.cons rfl (Sub.cons rfl (Sub.cons rfl (Sub.cons rfl (Sub.cons rfl (Sub.nil _))))))), fun w' s => s, hm⟩
    ·
     replace hm := ite_f hc5 hm
     refine WP.exit (then_exit (then_exit (block_here (then_normal ?_))))
     exact ⟨H1, l1, ao3, cap3, i2, hle1, h3, hc4, (Sub.cons rfl (Sub.cons rfl (Sub.cons rfl (Sub.nil _)))), fun w' s => s, hm⟩
  ·
   rintro g' S' ⟨H4, l3, ao6, cap6, i5, hle4, h11, hc10, hsub3, hS3, hm⟩
   refine WP.sub hsub3 (WP.weaken hS3 ?_)
   replace hm := (congrFun (congrFun hk1 l3) i5).symm.trans hm
   replace hG := hG.mono hle4
   refine WP.seq (WP.region ?_)
   refine wq rfl rfl rfl (ov_load_whole (i := 0) Tryz.isAgg41 Tryz.sizeOf41 rfl rfl rfl rfl) ?_
   refine WL.step0 (Runs.free rfl) rfl (os_store (i := 1) (vs := [(.slice ao6 l3.length cap6), (.int .i64 i5)]) (cs' := [(.slice ao6 l3.length cap6), (.int .i64 i5)]) Tryz.sizeOf41 rfl rfl rfl rfl rfl rfl rfl rfl rfl ?_)
   refine wq rfl rfl rfl (ov_assign rfl rfl) ?_
   refine wq rfl rfl rfl (ov_assign rfl rfl) ?_
   refine WL.nil (then_normal (WP.ret ?_))
   obtain rfl := Option.some.inj hm
   refine retQ_ret Tryz.results23 (Res.cell rfl (box_loads (i := 1) Tryz.isAgg41 Tryz.sizeOf41 rfl rfl) (Res.tmp rfl (Res.tmp rfl Res.nil))) rfl (fun w' s => ⟨s.below, ?_⟩)
   exact ⟨ao6, cap6, rfl, h11.mono s.le_newer, hc10⟩

theorem journal_text_con (p_x : Entry) (w : World) (H : Heap) (hH : Le H (hp w)) (hG : Glob H) (r : (List UInt8)) (hm : journal_text p_x = some r) :
  Con Tryz.prog 34 [(.agg #[(.int .i64 p_x.kind), (mkS p_x.name), (.int .i64 p_x.count), (.int .i64 p_x.strokes)])] w H (fun v _ => v = (mkS r)) := by
 unfold journal_text at hm
 refine con_of hH Tryz.func34 rfl 32 Tryz.ntmps34 rfl ?_
 refine WP.seq (WP.region ?_)
 refine WL.step (Runs.free rfl) rfl rfl (os_box (cs := [(.int .i64 p_x.kind), (mkS p_x.name), (.int .i64 p_x.count), (.int .i64 p_x.strokes)]) rfl rfl rfl (fun b1 => ?_))
 refine wq rfl rfl rfl (ov_assign rfl rfl) ?_
 refine WL.nil (then_normal ?_)
 obtain ⟨k1, hk1, hm⟩ := joinK_some hm
 refine WP.seq_join (fun g' S' => ∃ (b11 : Nat) (s1 : (List UInt8)) (c1 : Bool) (c2 : Bool) (v1 : Value), Sub [(1, (pB b1 0)), (3, (pB b11 0)), (1000000007, (.bool false))] g' ∧ (∀ w', S' w' → St w H [.blk b11 80 [(mkS s1), (.bool c1), (.bool c2), v1], .blk b1 23 [(.int .i64 p_x.kind), (mkS p_x.name), (.int .i64 p_x.count), (.int .i64 p_x.strokes)]] H w') ∧ k1 s1 c1 c2 = some r) ?_ ?_
 ·
  skip
  refine WP.region_any (S₀ := St w H [.blk b1 23 [(.int .i64 p_x.kind), (mkS p_x.name), (.int .i64 p_x.count), (.int .i64 p_x.strokes)]] H) 6 rfl (by kernel_rfl) (fun w' s => s) (fun _ s => s.drew) ?_
  refine tq (i := 1) rfl (by kernel_rfl) rfl rfl rfl (ov_fieldAddr Tryz.underlying23 rfl rfl rfl Tryz.sizeOf3 rfl rfl) ?_
  refine tq (i := 2) rfl (by kernel_rfl) rfl rfl rfl (ov_load_box (i := 0) Tryz.isAgg3 rfl rfl rfl rfl) ?_
  refine AL.any (rs := [0, 4]) (by kernel_rfl) (by decide) ?_
  refine ALs.cons (i := 0) rfl (Runs.free rfl) rfl rfl ?_ ?_
  ·
   skip
   refine os_inline (cap := []) (vs := []) Tryz.call37 rfl rfl rfl Tryz.func37 rfl 8 Tryz.ntmps37 rfl (fun w' s => ?_)
   refine WP.seq (WP.region ?_)
   refine WL.step (Runs.free rfl) rfl rfl (os_alloc (cs := [(mkS []), (.bool false), (.bool false), .nilFunc, (mkS []), (.bool false), (.bool false), .nilFunc, (mkS []), (.bool false), (.bool false), .nilFunc, (mkS []), (.bool false), (.bool false), .nilFunc, (mkS []), (.bool false), (.bool false), .nilFunc, (mkS []), (.bool false), (.bool false), .nilFunc]) Tryz.zeroValue81 rfl rfl (fun b2 => ?_))
   refine WL.nil (then_normal (WP.seq (WP.region ?_)))
   refine wq rfl rfl rfl (ov_build (r := (.agg #[(mkS [112, 97, 114, 116]), (.bool true), (.bool false), (.func (.func 68) #[] #[])])) rfl rfl (fun _ => by kernel_rfl)) ?_
   refine wq rfl rfl rfl (ov_build (r := (.agg #[(mkS [99, 121, 99, 108, 101, 115]), (.bool true), (.bool true), (.func (.func 69) #[] #[])])) rfl rfl (fun _ => by kernel_rfl)) ?_
   refine wq rfl rfl rfl (ov_build (r := (.agg #[(mkS [102, 97, 117, 108, 116]), (.bool false), (.bool false), (.func (.func 70) #[] #[])])) rfl rfl (fun _ => by kernel_rfl)) ?_
   refine wq rfl rfl rfl (ov_build (r := (.agg #[(mkS [114, 101, 112, 97, 105, 114]), (.bool false), (.bool false), (.func (.func 71) #[] #[])])) rfl rfl (fun _ => by kernel_rfl)) ?_
   refine wq rfl rfl rfl (ov_build (r := (.agg #[(mkS [114, 101, 112, 108, 97, 99, 101]), (.bool true), (.bool false), (.func (.func 72) #[] #[])])) rfl rfl (fun _ => by kernel_rfl)) ?_
   refine wq rfl rfl rfl (ov_build (r := (.agg #[(mkS [114, 101, 109, 111, 118, 101]), (.bool false), (.bool false), (.func (.func 73) #[] #[])])) rfl rfl (fun _ => by kernel_rfl)) ?_
   refine wq rfl rfl rfl (ov_build (r := (.agg #[(mkS [112, 97, 114, 116]), (.bool true), (.bool false), (.func (.func 68) #[] #[]), (mkS [99, 121, 99, 108, 101, 115]), (.bool true), (.bool true), (.func (.func 69) #[] #[]), (mkS [102, 97, 117, 108, 116]), (.bool false), (.bool false), (.func (.func 70) #[] #[]), (mkS [114, 101, 112, 97, 105, 114]), (.bool false), (.bool false), (.func (.func 71) #[] #[]), (mkS [114, 101, 112, 108, 97, 99, 101]), (.bool true), (.bool false), (.func (.func 72) #[] #[]), (mkS [114, 101, 109, 111, 118, 101]), (.bool false), (.bool false), (.func (.func 73) #[] #[])])) rfl rfl (fun _ => by kernel_rfl)) ?_
   refine WL.step0 (Runs.free rfl) rfl (os_store (i := 0) (vs := [(mkS [112, 97, 114, 116]), (.bool true), (.bool false), (.func (.func 68) #[] #[]), (mkS [99, 121, 99, 108, 101, 115]), (.bool true), (.bool true), (.func (.func 69) #[] #[]), (mkS [102, 97, 117, 108, 116]), (.bool false), (.bool false), (.func (.func 70) #[] #[]), (mkS [114, 101, 112, 97, 105, 114]), (.bool false), (.bool false), (.func (.func 71) #[] #[]), (mkS [114, 101, 112, 108, 97, 99, 101]), (.bool true), (.bool false), (.func (.func 72) #[] #[]), (mkS [114, 101, 109, 111, 118, 101]), (.bool false), (.bool false), (.func (.func 73) #[] #[])]) (cs' := [(mkS [112, 97, 114, 116]), (.bool true), (.bool false), (.func (.func 68) #[] #[]), (mkS [99, 121, 99, 108, 101, 115]), (.bool true), (.bool true), (.func (.func 69) #[] #[]), (mkS [102, 97, 117, 108, 116]), (.bool false), (.bool false), (.func (.func 70) #[] #[]), (mkS [114, 101, 112, 97, 105, 114]), (.bool false), (.bool false), (.func (.func 71) #[] #[]), (mkS [114, 101, 112, 108, 97, 99, 101]), (.bool true), (.bool false), (.func (.func 72) #[] #[]), (mkS [114, 101, 109, 111, 118, 101]), (.bool false), (.bool false), (.func (.func 73) #[] #[])]) Tryz.sizeOf81 rfl rfl rfl rfl rfl rfl rfl rfl rfl ?_)
   refine WL.nil (then_normal (WP.ret ?_))
   refine retQ_ret (v := (.agg #[(mkS [112, 97, 114, 116]), (.bool true), (.bool false), (.func (.func 68) #[] #[]), (mkS [99, 121, 99, 108, 101, 115]), (.bool true), (.bool true), (.func (.func 69) #[] #[]), (mkS [102, 97, 117, 108, 116]), (.bool false), (.bool false), (.func (.func 70) #[] #[]), (mkS [114, 101, 112, 97, 105, 114]), (.bool false), (.bool false), (.func (.func 71) #[] #[]), (mkS [114, 101, 112, 108, 97, 99, 101]), (.bool true), (.bool false), (.func (.func 72) #[] #[]), (mkS [114, 101, 109, 111, 118, 101]), (.bool false), (.bool false), (.func (.func 73) #[] #[])])) Tryz.results37 (Res.cell rfl (box_loads (i := 0) Tryz.isAgg81 Tryz.sizeOf81 rfl rfl) Res.nil) rfl (fun w' s => ⟨_, ?_, s⟩)
   refine ⟨fun w' s => (s.select [1] (by decide) rfl), ?_⟩
   rcases Bool.eq_false_or_eq_true (p_x.kind == 0) with hc1 | hc1
   ·
    replace hm := ite_t hc1 hm
    refine tq (i := 3) rfl (by kernel_rfl) rfl rfl rfl (ov_index_at (j := 0) (cs := [(mkS [112, 97, 114, 116]), (.bool true), (.bool false), (.func (.func 68) #[] #[]), (mkS [99, 121, 99, 108, 101, 115]), (.bool true), (.bool true), (.func (.func 69) #[] #[]), (mkS [102, 97, 117, 108, 116]), (.bool false), (.bool false), (.func (.func 70) #[] #[]), (mkS [114, 101, 112, 97, 105, 114]), (.bool false), (.bool false), (.func (.func 71) #[] #[]), (mkS [114, 101, 112, 108, 97, 99, 101]), (.bool true), (.bool false), (.func (.func 72) #[] #[]), (mkS [114, 101, 109, 111, 118, 101]), (.bool false), (.bool false), (.func (.func 73) #[] #[])]) (r := (.agg #[(mkS [112, 97, 114, 116]), (.bool true), (.bool false), (.func (.func 68) #[] #[])])) (eq_of_beq hc1) rfl rfl rfl (fun _ => by kernel_rfl)) ?_
    refine AL.any (rs := [4]) (by kernel_rfl) (by decide) ?_
    refine ALs.cons (i := 4) rfl (Runs.free rfl) rfl rfl ?_ ?_
    ·
     skip
     refine os_alloc (cs := [(mkS []), (.bool false), (.bool false), .nilFunc]) Tryz.zeroValue80 rfl rfl (fun b3 => ?_)
     refine ⟨fun w' s => (s.select [2] (by decide) rfl), ?_⟩
     refine AL.any (rs := [5]) (by kernel_rfl) (by decide) ?_
     refine ALs.cons0 (i := 5) rfl (Runs.free rfl) rfl ?_ ?_
     ·
      skip
      refine os_store (i := 0) (vs := [(mkS [112, 97, 114, 116]), (.bool true), (.bool false), (.func (.func 68) #[] #[])]) (cs' := [(mkS [112, 97, 114, 116]), (.bool true), (.bool false), (.func (.func 68) #[] #[])]) Tryz.sizeOf80 rfl rfl rfl rfl rfl rfl rfl rfl rfl ?_
      refine ⟨fun w' s => (s.select [2] (by decide) rfl), ?_⟩
      refine AL.done (by kernel_rfl) ?_
      refine then_normal ?_
      exact ⟨b3, [112, 97, 114, 116], true, false, (.func (.func 68) #[] #[]), (Sub.cons rfl (Sub.cons rfl (Sub.cons rfl (Sub.nil _)))), fun w' s => (s.select [0, 2] (by decide) rfl), hm⟩
     exact ALs.nil
    exact ALs.nil
   ·
    replace hm := ite_f hc1 hm
    rcases Bool.eq_false_or_eq_true (p_x.kind == 1) with hc2 | hc2
    ·
     replace hm := ite_t hc2 hm
     refine tq (i := 3) rfl (by kernel_rfl) rfl rfl rfl (ov_index_at (j := 1) (cs := [(mkS [112, 97, 114, 116]), (.bool true), (.bool false), (.func (.func 68) #[] #[]), (mkS [99, 121, 99, 108, 101, 115]), (.bool true), (.bool true), (.func (.func 69) #[] #[]), (mkS [102, 97, 117, 108, 116]), (.bool false), (.bool false), (.func (.func 70) #[] #[]), (mkS [114, 101, 112, 97, 105, 114]), (.bool false), (.bool false), (.func (.func 71) #[] #[]), (mkS [114, 101, 112, 108, 97, 99, 101]), (.bool true), (.bool false), (.func (.func 72) #[] #[]), (mkS [114, 101, 109, 111, 118, 101]), (.bool false), (.bool false), (.func (.func 73) #[] #[])]) (r := (.agg #[(mkS [99, 121, 99, 108, 101, 115]), (.bool true), (.bool true), (.func (.func 69) #[] #[])])) (eq_of_beq hc2) rfl rfl rfl (fun _ => by kernel_rfl)) ?_
     refine AL.any (rs := [4]) (by kernel_rfl) (by decide) ?_
     refine ALs.cons (i := 4) rfl (Runs.free rfl) rfl rfl ?_ ?_
     ·
      skip
      refine os_alloc (cs := [(mkS []), (.bool false), (.bool false), .nilFunc]) Tryz.zeroValue80 rfl rfl (fun b4 => ?_)
      refine ⟨fun w' s => (s.select [2] (by decide) rfl), ?_⟩
      refine AL.any (rs := [5]) (by kernel_rfl) (by decide) ?_
      refine ALs.cons0 (i := 5) rfl (Runs.free rfl) rfl ?_ ?_
      ·
       skip
       refine os_store (i := 0) (vs := [(mkS [99, 121, 99, 108, 101, 115]), (.bool true), (.bool true), (.func (.func 69) #[] #[])]) (cs' := [(mkS [99, 121, 99, 108, 101, 115]), (.bool true), (.bool true), (.func (.func 69) #[] #[])]) Tryz.sizeOf80 rfl rfl rfl rfl rfl rfl rfl rfl rfl ?_
       refine ⟨fun w' s => (s.select [2] (by decide) rfl), ?_⟩
       refine AL.done (by kernel_rfl) ?_
       refine then_normal ?_
       exact ⟨b4, [99, 121, 99, 108, 101, 115], true, true, (.func (.func 69) #[] #[]), (Sub.cons rfl (Sub.cons rfl (Sub.cons rfl (Sub.nil _)))), fun w' s => (s.select [0, 2] (by decide) rfl), hm⟩
      exact ALs.nil
     exact ALs.nil
    ·
     replace hm := ite_f hc2 hm
     rcases Bool.eq_false_or_eq_true (p_x.kind == 2) with hc3 | hc3
     ·
      replace hm := ite_t hc3 hm
      refine tq (i := 3) rfl (by kernel_rfl) rfl rfl rfl (ov_index_at (j := 2) (cs := [(mkS [112, 97, 114, 116]), (.bool true), (.bool false), (.func (.func 68) #[] #[]), (mkS [99, 121, 99, 108, 101, 115]), (.bool true), (.bool true), (.func (.func 69) #[] #[]), (mkS [102, 97, 117, 108, 116]), (.bool false), (.bool false), (.func (.func 70) #[] #[]), (mkS [114, 101, 112, 97, 105, 114]), (.bool false), (.bool false), (.func (.func 71) #[] #[]), (mkS [114, 101, 112, 108, 97, 99, 101]), (.bool true), (.bool false), (.func (.func 72) #[] #[]), (mkS [114, 101, 109, 111, 118, 101]), (.bool false), (.bool false), (.func (.func 73) #[] #[])]) (r := (.agg #[(mkS [102, 97, 117, 108, 116]), (.bool false), (.bool false), (.func (.func 70) #[] #[])])) (eq_of_beq hc3) rfl rfl rfl (fun _ => by kernel_rfl)) ?_
      refine AL.any (rs := [4]) (by kernel_rfl) (by decide) ?_
      refine ALs.cons (i := 4) rfl (Runs.free rfl) rfl rfl ?_ ?_
      ·
       skip
       refine os_alloc (cs := [(mkS []), (.bool false), (.bool false), .nilFunc]) Tryz.zeroValue80 rfl rfl (fun b5 => ?_)
       refine ⟨fun w' s => (s.select [2] (by decide) rfl), ?_⟩
       refine AL.any (rs := [5]) (by kernel_rfl) (by decide) ?_
       refine ALs.cons0 (i := 5) rfl (Runs.free rfl) rfl ?_ ?_
       ·
        skip
        refine os_store (i := 0) (vs := [(mkS [102, 97, 117, 108, 116]), (.bool false), (.bool false), (.func (.func 70) #[] #[])]) (cs' := [(mkS [102, 97, 117, 108, 116]), (.bool false), (.bool false), (.func (.func 70) #[] #[])]) Tryz.sizeOf80 rfl rfl rfl rfl rfl rfl rfl rfl rfl ?_
        refine ⟨fun w' s => (s.select [2] (by decide) rfl), ?_⟩
        refine AL.done (by kernel_rfl) ?_
        refine then_normal ?_
        exact ⟨b5, [102, 97, 117, 108, 116], false, false, (.func (.func 70) #[] #[]), (Sub.cons rfl (Sub.cons rfl (Sub.cons rfl (Sub.nil _)))), fun w' s => (s.select [0, 2] (by decide) rfl), hm⟩
       exact ALs.nil
      exact ALs.nil
     ·
      replace hm := ite_f hc3 hm
      rcases Bool.eq_false_or_eq_true (p_x.kind == 3) with hc4 | hc4
      ·
       replace hm := ite_t hc4 hm
       refine tq (i := 3) rfl (by kernel_rfl) rfl rfl rfl (ov_index_at (j := 3) (cs := [(mkS [112, 97, 114, 116]), (.bool true), (.bool false), (.func (.func 68) #[] #[]), (mkS [99, 121, 99, 108, 101, 115]), (.bool true), (.bool true), (.func (.func 69) #[] #[]), (mkS [102, 97, 117, 108, 116]), (.bool false), (.bool false), (.func (.func 70) #[] #[]), (mkS [114, 101, 112, 97, 105, 114]), (.bool false), (.bool false), (.func (.func 71) #[] #[]), (mkS [114, 101, 112, 108, 97, 99, 101]), (.bool true), (.bool false), (.func (.func 72) #[] #[]), (mkS [114, 101, 109, 111, 118, 101]), (.bool false), (.bool false), (.func (.func 73) #[] #[])]) (r := (.agg #[(mkS [114, 101, 112, 97, 105, 114]), (.bool false), (.bool false), (.func (.func 71) #[] #[])])) (eq_of_beq hc4) rfl rfl rfl (fun _ => by kernel_rfl)) ?_
       refine AL.any (rs := [4]) (by kernel_rfl) (by decide) ?_
       refine ALs.cons (i := 4) rfl (Runs.free rfl) rfl rfl ?_ ?_
       ·
        skip
        refine os_alloc (cs := [(mkS []), (.bool false), (.bool false), .nilFunc]) Tryz.zeroValue80 rfl rfl (fun b6 => ?_)
        refine ⟨fun w' s => (s.select [2] (by decide) rfl), ?_⟩
        refine AL.any (rs := [5]) (by kernel_rfl) (by decide) ?_
        refine ALs.cons0 (i := 5) rfl (Runs.free rfl) rfl ?_ ?_
        ·
         skip
         refine os_store (i := 0) (vs := [(mkS [114, 101, 112, 97, 105, 114]), (.bool false), (.bool false), (.func (.func 71) #[] #[])]) (cs' := [(mkS [114, 101, 112, 97, 105, 114]), (.bool false), (.bool false), (.func (.func 71) #[] #[])]) Tryz.sizeOf80 rfl rfl rfl rfl rfl rfl rfl rfl rfl ?_
         refine ⟨fun w' s => (s.select [2] (by decide) rfl), ?_⟩
         refine AL.done (by kernel_rfl) ?_
         refine then_normal ?_
         exact ⟨b6, [114, 101, 112, 97, 105, 114], false, false, (.func (.func 71) #[] #[]), (Sub.cons rfl (Sub.cons rfl (Sub.cons rfl (Sub.nil _)))), fun w' s => (s.select [0, 2] (by decide) rfl), hm⟩
        exact ALs.nil
       exact ALs.nil
      ·
       replace hm := ite_f hc4 hm
       rcases Bool.eq_false_or_eq_true (p_x.kind == 4) with hc5 | hc5
       ·
        replace hm := ite_t hc5 hm
        refine tq (i := 3) rfl (by kernel_rfl) rfl rfl rfl (ov_index_at (j := 4) (cs := [(mkS [112, 97, 114, 116]), (.bool true), (.bool false), (.func (.func 68) #[] #[]), (mkS [99, 121, 99, 108, 101, 115]), (.bool true), (.bool true), (.func (.func 69) #[] #[]), (mkS [102, 97, 117, 108, 116]), (.bool false), (.bool false), (.func (.func 70) #[] #[]), (mkS [114, 101, 112, 97, 105, 114]), (.bool false), (.bool false), (.func (.func 71) #[] #[]), (mkS [114, 101, 112, 108, 97, 99, 101]), (.bool true), (.bool false), (.func (.func 72) #[] #[]), (mkS [114, 101, 109, 111, 118, 101]), (.bool false), (.bool false), (.func (.func 73) #[] #[])]) (r := (.agg #[(mkS [114, 101, 112, 108, 97, 99, 101]), (.bool true), (.bool false), (.func (.func 72) #[] #[])])) (eq_of_beq hc5) rfl rfl rfl (fun _ => by kernel_rfl)) ?_
        refine AL.any (rs := [4]) (by kernel_rfl) (by decide) ?_
        refine ALs.cons (i := 4) rfl (Runs.free rfl) rfl rfl ?_ ?_
        ·
         skip
         refine os_alloc (cs := [(mkS []), (.bool false), (.bool false), .nilFunc]) Tryz.zeroValue80 rfl rfl (fun b7 => ?_)
         refine ⟨fun w' s => (s.select [2] (by decide) rfl), ?_⟩
         refine AL.any (rs := [5]) (by kernel_rfl) (by decide) ?_
         refine ALs.cons0 (i := 5) rfl (Runs.free rfl) rfl ?_ ?_
         ·
          skip
          refine os_store (i := 0) (vs := [(mkS [114, 101, 112, 108, 97, 99, 101]), (.bool true), (.bool false), (.func (.func 72) #[] #[])]) (cs' := [(mkS [114, 101, 112, 108, 97, 99, 101]), (.bool true), (.bool false), (.func (.func 72) #[] #[])]) Tryz.sizeOf80 rfl rfl rfl rfl rfl rfl rfl rfl rfl ?_
          refine ⟨fun w' s => (s.select [2] (by decide) rfl), ?_⟩
          refine AL.done (by kernel_rfl) ?_
          refine then_normal ?_
          exact ⟨b7, [114, 101, 112, 108, 97, 99, 101], true, false, (.func (.func 72) #[] #[]), (Sub.cons rfl (Sub.cons rfl (Sub.cons rfl (Sub.nil _)))), fun w' s => (s.select [0, 2] (by decide) rfl), hm⟩
         exact ALs.nil
        exact ALs.nil
       ·
        replace hm := ite_f hc5 hm
        rcases Bool.eq_false_or_eq_true (p_x.kind == 5) with hc6 | hc6
        ·
         replace hm := ite_t hc6 hm
         refine tq (i := 3) rfl (by kernel_rfl) rfl rfl rfl (ov_index_at (j := 5) (cs := [(mkS [112, 97, 114, 116]), (.bool true), (.bool false), (.func (.func 68) #[] #[]), (mkS [99, 121, 99, 108, 101, 115]), (.bool true), (.bool true), (.func (.func 69) #[] #[]), (mkS [102, 97, 117, 108, 116]), (.bool false), (.bool false), (.func (.func 70) #[] #[]), (mkS [114, 101, 112, 97, 105, 114]), (.bool false), (.bool false), (.func (.func 71) #[] #[]), (mkS [114, 101, 112, 108, 97, 99, 101]), (.bool true), (.bool false), (.func (.func 72) #[] #[]), (mkS [114, 101, 109, 111, 118, 101]), (.bool false), (.bool false), (.func (.func 73) #[] #[])]) (r := (.agg #[(mkS [114, 101, 109, 111, 118, 101]), (.bool false), (.bool false), (.func (.func 73) #[] #[])])) (eq_of_beq hc6) rfl rfl rfl (fun _ => by kernel_rfl)) ?_
         refine AL.any (rs := [4]) (by kernel_rfl) (by decide) ?_
         refine ALs.cons (i := 4) rfl (Runs.free rfl) rfl rfl ?_ ?_
         ·
          skip
          refine os_alloc (cs := [(mkS []), (.bool false), (.bool false), .nilFunc]) Tryz.zeroValue80 rfl rfl (fun b8 => ?_)
          refine ⟨fun w' s => (s.select [2] (by decide) rfl), ?_⟩
          refine AL.any (rs := [5]) (by kernel_rfl) (by decide) ?_
          refine ALs.cons0 (i := 5) rfl (Runs.free rfl) rfl ?_ ?_
          ·
           skip
           refine os_store (i := 0) (vs := [(mkS [114, 101, 109, 111, 118, 101]), (.bool false), (.bool false), (.func (.func 73) #[] #[])]) (cs' := [(mkS [114, 101, 109, 111, 118, 101]), (.bool false), (.bool false), (.func (.func 73) #[] #[])]) Tryz.sizeOf80 rfl rfl rfl rfl rfl rfl rfl rfl rfl ?_
           refine ⟨fun w' s => (s.select [2] (by decide) rfl), ?_⟩
           refine AL.done (by kernel_rfl) ?_
           refine then_normal ?_
           exact ⟨b8, [114, 101, 109, 111, 118, 101], false, false, (.func (.func 73) #[] #[]), (Sub.cons rfl (Sub.cons rfl (Sub.cons rfl (Sub.nil _)))), fun w' s => (s.select [0, 2] (by decide) rfl), hm⟩
          exact ALs.nil
         exact ALs.nil
        ·
         replace hm := ite_f hc6 hm
         exact (none_some hm).elim
  refine ALs.cons (i := 4) rfl (Runs.free rfl) rfl rfl ?_ ?_
  ·
   skip
   refine os_alloc (cs := [(mkS []), (.bool false), (.bool false), .nilFunc]) Tryz.zeroValue80 rfl rfl (fun b9 => ?_)
   refine ⟨fun w' s => (s.select [1] (by decide) rfl), ?_⟩
   refine AL.any (rs := [0]) (by kernel_rfl) (by decide) ?_
   refine ALs.cons (i := 0) rfl (Runs.free rfl) rfl rfl ?_ ?_
   ·
    skip
    refine os_inline (cap := []) (vs := []) Tryz.call37 rfl rfl rfl Tryz.func37 rfl 8 Tryz.ntmps37 rfl (fun w' s => ?_)
    refine WP.seq (WP.region ?_)
    refine WL.step (Runs.free rfl) rfl rfl (os_alloc (cs := [(mkS []), (.bool false), (.bool false), .nilFunc, (mkS []), (.bool false), (.bool false), .nilFunc, (mkS []), (.bool false), (.bool false), .nilFunc, (mkS []), (.bool false), (.bool false), .nilFunc, (mkS []), (.bool false), (.bool false), .nilFunc, (mkS []), (.bool false), (.bool false), .nilFunc]) Tryz.zeroValue81 rfl rfl (fun b10 => ?_))
    refine WL.nil (then_normal (WP.seq (WP.region ?_)))
    refine wq rfl rfl rfl (ov_build (r := (.agg #[(mkS [112, 97, 114, 116]), (.bool true), (.bool false), (.func (.func 68) #[] #[])])) rfl rfl (fun _ => by kernel_rfl)) ?_
    refine wq rfl rfl rfl (ov_build (r := (.agg #[(mkS [99, 121, 99, 108, 101, 115]), (.bool true), (.bool true), (.func (.func 69) #[] #[])])) rfl rfl (fun _ => by kernel_rfl)) ?_
    refine wq rfl rfl rfl (ov_build (r := (.agg #[(mkS [102, 97, 117, 108, 116]), (.bool false), (.bool false), (.func (.func 70) #[] #[])])) rfl rfl (fun _ => by kernel_rfl)) ?_
    refine wq rfl rfl rfl (ov_build (r := (.agg #[(mkS [114, 101, 112, 97, 105, 114]), (.bool false), (.bool false), (.func (.func 71) #[] #[])])) rfl rfl (fun _ => by kernel_rfl)) ?_
    refine wq rfl rfl rfl (ov_build (r := (.agg #[(mkS [114, 101, 112, 108, 97, 99, 101]), (.bool true), (.bool false), (.func (.func 72) #[] #[])])) rfl rfl (fun _ => by kernel_rfl)) ?_
    refine wq rfl rfl rfl (ov_build (r := (.agg #[(mkS [114, 101, 109, 111, 118, 101]), (.bool false), (.bool false), (.func (.func 73) #[] #[])])) rfl rfl (fun _ => by kernel_rfl)) ?_
    refine wq rfl rfl rfl (ov_build (r := (.agg #[(mkS [112, 97, 114, 116]), (.bool true), (.bool false), (.func (.func 68) #[] #[]), (mkS [99, 121, 99, 108, 101, 115]), (.bool true), (.bool true), (.func (.func 69) #[] #[]), (mkS [102, 97, 117, 108, 116]), (.bool false), (.bool false), (.func (.func 70) #[] #[]), (mkS [114, 101, 112, 97, 105, 114]), (.bool false), (.bool false), (.func (.func 71) #[] #[]), (mkS [114, 101, 112, 108, 97, 99, 101]), (.bool true), (.bool false), (.func (.func 72) #[] #[]), (mkS [114, 101, 109, 111, 118, 101]), (.bool false), (.bool false), (.func (.func 73) #[] #[])])) rfl rfl (fun _ => by kernel_rfl)) ?_
    refine WL.step0 (Runs.free rfl) rfl (os_store (i := 0) (vs := [(mkS [112, 97, 114, 116]), (.bool true), (.bool false), (.func (.func 68) #[] #[]), (mkS [99, 121, 99, 108, 101, 115]), (.bool true), (.bool true), (.func (.func 69) #[] #[]), (mkS [102, 97, 117, 108, 116]), (.bool false), (.bool false), (.func (.func 70) #[] #[]), (mkS [114, 101, 112, 97, 105, 114]), (.bool false), (.bool false), (.func (.func 71) #[] #[]), (mkS [114, 101, 112, 108, 97, 99, 101]), (.bool true), (.bool false), (.func (.func 72) #[] #[]), (mkS [114, 101, 109, 111, 118, 101]), (.bool false), (.bool false), (.func (.func 73) #[] #[])]) (cs' := [(mkS [112, 97, 114, 116]), (.bool true), (.bool false), (.func (.func 68) #[] #[]), (mkS [99, 121, 99, 108, 101, 115]), (.bool true), (.bool true), (.func (.func 69) #[] #[]), (mkS [102, 97, 117, 108, 116]), (.bool false), (.bool false), (.func (.func 70) #[] #[]), (mkS [114, 101, 112, 97, 105, 114]), (.bool false), (.bool false), (.func (.func 71) #[] #[]), (mkS [114, 101, 112, 108, 97, 99, 101]), (.bool true), (.bool false), (.func (.func 72) #[] #[]), (mkS [114, 101, 109, 111, 118, 101]), (.bool false), (.bool false), (.func (.func 73) #[] #[])]) Tryz.sizeOf81 rfl rfl rfl rfl rfl rfl rfl rfl rfl ?_)
    refine WL.nil (then_normal (WP.ret ?_))
    refine retQ_ret (v := (.agg #[(mkS [112, 97, 114, 116]), (.bool true), (.bool false), (.func (.func 68) #[] #[]), (mkS [99, 121, 99, 108, 101, 115]), (.bool true), (.bool true), (.func (.func 69) #[] #[]), (mkS [102, 97, 117, 108, 116]), (.bool false), (.bool false), (.func (.func 70) #[] #[]), (mkS [114, 101, 112, 97, 105, 114]), (.bool false), (.bool false), (.func (.func 71) #[] #[]), (mkS [114, 101, 112, 108, 97, 99, 101]), (.bool true), (.bool false), (.func (.func 72) #[] #[]), (mkS [114, 101, 109, 111, 118, 101]), (.bool false), (.bool false), (.func (.func 73) #[] #[])])) Tryz.results37 (Res.cell rfl (box_loads (i := 0) Tryz.isAgg81 Tryz.sizeOf81 rfl rfl) Res.nil) rfl (fun w' s => ⟨_, ?_, s⟩)
    refine ⟨fun w' s => (s.select [2] (by decide) rfl), ?_⟩
    rcases Bool.eq_false_or_eq_true (p_x.kind == 0) with hc7 | hc7
    ·
     replace hm := ite_t hc7 hm
     refine tq (i := 3) rfl (by kernel_rfl) rfl rfl rfl (ov_index_at (j := 0) (cs := [(mkS [112, 97, 114, 116]), (.bool true), (.bool false), (.func (.func 68) #[] #[]), (mkS [99, 121, 99, 108, 101, 115]), (.bool true), (.bool true), (.func (.func 69) #[] #[]), (mkS [102, 97, 117, 108, 116]), (.bool false), (.bool false), (.func (.func 70) #[] #[]), (mkS [114, 101, 112, 97, 105, 114]), (.bool false), (.bool false), (.func (.func 71) #[] #[]), (mkS [114, 101, 112, 108, 97, 99, 101]), (.bool true), (.bool false), (.func (.func 72) #[] #[]), (mkS [114, 101, 109, 111, 118, 101]), (.bool false), (.bool false), (.func (.func 73) #[] #[])]) (r := (.agg #[(mkS [112, 97, 114, 116]), (.bool true), (.bool false), (.func (.func 68) #[] #[])])) (eq_of_beq hc7) rfl rfl rfl (fun _ => by kernel_rfl)) ?_
     refine AL.any (rs := [5]) (by kernel_rfl) (by decide) ?_
     refine ALs.cons0 (i := 5) rfl (Runs.free rfl) rfl ?_ ?_
     ·
      skip
      refine os_store (i := 1) (vs := [(mkS [112, 97, 114, 116]), (.bool true), (.bool false), (.func (.func 68) #[] #[])]) (cs' := [(mkS [112, 97, 114, 116]), (.bool true), (.bool false), (.func (.func 68) #[] #[])]) Tryz.sizeOf80 rfl rfl rfl rfl rfl rfl rfl rfl rfl ?_
      refine ⟨fun w' s => (s.select [2] (by decide) rfl), ?_⟩
      refine AL.done (by kernel_rfl) ?_
      refine then_normal ?_
      exact ⟨b9, [112, 97, 114, 116], true, false, (.func (.func 68) #[] #[]), (Sub.cons rfl (Sub.cons rfl (Sub.cons rfl (Sub.nil _)))), fun w' s => (s.select [1, 2] (by decide) rfl), hm⟩
     exact ALs.nil
    ·
     replace hm := ite_f hc7 hm
     rcases Bool.eq_false_or_eq_true (p_x.kind == 1) with hc8 | hc8
     ·
      replace hm := ite_t hc8 hm
      refine tq (i := 3) rfl (by kernel_rfl) rfl rfl rfl (ov_index_at (j := 1) (cs := [(mkS [112, 97, 114, 116]), (.bool true), (.bool false), (.func (.func 68) #[] #[]), (mkS [99, 121, 99, 108, 101, 115]), (.bool true), (.bool true), (.func (.func 69) #[] #[]), (mkS [102, 97, 117, 108, 116]), (.bool false), (.bool false), (.func (.func 70) #[] #[]), (mkS [114, 101, 112, 97, 105, 114]), (.bool false), (.bool false), (.func (.func 71) #[] #[]), (mkS [114, 101, 112, 108, 97, 99, 101]), (.bool true), (.bool false), (.func (.func 72) #[] #[]), (mkS [114, 101, 109, 111, 118, 101]), (.bool false), (.bool false), (.func (.func 73) #[] #[])]) (r := (.agg #[(mkS [99, 121, 99, 108, 101, 115]), (.bool true), (.bool true), (.func (.func 69) #[] #[])])) (eq_of_beq hc8) rfl rfl rfl (fun _ => by kernel_rfl)) ?_
      refine AL.any (rs := [5]) (by kernel_rfl) (by decide) ?_
      refine ALs.cons0 (i := 5) rfl (Runs.free rfl) rfl ?_ ?_
      ·
       skip
       refine os_store (i := 1) (vs := [(mkS [99, 121, 99, 108, 101, 115]), (.bool true), (.bool true), (.func (.func 69) #[] #[])]) (cs' := [(mkS [99, 121, 99, 108, 101, 115]), (.bool true), (.bool true), (.func (.func 69) #[] #[])]) Tryz.sizeOf80 rfl rfl rfl rfl rfl rfl rfl rfl rfl ?_
       refine ⟨fun w' s => (s.select [2] (by decide) rfl), ?_⟩
       refine AL.done (by kernel_rfl) ?_
       refine then_normal ?_
       exact ⟨b9, [99, 121, 99, 108, 101, 115], true, true, (.func (.func 69) #[] #[]), (Sub.cons rfl (Sub.cons rfl (Sub.cons rfl (Sub.nil _)))), fun w' s => (s.select [1, 2] (by decide) rfl), hm⟩
      exact ALs.nil
     ·
      replace hm := ite_f hc8 hm
      rcases Bool.eq_false_or_eq_true (p_x.kind == 2) with hc9 | hc9
      ·
       replace hm := ite_t hc9 hm
       refine tq (i := 3) rfl (by kernel_rfl) rfl rfl rfl (ov_index_at (j := 2) (cs := [(mkS [112, 97, 114, 116]), (.bool true), (.bool false), (.func (.func 68) #[] #[]), (mkS [99, 121, 99, 108, 101, 115]), (.bool true), (.bool true), (.func (.func 69) #[] #[]), (mkS [102, 97, 117, 108, 116]), (.bool false), (.bool false), (.func (.func 70) #[] #[]), (mkS [114, 101, 112, 97, 105, 114]), (.bool false), (.bool false), (.func (.func 71) #[] #[]), (mkS [114, 101, 112, 108, 97, 99, 101]), (.bool true), (.bool false), (.func (.func 72) #[] #[]), (mkS [114, 101, 109, 111, 118, 101]), (.bool false), (.bool false), (.func (.func 73) #[] #[])]) (r := (.agg #[(mkS [102, 97, 117, 108, 116]), (.bool false), (.bool false), (.func (.func 70) #[] #[])])) (eq_of_beq hc9) rfl rfl rfl (fun _ => by kernel_rfl)) ?_
       refine AL.any (rs := [5]) (by kernel_rfl) (by decide) ?_
       refine ALs.cons0 (i := 5) rfl (Runs.free rfl) rfl ?_ ?_
       ·
        skip
        refine os_store (i := 1) (vs := [(mkS [102, 97, 117, 108, 116]), (.bool false), (.bool false), (.func (.func 70) #[] #[])]) (cs' := [(mkS [102, 97, 117, 108, 116]), (.bool false), (.bool false), (.func (.func 70) #[] #[])]) Tryz.sizeOf80 rfl rfl rfl rfl rfl rfl rfl rfl rfl ?_
        refine ⟨fun w' s => (s.select [2] (by decide) rfl), ?_⟩
        refine AL.done (by kernel_rfl) ?_
        refine then_normal ?_
        exact ⟨b9, [102, 97, 117, 108, 116], false, false, (.func (.func 70) #[] #[]), (Sub.cons rfl (Sub.cons rfl (Sub.cons rfl (Sub.nil _)))), fun w' s => (s.select [1, 2] (by decide) rfl), hm⟩
       exact ALs.nil
      ·
       replace hm := ite_f hc9 hm
       rcases Bool.eq_false_or_eq_true (p_x.kind == 3) with hc10 | hc10
       ·
        replace hm := ite_t hc10 hm
        refine tq (i := 3) rfl (by kernel_rfl) rfl rfl rfl (ov_index_at (j := 3) (cs := [(mkS [112, 97, 114, 116]), (.bool true), (.bool false), (.func (.func 68) #[] #[]), (mkS [99, 121, 99, 108, 101, 115]), (.bool true), (.bool true), (.func (.func 69) #[] #[]), (mkS [102, 97, 117, 108, 116]), (.bool false), (.bool false), (.func (.func 70) #[] #[]), (mkS [114, 101, 112, 97, 105, 114]), (.bool false), (.bool false), (.func (.func 71) #[] #[]), (mkS [114, 101, 112, 108, 97, 99, 101]), (.bool true), (.bool false), (.func (.func 72) #[] #[]), (mkS [114, 101, 109, 111, 118, 101]), (.bool false), (.bool false), (.func (.func 73) #[] #[])]) (r := (.agg #[(mkS [114, 101, 112, 97, 105, 114]), (.bool false), (.bool false), (.func (.func 71) #[] #[])])) (eq_of_beq hc10) rfl rfl rfl (fun _ => by kernel_rfl)) ?_
        refine AL.any (rs := [5]) (by kernel_rfl) (by decide) ?_
        refine ALs.cons0 (i := 5) rfl (Runs.free rfl) rfl ?_ ?_
        ·
         skip
         refine os_store (i := 1) (vs := [(mkS [114, 101, 112, 97, 105, 114]), (.bool false), (.bool false), (.func (.func 71) #[] #[])]) (cs' := [(mkS [114, 101, 112, 97, 105, 114]), (.bool false), (.bool false), (.func (.func 71) #[] #[])]) Tryz.sizeOf80 rfl rfl rfl rfl rfl rfl rfl rfl rfl ?_
         refine ⟨fun w' s => (s.select [2] (by decide) rfl), ?_⟩
         refine AL.done (by kernel_rfl) ?_
         refine then_normal ?_
         exact ⟨b9, [114, 101, 112, 97, 105, 114], false, false, (.func (.func 71) #[] #[]), (Sub.cons rfl (Sub.cons rfl (Sub.cons rfl (Sub.nil _)))), fun w' s => (s.select [1, 2] (by decide) rfl), hm⟩
        exact ALs.nil
       ·
        replace hm := ite_f hc10 hm
        rcases Bool.eq_false_or_eq_true (p_x.kind == 4) with hc11 | hc11
        ·
         replace hm := ite_t hc11 hm
         refine tq (i := 3) rfl (by kernel_rfl) rfl rfl rfl (ov_index_at (j := 4) (cs := [(mkS [112, 97, 114, 116]), (.bool true), (.bool false), (.func (.func 68) #[] #[]), (mkS [99, 121, 99, 108, 101, 115]), (.bool true), (.bool true), (.func (.func 69) #[] #[]), (mkS [102, 97, 117, 108, 116]), (.bool false), (.bool false), (.func (.func 70) #[] #[]), (mkS [114, 101, 112, 97, 105, 114]), (.bool false), (.bool false), (.func (.func 71) #[] #[]), (mkS [114, 101, 112, 108, 97, 99, 101]), (.bool true), (.bool false), (.func (.func 72) #[] #[]), (mkS [114, 101, 109, 111, 118, 101]), (.bool false), (.bool false), (.func (.func 73) #[] #[])]) (r := (.agg #[(mkS [114, 101, 112, 108, 97, 99, 101]), (.bool true), (.bool false), (.func (.func 72) #[] #[])])) (eq_of_beq hc11) rfl rfl rfl (fun _ => by kernel_rfl)) ?_
         refine AL.any (rs := [5]) (by kernel_rfl) (by decide) ?_
         refine ALs.cons0 (i := 5) rfl (Runs.free rfl) rfl ?_ ?_
         ·
          skip
          refine os_store (i := 1) (vs := [(mkS [114, 101, 112, 108, 97, 99, 101]), (.bool true), (.bool false), (.func (.func 72) #[] #[])]) (cs' := [(mkS [114, 101, 112, 108, 97, 99, 101]), (.bool true), (.bool false), (.func (.func 72) #[] #[])]) Tryz.sizeOf80 rfl rfl rfl rfl rfl rfl rfl rfl rfl ?_
          refine ⟨fun w' s => (s.select [2] (by decide) rfl), ?_⟩
          refine AL.done (by kernel_rfl) ?_
          refine then_normal ?_
          exact ⟨b9, [114, 101, 112, 108, 97, 99, 101], true, false, (.func (.func 72) #[] #[]), (Sub.cons rfl (Sub.cons rfl (Sub.cons rfl (Sub.nil _)))), fun w' s => (s.select [1, 2] (by decide) rfl), hm⟩
         exact ALs.nil
        ·
         replace hm := ite_f hc11 hm
         rcases Bool.eq_false_or_eq_true (p_x.kind == 5) with hc12 | hc12
         ·
          replace hm := ite_t hc12 hm
          refine tq (i := 3) rfl (by kernel_rfl) rfl rfl rfl (ov_index_at (j := 5) (cs := [(mkS [112, 97, 114, 116]), (.bool true), (.bool false), (.func (.func 68) #[] #[]), (mkS [99, 121, 99, 108, 101, 115]), (.bool true), (.bool true), (.func (.func 69) #[] #[]), (mkS [102, 97, 117, 108, 116]), (.bool false), (.bool false), (.func (.func 70) #[] #[]), (mkS [114, 101, 112, 97, 105, 114]), (.bool false), (.bool false), (.func (.func 71) #[] #[]), (mkS [114, 101, 112, 108, 97, 99, 101]), (.bool true), (.bool false), (.func (.func 72) #[] #[]), (mkS [114, 101, 109, 111, 118, 101]), (.bool false), (.bool false), (.func (.func 73) #[] #[])]) (r := (.agg #[(mkS [114, 101, 109, 111, 118, 101]), (.bool false), (.bool false), (.func (.func 73) #[] #[])])) (eq_of_beq hc12) rfl rfl rfl (fun _ => by kernel_rfl)) ?_
          refine AL.any (rs := [5]) (by kernel_rfl) (by decide) ?_
          refine ALs.cons0 (i := 5) rfl (Runs.free rfl) rfl ?_ ?_
          ·
           skip
           refine os_store (i := 1) (vs := [(mkS [114, 101, 109, 111, 118, 101]), (.bool false), (.bool false), (.func (.func 73) #[] #[])]) (cs' := [(mkS [114, 101, 109, 111, 118, 101]), (.bool false), (.bool false), (.func (.func 73) #[] #[])]) Tryz.sizeOf80 rfl rfl rfl rfl rfl rfl rfl rfl rfl ?_
           refine ⟨fun w' s => (s.select [2] (by decide) rfl), ?_⟩
           refine AL.done (by kernel_rfl) ?_
           refine then_normal ?_
           exact ⟨b9, [114, 101, 109, 111, 118, 101], false, false, (.func (.func 73) #[] #[]), (Sub.cons rfl (Sub.cons rfl (Sub.cons rfl (Sub.nil _)))), fun w' s => (s.select [1, 2] (by decide) rfl), hm⟩
          exact ALs.nil
         ·
          replace hm := ite_f hc12 hm
          exact (none_some hm).elim
   exact ALs.nil
  exact ALs.nil
 ·
  rintro g' S' ⟨b11, s1, c1, c2, v1, hsub1, hS1, hm⟩
  refine WP.sub hsub1 (WP.weaken hS1 ?_)
  replace hm := (congrFun (congrFun (congrFun hk1 s1) c1) c2).symm.trans hm
  refine WP.seq (WP.region ?_)
  refine wq rfl rfl rfl (ov_fieldAddr Tryz.underlying80 rfl rfl rfl Tryz.sizeOf9 rfl rfl) ?_
  refine wq rfl rfl rfl (ov_load_box (i := 0) Tryz.isAgg9 rfl rfl rfl rfl) ?_
  obtain ⟨s2, e1, hm⟩ := bind_some hm
  refine wq rfl rfl rfl (ov_sadd' e1 rfl rfl rfl) ?_
  refine wq rfl rfl rfl (ov_fieldAddr Tryz.underlying23 rfl rfl rfl Tryz.sizeOf9 rfl rfl) ?_
  refine wq rfl rfl rfl (ov_load_box (i := 1) Tryz.isAgg9 rfl rfl rfl rfl) ?_
  obtain ⟨s3, e2, hm⟩ := bind_some hm
  refine wq rfl rfl rfl (ov_sadd' e2 rfl rfl rfl) ?_
  refine wq rfl rfl rfl (ov_assign rfl rfl) ?_
  refine WL.nil (then_normal ?_)
  obtain ⟨k2, hk2, hm⟩ := joinK_some hm
  refine WP.seq_join (fun g' S' => ∃ (s6 : (List UInt8)), Sub [(1, (pB b1 0)), (3, (pB b11 0)), (4, (mkS s6)), (1000000007, (.bool false))] g' ∧ (∀ w', S' w' → St w H [.blk b11 80 [(mkS s1), (.bool c1), (.bool c2), v1], .blk b1 23 [(.int .i64 p_x.kind), (mkS p_x.name), (.int .i64 p_x.count), (.int .i64 p_x.strokes)]] H w') ∧ k2 s6 = some r) ?_ ?_
  ·
   skip
   refine WP.seq (WP.region ?_)
   refine wq rfl rfl rfl (ov_fieldAddr Tryz.underlying80 rfl rfl rfl Tryz.sizeOf4 rfl rfl) ?_
   refine wq rfl rfl rfl (ov_load_box (i := 0) Tryz.isAgg4 rfl rfl rfl rfl) ?_
   refine WL.nil (then_normal ?_)
   refine WP.cond rfl (fun hc13 => ?_) (fun hc13 => ?_)
   ·
    replace hm := ite_t hc13 hm
    refine WP.region ?_
    refine wq rfl rfl rfl (ov_move rfl rfl) ?_
    refine wq rfl rfl rfl (ov_fieldAddr Tryz.underlying23 rfl rfl rfl Tryz.sizeOf3 rfl rfl) ?_
    refine wq rfl rfl rfl (ov_load_box (i := 1) Tryz.isAgg3 rfl rfl rfl rfl) ?_
    obtain ⟨r1, e3, hm⟩ := bind_some hm
    refine WL.quiet (Runs.free rfl) rfl rfl (oq_con (r := (mkS r1)) Tryz.call54 rfl rfl (fun w' s => ⟨_, (itoa_con p_x.count  w' H s.hold hG r1 e3)⟩)) ?_
    obtain ⟨s4, e4, hm⟩ := bind_some hm
    refine wq rfl rfl rfl (ov_sadd' e4 rfl rfl rfl) ?_
    obtain ⟨s5, e5, hm⟩ := bind_some hm
    refine wq rfl rfl rfl (ov_sadd' e5 rfl rfl rfl) ?_
    refine wq rfl rfl rfl (ov_assign rfl rfl) ?_
    refine WL.nil (then_normal ?_)
    exact ⟨s5, (Sub.cons rfl (Sub.cons rfl (Sub.cons rfl (Sub.cons rfl (Sub.nil _))))), fun w' s => s, hm⟩
   ·
    replace hm := ite_f hc13 hm
    refine WP.skip (then_normal ?_)
    exact ⟨s3, (Sub.cons rfl (Sub.cons rfl (Sub.cons rfl (Sub.cons rfl (Sub.nil _))))), fun w' s => s, hm⟩
  ·
   rintro g' S' ⟨s6, hsub2, hS2, hm⟩
   refine WP.sub hsub2 (WP.weaken hS2 ?_)
   replace hm := (congrFun hk2 s6).symm.trans hm
   obtain ⟨k3, hk3, hm⟩ := joinK_some hm
   refine WP.seq_join (fun g' S' => ∃ (s9 : (List UInt8)), Sub [(4, (mkS s9)), (1000000007, (.bool false))] g' ∧ (∀ w', S' w' → St w H [] H w') ∧ k3 s9 = some r) ?_ ?_
   ·
    skip
    refine WP.seq (WP.region ?_)
    refine wq rfl rfl rfl (ov_fieldAddr Tryz.underlying80 rfl rfl rfl Tryz.sizeOf4 rfl rfl) ?_
    refine wq rfl rfl rfl (ov_load_box (i := 0) Tryz.isAgg4 rfl rfl rfl rfl) ?_
    refine WL.nil (then_normal ?_)
    refine WP.cond rfl (fun hc14 => ?_) (fun hc14 => ?_)
    ·
     replace hm := ite_t hc14 hm
     refine WP.region ?_
     refine wq rfl rfl rfl (ov_move rfl rfl) ?_
     refine wq rfl rfl rfl (ov_fieldAddr Tryz.underlying23 rfl rfl rfl Tryz.sizeOf3 rfl rfl) ?_
     refine wq rfl rfl rfl (ov_load_box (i := 1) Tryz.isAgg3 rfl rfl rfl rfl) ?_
     obtain ⟨r2, e6, hm⟩ := bind_some hm
     refine WL.quiet (Runs.free rfl) rfl rfl (oq_con (r := (mkS r2)) Tryz.call54 rfl rfl (fun w' s => ⟨_, (itoa_con p_x.strokes  w' H s.hold hG r2 e6)⟩)) ?_
     obtain ⟨s7, e7, hm⟩ := bind_some hm
     refine wq rfl rfl rfl (ov_sadd' e7 rfl rfl rfl) ?_
     obtain ⟨s8, e8, hm⟩ := bind_some hm
     refine wq rfl rfl rfl (ov_sadd' e8 rfl rfl rfl) ?_
     refine wq rfl rfl rfl (ov_assign rfl rfl) ?_
     refine WL.nil (then_normal ?_)
     exact ⟨s8, (Sub.cons rfl (Sub.cons rfl (Sub.nil _))), fun w' s => (s.select [] (by decide) rfl), hm⟩
    ·
     replace hm := ite_f hc14 hm
     refine WP.skip (then_normal ?_)
     exact ⟨s6, (Sub.cons rfl (Sub.cons rfl (Sub.nil _))), fun w' s => (s.select [] (by decide) rfl), hm⟩
   ·
    rintro g' S' ⟨s9, hsub3, hS3, hm⟩
    refine WP.sub hsub3 (WP.weaken hS3 ?_)
    replace hm := (congrFun hk3 s9).symm.trans hm
    refine WP.seq (WP.region ?_)
    refine wq rfl rfl rfl (ov_move rfl rfl) ?_
    refine wq rfl rfl rfl (ov_assign rfl rfl) ?_
    refine WL.nil (then_normal (WP.ret ?_))
    obtain rfl := Option.some.inj hm
    refine retQ_ret Tryz.results34 (Res.tmp rfl Res.nil) rfl (fun w' s => ⟨s.below, ?_⟩)
    exact rfl

theorem journal_mark_con (p_before : Int) (p_s : (List UInt8)) (w : World) (H : Heap) (hH : Le H (hp w)) (hG : Glob H) (r : Int) (hm : journal_mark p_before p_s = some r) :
  Con Tryz.prog 52 [(.int .i64 p_before), (mkS p_s)] w H (fun v _ => v = (.int .i64 r)) := by
 unfold journal_mark at hm
 refine con_of hH Tryz.func52 rfl 25 Tryz.ntmps52 rfl ?_
 refine WP.seq (WP.region ?_)
 refine wq rfl rfl rfl (ov_assign rfl rfl) ?_
 refine WL.nil (then_normal (WP.seq (WP.region ?_)))
 refine wq rfl rfl rfl (ov_move rfl rfl) ?_
 refine wq rfl rfl rfl (ov_rem rfl rfl rfl (by decide)) ?_
 refine wq rfl rfl rfl (ov_assign rfl rfl) ?_
 refine WL.nil (then_normal ?_)
 obtain ⟨k1, hk1, hm⟩ := joinK_some hm
 refine WP.seq_join (fun g' S' => ∃ (i3 : Int), Sub [(5, (.int .i64 i3)), (1000000007, (.bool false))] g' ∧ (∀ w', S' w' → St w H [] H w') ∧ k1 i3 = some r) ?_ ?_
 ·
  skip
  refine WP.seq (WP.region ?_)
  refine wq rfl rfl rfl (ov_move rfl rfl) ?_
  refine wq rfl rfl rfl (ov_len_string Tryz.underlying9 rfl rfl) ?_
  refine wq rfl rfl rfl (ov_move rfl rfl) ?_
  refine WL.nil (then_normal (WP.block ?_))
  refine WP.loop (fun m1 g' S' => ∃ (i1 : Int) (i2 : Int), Sub [(1, (mkS p_s)), (5, (.int .i64 i1)), (10, (.int .i64 (p_s.length : Int))), (11, (.int .i64 i2)), (1000000007, (.bool false))] g' ∧ (∀ w', S' w' → St w H [] H w') ∧ journal_mark_loop1 p_s k1 m1 i1 i2 = some r) ((Int.toNat ((p_s.length : Int) - 0) + 1)) ⟨(Int.tmod p_before 65521), 0, (Sub.cons rfl (Sub.cons rfl (Sub.cons rfl (Sub.cons rfl (Sub.cons rfl (Sub.nil _)))))), fun w' s => s, hm⟩ ?_ ?_
  ·
   rintro g' S' ⟨_, _, _, _, hm⟩
   exact none_some hm
  ·
   rintro m1 g' S' ⟨i1, i2, hsub1, hS1, hm⟩
   refine WP.sub hsub1 (WP.weaken hS1 ?_)
   rw [journal_mark_loop1] at hm
   refine WP.seq (WP.region ?_)
   refine wq rfl rfl rfl (ov_lss rfl rfl rfl) ?_
   refine WL.nil (then_normal (WP.seq ?_))
   refine WP.cond rfl (fun hc1 => ?_) (fun hc1 => ?_)
   ·
    replace hm := ite_t hc1 hm
    refine WP.skip (then_normal (WP.seq (WP.block (WP.seq (WP.region ?_)))))
    refine wq rfl rfl rfl (ov_move rfl rfl) ?_
    refine wq rfl rfl rfl (ov_assign rfl rfl) ?_
    refine WL.nil (then_normal (WP.region ?_))
    refine wq rfl rfl rfl (ov_move rfl rfl) ?_
    refine wq rfl rfl rfl (ov_mul rfl rfl rfl) ?_
    refine wq rfl rfl rfl (ov_move rfl rfl) ?_
    refine wq rfl rfl rfl (ov_move rfl rfl) ?_
    obtain ⟨b1, e1, hm⟩ := bind_some hm
    refine wq rfl rfl rfl (ov_index_string Tryz.underlying9 rfl rfl rfl e1) ?_
    refine wq rfl rfl rfl (ov_convert_int Tryz.underlying5 Tryz.underlying3 rfl rfl) ?_
    refine wq rfl rfl rfl (ov_add rfl rfl rfl) ?_
    refine wq rfl rfl rfl (ov_add rfl rfl rfl) ?_
    refine wq rfl rfl rfl (ov_rem rfl rfl rfl (by decide)) ?_
    refine wq rfl rfl rfl (ov_assign rfl rfl) ?_
    refine WL.nil (block_normal (then_normal (WP.region ?_)))
    refine wq rfl rfl rfl (ov_add rfl rfl rfl) ?_
    refine wq rfl rfl rfl (ov_move rfl rfl) ?_
    refine WL.nil (then_normal ?_)
    exact ⟨(Int.tmod (IntKind.wrap .i64 ((IntKind.wrap .i64 ((IntKind.wrap .i64 (i1 * 31)) + (IntKind.wrap .i64 (b1.toNat : Int)))) + 7)) 65521), (IntKind.wrap .i64 (i2 + 1)), (Sub.cons rfl (Sub.cons rfl (Sub.cons rfl (Sub.cons rfl (Sub.cons rfl (Sub.nil _)))))), fun w' s => s, hm⟩
   ·
    replace hm := ite_f hc1 hm
    refine WP.exit (then_exit (then_exit (block_here (then_normal ?_))))
    exact ⟨i1, (Sub.cons rfl (Sub.cons rfl (Sub.nil _))), fun w' s => s, hm⟩
 ·
  rintro g' S' ⟨i3, hsub2, hS2, hm⟩
  refine WP.sub hsub2 (WP.weaken hS2 ?_)
  replace hm := (congrFun hk1 i3).symm.trans hm
  refine WP.seq (WP.region ?_)
  refine wq rfl rfl rfl (ov_move rfl rfl) ?_
  refine wq rfl rfl rfl (ov_assign rfl rfl) ?_
  refine WL.nil (then_normal (WP.ret ?_))
  obtain rfl := Option.some.inj hm
  refine retQ_ret Tryz.results52 (Res.tmp rfl Res.nil) rfl (fun w' s => ⟨s.below, ?_⟩)
  exact rfl

theorem journal_Log_con (p_l : (List Entry)) (ao1 : Option Addr) (cap1 : Nat) (w : World) (H : Heap) (hH : Le H (hp w)) (h1 : SL H encEntry ao1 p_l) (hc1 : p_l.length ≤ cap1) (hG : Glob H) (r : ((List UInt8) × Int)) (hm : journal_Log p_l = some r) :
  Con Tryz.prog 22 [(.slice ao1 p_l.length cap1)] w H (fun v _ => v = (.tuple #[(mkS r.1), (.int .i64 r.2)])) := by
 unfold journal_Log at hm
 refine con_of hH Tryz.func22 rfl 43 Tryz.ntmps22 rfl ?_
 refine WP.seq (WP.region ?_)
 refine wq rfl rfl rfl (ov_assign rfl rfl) ?_
 refine wq rfl rfl rfl (ov_assign rfl rfl) ?_
 refine WL.nil (then_normal (WP.seq (WP.seq (WP.region ?_))))
 refine wq rfl rfl rfl (ov_move rfl rfl) ?_
 obtain ⟨r1, e1, hm⟩ := bind_some hm
 refine WL.step (Runs.free rfl) rfl rfl (os_con Tryz.call23 rfl rfl (fun w' s => (journal_Run_con p_l ao1 cap1  w' H s.hold h1 hc1 hG r1 e1)) (fun rr1 H1 hle1 hR1 => ?_))
 replace h1 := h1.mono hle1
 replace hG := hG.mono hle1
 obtain ⟨ao2, cap2, rfl, h2, hc2⟩ := hR1
 refine wq rfl rfl rfl (ov_move rfl rfl) ?_
 refine wq rfl rfl rfl (ov_extract rfl rfl rfl) ?_
 refine wq rfl rfl rfl (ov_extract rfl rfl rfl) ?_
 refine wq rfl rfl rfl (ov_extract rfl rfl rfl) ?_
 refine WL.step (Runs.free rfl) rfl rfl (os_alloc (cs := [(.slice none 0 0), (.int .i64 0)]) Tryz.zeroValue41 rfl rfl (fun b1 => ?_))
 refine WL.step0 (Runs.free rfl) rfl (os_store (i := 0) (vs := [(.slice ao2 r1.1.items.length cap2), (.int .i64 r1.1.cycles)]) (cs' := [(.slice ao2 r1.1.items.length cap2), (.int .i64 r1.1.cycles)]) Tryz.sizeOf41 rfl rfl rfl rfl rfl rfl rfl rfl rfl ?_)
 refine wq rfl rfl rfl (ov_assign rfl rfl) ?_
 refine wq rfl rfl rfl (ov_assign rfl rfl) ?_
 refine WL.nil (then_normal (WP.seq (WP.region ?_)))
 refine wq rfl rfl rfl (ov_move rfl rfl) ?_
 refine wq rfl rfl rfl (ov_neq rfl rfl rfl) ?_
 refine WL.nil (then_normal ?_)
 refine WP.cond rfl (fun hc3 => ?_) (fun hc3 => ?_)
 ·
  replace hm := ite_t hc3 hm
  refine WP.seq (WP.region ?_)
  refine wq rfl rfl rfl (ov_move rfl rfl) ?_
  refine wq rfl rfl rfl (ov_assign rfl rfl) ?_
  refine wq rfl rfl rfl (ov_assign rfl rfl) ?_
  refine WL.nil (then_normal (WP.ret (then_ret ?_)))
  obtain rfl := Option.some.inj hm
  refine retQ_ret Tryz.results22 (Res.tmp rfl (Res.tmp rfl Res.nil)) rfl (fun w' s => ⟨s.below, ?_⟩)
  exact rfl
 ·
  replace hm := ite_f hc3 hm
  refine WP.skip (then_normal (WP.seq (WP.region ?_)))
  refine WL.step (Runs.free rfl) rfl rfl (os_alloc (cs := [(.pointer none), (.slice none 0 0)]) Tryz.zeroValue107 rfl rfl (fun b2 => ?_))
  refine WL.nil (then_normal (WP.seq (WP.region ?_)))
  refine wq rfl rfl rfl (ov_assign rfl rfl) ?_
  refine WL.nil (then_normal ?_)
  obtain ⟨k1, hk1, hm⟩ := joinK_some hm
  refine WP.seq_join (fun g' S' => ∃ (v2 : Value) (l3 : (List UInt8)) (ao5 : Option Addr) (cap5 : Nat) (xs2 : List Value), (v2 = .pointer none ∨ v2 = pB b2 0) ∧ RL H1 encByte l3 xs2 ∧ Sub [(7, (pB b2 0)), (1000000007, (.bool false))] g' ∧ (∀ w', S' w' → St w H [.row 5 (encByte).size l3.length (.slice ao5 l3.length cap5) xs2, .blk b2 107 [v2, (.slice ao5 l3.length cap5)]] H1 w') ∧ k1 l3 = some r) ?_ ?_
  ·
   skip
   refine WP.seq (WP.region ?_)
   refine wq rfl rfl rfl (ov_move rfl rfl) ?_
   refine wq rfl rfl rfl (ov_len_slice Tryz.underlying52 rfl rfl) ?_
   refine wq rfl rfl rfl (ov_move rfl rfl) ?_
   refine WL.nil (then_normal (WP.block ?_))
   have rl1 := RL.nil (α := UInt8) H1 encByte
   refine WP.weaken (fun _ s => s.nilrow 5 (encByte).size) ?_
   refine WP.loop (fun m1 g' S' => ∃ (i1 : Int) (i2 : Int) (v1 : Value) (l1 : (List UInt8)) (ao3 : Option Addr) (cap3 : Nat) (xs1 : List Value), (v1 = .pointer none ∨ v1 = pB b2 0) ∧ RL H1 encByte l1 xs1 ∧ Sub [(7, (pB b2 0)), (8, (.int .i64 i1)), (21, (.slice ao1 p_l.length cap1)), (22, (.int .i64 (p_l.length : Int))), (23, (.int .i64 i2)), (1000000007, (.bool false))] g' ∧ (∀ w', S' w' → St w H [.row 5 (encByte).size l1.length (.slice ao3 l1.length cap3) xs1, .blk b2 107 [v1, (.slice ao3 l1.length cap3)]] H1 w') ∧ journal_Log_loop1 p_l k1 m1 i1 i2 l1 = some r) ((Int.toNat ((p_l.length : Int) - 0) + 1)) ⟨0, 0, (.pointer none), ([] : List UInt8), none, 0, [], (.inl rfl), rl1, (Sub.cons rfl (Sub.cons rfl (Sub.cons rfl (Sub.cons rfl (Sub.cons rfl (Sub.cons rfl (Sub.nil _))))))), fun w' s => (s.select [0, 1] (by decide) rfl), hm⟩ ?_ ?_
   ·
    rintro g' S' ⟨_, _, _, _, _, _, _, _, _, _, _, hm⟩
    exact none_some hm
   ·
    rintro m1 g' S' ⟨i1, i2, v1, l1, ao3, cap3, xs1, hv1, rl2, hsub1, hS1, hm⟩
    refine WP.sub hsub1 (WP.weaken hS1 ?_)
    rw [journal_Log_loop1] at hm
    refine WP.seq (WP.region ?_)
    refine wq rfl rfl rfl (ov_lss rfl rfl rfl) ?_
    refine WL.nil (then_normal (WP.seq ?_))
    refine WP.cond rfl (fun hc4 => ?_) (fun hc4 => ?_)
    ·
     replace hm := ite_t hc4 hm
     refine WP.skip (then_normal (WP.seq (WP.block (WP.seq (WP.region ?_)))))
     obtain ⟨x1, e2, hm⟩ := bind_some hm
     obtain ⟨h3, h4, h5, cs1, h6, h7⟩ := h1.get e2 (by decide)
     obtain rfl : cs1 = [(.int .i64 x1.kind), (mkS x1.name), (.int .i64 x1.count), (.int .i64 x1.strokes)] := h6
     refine wq rfl rfl rfl (ov_indexAddr Tryz.underlying52 Tryz.sizeOf23 rfl rfl rfl h3 h4 h5) ?_
     refine wq rfl rfl rfl (ov_load_elems (vs := [(.int .i64 x1.kind), (mkS x1.name), (.int .i64 x1.count), (.int .i64 x1.strokes)]) Tryz.isAgg23 Tryz.sizeOf23 rfl rfl rfl h7 h5) ?_
     refine WL.step (Runs.free rfl) rfl rfl (os_alloc (cs := [(.int .i64 0), (mkS []), (.int .i64 0), (.int .i64 0)]) Tryz.zeroValue23 rfl rfl (fun b3 => ?_))
     refine WL.step0 (Runs.free rfl) rfl (os_store (i := 0) (vs := [(.int .i64 x1.kind), (mkS x1.name), (.int .i64 x1.count), (.int .i64 x1.strokes)]) (cs' := [(.int .i64 x1.kind), (mkS x1.name), (.int .i64 x1.count), (.int .i64 x1.strokes)]) Tryz.sizeOf23 rfl rfl rfl rfl rfl rfl rfl rfl rfl ?_)
     refine WL.nil (then_normal (WP.seq (WP.region ?_)))
     refine wq rfl rfl rfl (ov_load_whole (i := 0) Tryz.isAgg23 Tryz.sizeOf23 rfl rfl rfl rfl) ?_
     obtain ⟨r2, e3, hm⟩ := bind_some hm
     refine WL.quiet (Runs.free rfl) rfl rfl (oq_con (r := (mkS r2)) Tryz.call34 rfl rfl (fun w' s => ⟨_, (journal_text_con x1  w' H1 s.hold hG r2 e3)⟩)) ?_
     refine wq rfl rfl rfl (ov_assign rfl rfl) ?_
     refine WL.nil (then_normal (WP.seq (WP.region ?_)))
     refine wq rfl rfl rfl (ov_move rfl rfl) ?_
     refine wq rfl rfl rfl (ov_move rfl rfl) ?_
     obtain ⟨r3, e4, hm⟩ := bind_some hm
     refine WL.quiet (Runs.free rfl) rfl rfl (oq_con (r := (.int .i64 r3)) Tryz.call52 rfl rfl (fun w' s => ⟨_, (journal_mark_con i1 r2  w' H1 s.hold hG r3 e4)⟩)) ?_
     refine wq rfl rfl rfl (ov_assign rfl rfl) ?_
     refine WL.nil (then_normal (WP.seq (WP.region ?_)))
     refine wq rfl rfl rfl (ov_move rfl rfl) ?_
     obtain ⟨s1, e5, hm⟩ := bind_some hm
     refine wq rfl rfl rfl (ov_sadd' e5 rfl rfl rfl) ?_
     refine wq rfl rfl rfl (ov_move rfl rfl) ?_
     obtain ⟨r4, e6, hm⟩ := bind_some hm
     refine WL.quiet (Runs.free rfl) rfl rfl (oq_con (r := (mkS r4)) Tryz.call54 rfl rfl (fun w' s => ⟨_, (itoa_con r3  w' H1 s.hold hG r4 e6)⟩)) ?_
     obtain ⟨s2, e7, hm⟩ := bind_some hm
     refine wq rfl rfl rfl (ov_sadd' e7 rfl rfl rfl) ?_
     obtain ⟨s3, e8, hm⟩ := bind_some hm
     refine wq rfl rfl rfl (ov_sadd' e8 rfl rfl rfl) ?_
     refine WL.step (Runs.free rfl) rfl rfl (os_inline (cap := []) (vs := [(pB b2 0), (mkS s3)]) Tryz.call53 rfl rfl rfl Tryz.func53 rfl 19 Tryz.ntmps53 rfl (fun w' s => ?_))
     refine WP.seq (WP.region ?_)
     refine wq rfl rfl rfl (ov_assign rfl rfl) ?_
     refine wq rfl rfl rfl (ov_assign rfl rfl) ?_
     refine WL.nil (then_normal (WP.seq (WP.region ?_)))
     refine wq rfl rfl rfl (ov_move rfl rfl) ?_
     refine WL.step (Runs.free rfl) rfl rfl (os_copyCheck (i := 2) rfl rfl rfl hv1 ?_)
     refine WL.nil (then_normal (WP.seq (WP.region ?_)))
     refine wq rfl rfl rfl (ov_move rfl rfl) ?_
     refine wq rfl rfl rfl (ov_move rfl rfl) ?_
     refine wq rfl rfl rfl (ov_nilCheckB rfl rfl) ?_
     refine wq rfl rfl rfl (ov_fieldAddr Tryz.underlying107 rfl rfl rfl Tryz.sizeOf59 rfl rfl) ?_
     refine wq rfl rfl rfl (ov_load_box (i := 2) Tryz.isAgg59 rfl rfl rfl rfl) ?_
     refine wq rfl rfl rfl (ov_move rfl rfl) ?_
     obtain ⟨l2, e9, hm⟩ := bind_some hm
     refine WL.step (Runs.free rfl) rfl rfl (os_app_str (i := 1) (xs := xs1) Tryz.underlying59 Tryz.underlying9 (by kernel_rfl : (Tryz.prog.info? 5).map (fun i => (i.zero, i.size, i.bytes)) = some (some (.int .u8 0), 1, 1)) rfl rfl rfl rfl rl2 e9 (fun ao4 cap4 ys1 rl3 => ?_))
     refine wq rfl rfl rfl (ov_nilCheckB rfl rfl) ?_
     refine wq rfl rfl rfl (ov_fieldAddr Tryz.underlying107 rfl rfl rfl Tryz.sizeOf59 rfl rfl) ?_
     refine WL.step0 (Runs.free rfl) rfl (os_store (i := 2) (vs := [(.slice ao4 (l1 ++ s3).length cap4)]) (cs' := [(pB b2 0), (.slice ao4 (l1 ++ s3).length cap4)]) Tryz.sizeOf59 rfl rfl rfl rfl rfl rfl rfl rfl rfl ?_)
     refine WL.nil (then_normal (WP.seq (WP.region ?_)))
     refine wq rfl rfl rfl (ov_move rfl rfl) ?_
     refine wq rfl rfl rfl (ov_len_string Tryz.underlying9 rfl rfl) ?_
     refine wq rfl rfl rfl (ov_assign rfl rfl) ?_
     refine wq rfl rfl rfl (ov_assign rfl rfl) ?_
     refine WL.nil (then_normal (WP.ret ?_))
     refine retQ_ret (v := (.tuple #[(.int .i64 (s3.length : Int)), .nilIface])) Tryz.results53 (Res.tmp rfl (Res.tmp rfl Res.nil)) rfl (fun w' s => ⟨_, ?_, s⟩)
     refine WL.nil (then_normal (WP.seq (WP.region ?_)))
     refine WL.step (Runs.free rfl) rfl rfl (os_inline (cap := []) (vs := [(pB b2 0)]) Tryz.call55 rfl rfl rfl Tryz.func55 rfl 8 Tryz.ntmps55 rfl (fun w' s => ?_))
     refine WP.seq (WP.region ?_)
     refine wq rfl rfl rfl (ov_assign rfl rfl) ?_
     refine WL.nil (then_normal (WP.seq (WP.region ?_)))
     refine wq rfl rfl rfl (ov_move rfl rfl) ?_
     refine wq rfl rfl rfl (ov_nilCheckB rfl rfl) ?_
     refine wq rfl rfl rfl (ov_fieldAddr Tryz.underlying107 rfl rfl rfl Tryz.sizeOf59 rfl rfl) ?_
     refine wq rfl rfl rfl (ov_load_box (i := 2) Tryz.isAgg59 rfl rfl rfl rfl) ?_
     refine wq rfl rfl rfl (ov_len_slice Tryz.underlying59 rfl rfl) ?_
     refine wq rfl rfl rfl (ov_assign rfl rfl) ?_
     refine WL.nil (then_normal (WP.ret ?_))
     refine retQ_ret (v := (.int .i64 ((l1 ++ s3).length : Int))) Tryz.results55 (Res.tmp rfl Res.nil) rfl (fun w' s => ⟨_, ?_, s⟩)
     refine wq rfl rfl rfl (ov_gtr rfl rfl rfl) ?_
     refine WL.nil (then_normal ?_)
     refine WP.cond rfl (fun hc5 => ?_) (fun hc5 => ?_)
     ·
      replace hm := ite_t hc5 hm
      refine WP.seq (WP.region ?_)
      refine wq rfl rfl rfl (ov_assign rfl rfl) ?_
      refine wq rfl rfl rfl (ov_assign rfl rfl) ?_
      refine WL.nil (then_normal (WP.ret (block_ret (then_ret (then_ret (block_ret (then_ret ?_)))))))
      obtain rfl := Option.some.inj hm
      refine retQ_ret Tryz.results22 (Res.tmp rfl (Res.tmp rfl Res.nil)) rfl (fun w' s => ⟨s.below, ?_⟩)
      exact rfl
     ·
      replace hm := ite_f hc5 hm
      refine WP.skip (block_normal (then_normal (WP.region ?_)))
      refine wq rfl rfl rfl (ov_add rfl rfl rfl) ?_
      refine wq rfl rfl rfl (ov_move rfl rfl) ?_
      refine WL.nil (then_normal ?_)
      exact ⟨r3, (IntKind.wrap .i64 (i2 + 1)), (pB b2 0), (l1 ++ s3), ao4, cap4, (xs1 ++ ys1), (.inr rfl), rl3, (Sub.cons rfl (Sub.cons rfl (Sub.cons rfl (Sub.cons rfl (Sub.cons rfl (Sub.cons rfl (Sub.nil _))))))), fun w' s => (s.select [1, 2] (by decide) rfl), hm⟩
    ·
     replace hm := ite_f hc4 hm
     refine WP.exit (then_exit (then_exit (block_here (then_normal ?_))))
     exact ⟨v1, l1, ao3, cap3, xs1, hv1, rl2, (Sub.cons rfl (Sub.cons rfl (Sub.nil _))), fun w' s => s, hm⟩
  ·
   rintro g' S' ⟨v2, l3, ao5, cap5, xs2, hv2, rl4, hsub2, hS2, hm⟩
   refine WP.sub hsub2 (WP.weaken hS2 ?_)
   replace hm := (congrFun hk1 l3).symm.trans hm
   refine WP.seq (WP.region ?_)
   refine WL.step (Runs.free rfl) rfl rfl (os_bstring (i := 1) (j := 0) rfl rfl rfl rfl hv2 rl4 (fun H2 => ?_))
   refine wq rfl rfl rfl (ov_assign rfl rfl) ?_
   refine wq rfl rfl rfl (ov_assign rfl rfl) ?_
   refine WL.nil (then_normal (WP.ret ?_))
   obtain rfl := Option.some.inj hm
   refine retQ_ret Tryz.results22 (Res.tmp rfl (Res.tmp rfl Res.nil)) rfl (fun w' s => ⟨s.below, ?_⟩)
   exact rfl

theorem law58_Four_con  (w : World) (H : Heap) (hH : Le H (hp w)) (hG : Glob H) (r : (List Entry)) (hm : law58_Four  = some r) :
  Con Tryz.prog 26 [] w H (fun v H' => ∃ (ao1 : Option Addr) (cap1 : Nat), v = (.slice ao1 r.length cap1) ∧ SL H' encEntry ao1 r ∧ r.length ≤ cap1) := by
 unfold law58_Four at hm
 refine con_of hH Tryz.func26 rfl 6 Tryz.ntmps26 rfl ?_
 refine WP.seq (WP.region ?_)
 refine wq rfl rfl rfl (ov_assign rfl rfl) ?_
 refine WL.nil (then_normal (WP.seq (WP.region ?_)))
 refine wq rfl rfl rfl (ov_build (r := (.agg #[(.int .i64 0), (mkS [65]), (.int .i64 100), (.int .i64 0)])) rfl rfl (fun _ => by kernel_rfl)) ?_
 refine wq rfl rfl rfl (ov_build (r := (.agg #[(.int .i64 1), (mkS [65]), (.int .i64 3), (.int .i64 20)])) rfl rfl (fun _ => by kernel_rfl)) ?_
 refine wq rfl rfl rfl (ov_build (r := (.agg #[(.int .i64 2), (mkS [65]), (.int .i64 0), (.int .i64 0)])) rfl rfl (fun _ => by kernel_rfl)) ?_
 refine wq rfl rfl rfl (ov_build (r := (.agg #[(.int .i64 3), (mkS [65]), (.int .i64 0), (.int .i64 0)])) rfl rfl (fun _ => by kernel_rfl)) ?_
 have rl1 : RL H encEntry ([(Entry.mk 0 [65] 100 0), (Entry.mk 1 [65] 3 20), (Entry.mk 2 [65] 0 0), (Entry.mk 3 [65] 0 0)] : List Entry) [(.int .i64 0), (mkS [65]), (.int .i64 100), (.int .i64 0), (.int .i64 1), (mkS [65]), (.int .i64 3), (.int .i64 20), (.int .i64 2), (mkS [65]), (.int .i64 0), (.int .i64 0), (.int .i64 3), (mkS [65]), (.int .i64 0), (.int .i64 0)] := RL.cons (cs := [(.int .i64 0), (mkS [65]), (.int .i64 100), (.int .i64 0)]) (xs := [(.int .i64 1), (mkS [65]), (.int .i64 3), (.int .i64 20), (.int .i64 2), (mkS [65]), (.int .i64 0), (.int .i64 0), (.int .i64 3), (mkS [65]), (.int .i64 0), (.int .i64 0)]) rfl (RL.cons (cs := [(.int .i64 1), (mkS [65]), (.int .i64 3), (.int .i64 20)]) (xs := [(.int .i64 2), (mkS [65]), (.int .i64 0), (.int .i64 0), (.int .i64 3), (mkS [65]), (.int .i64 0), (.int .i64 0)]) rfl (RL.cons (cs := [(.int .i64 2), (mkS [65]), (.int .i64 0), (.int .i64 0)]) (xs := [(.int .i64 3), (mkS [65]), (.int .i64 0), (.int .i64 0)]) rfl (RL.cons (cs := [(.int .i64 3), (mkS [65]), (.int .i64 0), (.int .i64 0)]) (xs := []) rfl (RL.nil _ _))))
 refine WL.step (Runs.free rfl) rfl rfl (os_buildSlice (cs := [(.int .i64 0), (mkS [65]), (.int .i64 100), (.int .i64 0), (.int .i64 1), (mkS [65]), (.int .i64 3), (.int .i64 20), (.int .i64 2), (mkS [65]), (.int .i64 0), (.int .i64 0), (.int .i64 3), (mkS [65]), (.int .i64 0), (.int .i64 0)]) (E := 23) (sz := 4) rfl rfl (fun _ => by kernel_rfl) rfl (by decide) (fun b1 => ?_))
 refine WL.held rl1 (fun H1 hc2 hle1 h2 => ?_)
 replace hG := hG.mono hle1
 refine wq rfl rfl rfl (ov_assign rfl rfl) ?_
 refine WL.nil (then_normal (WP.ret ?_))
 obtain rfl := Option.some.inj hm
 refine retQ_ret Tryz.results26 (Res.tmp rfl Res.nil) rfl (fun w' s => ⟨s.below, ?_⟩)
 exact ⟨(some ⟨b1, 0, none⟩), 4, rfl, h2.mono s.le_newer, hc2⟩

theorem journal_Check_con (p_m : Machine) (ao1 : Option Addr) (cap1 : Nat) (w : World) (H : Heap) (hH : Le H (hp w)) (h1 : SL H encItem ao1 p_m.items) (hc1 : p_m.items.length ≤ cap1) (hG : Glob H) (r : Int) (hm : journal_Check p_m = some r) :
  Con Tryz.prog 63 [(.agg #[(.slice ao1 p_m.items.length cap1), (.int .i64 p_m.cycles)])] w H (fun v _ => v = (.int .i64 r)) := by
 unfold journal_Check at hm
 refine con_of hH Tryz.func63 rfl 87 Tryz.ntmps63 rfl ?_
 refine WP.seq (WP.region ?_)
 refine WL.step (Runs.free rfl) rfl rfl (os_box (cs := [(.slice ao1 p_m.items.length cap1), (.int .i64 p_m.cycles)]) rfl rfl rfl (fun b1 => ?_))
 refine wq rfl rfl rfl (ov_assign rfl rfl) ?_
 refine WL.nil (then_normal (WP.seq (WP.seq (WP.region ?_))))
 refine wq rfl rfl rfl (ov_fieldAddr Tryz.underlying41 rfl rfl rfl Tryz.sizeOf3 rfl rfl) ?_
 refine wq rfl rfl rfl (ov_load_box (i := 0) Tryz.isAgg3 rfl rfl rfl rfl) ?_
 obtain ⟨r1, e1, hm⟩ := bind_some hm
 refine WL.quiet (Runs.free rfl) rfl rfl (oq_con (r := (.bool r1)) Tryz.call65 rfl rfl (fun w' s => ⟨_, (journal_in_con p_m.cycles 0 1048576  w' H s.hold hG r1 e1)⟩)) ?_
 refine wq rfl rfl rfl (ov_not rfl rfl) ?_
 refine WL.nil (then_normal ?_)
 refine WP.cond rfl (fun hc2 => ?_) (fun hc2 => ?_)
 ·
  replace hm := ite_t hc2 hm
  refine WP.seq (WP.region ?_)
  refine wq rfl rfl rfl (ov_assign rfl rfl) ?_
  refine WL.nil (then_normal (WP.ret (then_ret ?_)))
  obtain rfl := Option.some.inj hm
  refine retQ_ret Tryz.results63 (Res.tmp rfl Res.nil) rfl (fun w' s => ⟨s.below, ?_⟩)
  exact rfl
 ·
  replace hm := ite_f hc2 hm
  refine WP.skip (then_normal (WP.seq (WP.seq (WP.region ?_))))
  refine wq rfl rfl rfl (ov_fieldAddr Tryz.underlying41 rfl rfl rfl Tryz.sizeOf39 rfl rfl) ?_
  refine wq rfl rfl rfl (ov_load_box (i := 0) Tryz.isAgg39 rfl rfl rfl rfl) ?_
  refine wq rfl rfl rfl (ov_len_slice Tryz.underlying39 rfl rfl) ?_
  refine wq rfl rfl rfl (ov_gtr rfl rfl rfl) ?_
  refine WL.nil (then_normal ?_)
  refine WP.cond rfl (fun hc3 => ?_) (fun hc3 => ?_)
  ·
   replace hm := ite_t hc3 hm
   refine WP.seq (WP.region ?_)
   refine wq rfl rfl rfl (ov_assign rfl rfl) ?_
   refine WL.nil (then_normal (WP.ret (then_ret ?_)))
   obtain rfl := Option.some.inj hm
   refine retQ_ret Tryz.results63 (Res.tmp rfl Res.nil) rfl (fun w' s => ⟨s.below, ?_⟩)
   exact rfl
  ·
   replace hm := ite_f hc3 hm
   refine WP.skip (then_normal ?_)
   obtain ⟨k1, hk1, hm⟩ := joinK_some hm
   refine WP.seq_join (fun g' S' => Sub [(1000000007, (.bool false))] g' ∧ (∀ w', S' w' → St w H [] H w') ∧ k1 = some r) ?_ ?_
   ·
    skip
    refine WP.seq (WP.region ?_)
    refine wq rfl rfl rfl (ov_fieldAddr Tryz.underlying41 rfl rfl rfl Tryz.sizeOf39 rfl rfl) ?_
    refine wq rfl rfl rfl (ov_load_box (i := 0) Tryz.isAgg39 rfl rfl rfl rfl) ?_
    refine wq rfl rfl rfl (ov_len_slice Tryz.underlying39 rfl rfl) ?_
    refine wq rfl rfl rfl (ov_move rfl rfl) ?_
    refine WL.nil (then_normal (WP.block ?_))
    refine WP.loop (fun m1 g' S' => ∃ (i1 : Int), Sub [(1, (pB b1 0)), (15, (.slice ao1 p_m.items.length cap1)), (16, (.int .i64 (p_m.items.length : Int))), (17, (.int .i64 i1)), (1000000007, (.bool false))] g' ∧ (∀ w', S' w' → St w H [.blk b1 41 [(.slice ao1 p_m.items.length cap1), (.int .i64 p_m.cycles)]] H w') ∧ journal_Check_loop1 p_m k1 m1 i1 = some r) ((Int.toNat ((p_m.items.length : Int) - 0) + 1)) ⟨0, (Sub.cons rfl (Sub.cons rfl (Sub.cons rfl (Sub.cons rfl (Sub.cons rfl (Sub.nil _)))))), fun w' s => s, hm⟩ ?_ ?_
    ·
     rintro g' S' ⟨_, _, _, hm⟩
     exact none_some hm
    ·
     rintro m1 g' S' ⟨i1, hsub1, hS1, hm⟩
     refine WP.sub hsub1 (WP.weaken hS1 ?_)
     rw [journal_Check_loop1] at hm
     refine WP.seq (WP.region ?_)
     refine wq rfl rfl rfl (ov_lss rfl rfl rfl) ?_
     refine WL.nil (then_normal (WP.seq ?_))
     refine WP.cond rfl (fun hc4 => ?_) (fun hc4 => ?_)
     ·
      replace hm := ite_t hc4 hm
      refine WP.skip (then_normal (WP.seq (WP.block (WP.seq (WP.region ?_)))))
      refine wq rfl rfl rfl (ov_move rfl rfl) ?_
      obtain ⟨x1, e2, hm⟩ := bind_some hm
      obtain ⟨h2, h3, h4, cs1, h5, h6⟩ := h1.get e2 (by decide)
      obtain rfl : cs1 = [(mkS x1.name), (.int .i64 x1.life), (.int .i64 x1.used), (.int .i64 x1.faults), (.bool x1.faulty), (.int .i64 x1.since), (.int .i64 x1.cycles)] := h5
      refine wq rfl rfl rfl (ov_indexAddr Tryz.underlying39 Tryz.sizeOf73 rfl rfl rfl h2 h3 h4) ?_
      refine wq rfl rfl rfl (ov_load_elems (vs := [(mkS x1.name), (.int .i64 x1.life), (.int .i64 x1.used), (.int .i64 x1.faults), (.bool x1.faulty), (.int .i64 x1.since), (.int .i64 x1.cycles)]) Tryz.isAgg73 Tryz.sizeOf73 rfl rfl rfl h6 h4) ?_
      refine WL.step (Runs.free rfl) rfl rfl (os_alloc (cs := [(mkS []), (.int .i64 0), (.int .i64 0), (.int .i64 0), (.bool false), (.int .i64 0), (.int .i64 0)]) Tryz.zeroValue73 rfl rfl (fun b2 => ?_))
      refine wq rfl rfl rfl (ov_assign rfl rfl) ?_
      refine WL.step0 (Runs.free rfl) rfl (os_store (i := 0) (vs := [(mkS x1.name), (.int .i64 x1.life), (.int .i64 x1.used), (.int .i64 x1.faults), (.bool x1.faulty), (.int .i64 x1.since), (.int .i64 x1.cycles)]) (cs' := [(mkS x1.name), (.int .i64 x1.life), (.int .i64 x1.used), (.int .i64 x1.faults), (.bool x1.faulty), (.int .i64 x1.since), (.int .i64 x1.cycles)]) Tryz.sizeOf73 rfl rfl rfl rfl rfl rfl rfl rfl rfl ?_)
      refine WL.nil (then_normal (WP.seq (WP.seq (WP.region ?_))))
      refine wq rfl rfl rfl (ov_fieldAddr Tryz.underlying73 rfl rfl rfl Tryz.sizeOf9 rfl rfl) ?_
      refine wq rfl rfl rfl (ov_load_box (i := 0) Tryz.isAgg9 rfl rfl rfl rfl) ?_
      obtain ⟨r2, e3, hm⟩ := bind_some hm
      refine WL.quiet (Runs.free rfl) rfl rfl (oq_con (r := (.int .i64 r2)) Tryz.call66 rfl rfl (fun w' s => ⟨_, (lexer_Word_con x1.name  w' H s.hold hG r2 e3)⟩)) ?_
      refine wq rfl rfl rfl (ov_assign rfl rfl) ?_
      refine WL.nil (then_normal (WP.seq (WP.region ?_)))
      refine wq rfl rfl rfl (ov_move rfl rfl) ?_
      refine wq rfl rfl rfl (ov_neq rfl rfl rfl) ?_
      refine WL.nil (then_normal ?_)
      refine WP.cond rfl (fun hc5 => ?_) (fun hc5 => ?_)
      ·
       replace hm := ite_t hc5 hm
       refine WP.seq (WP.region ?_)
       refine wq rfl rfl rfl (ov_move rfl rfl) ?_
       refine wq rfl rfl rfl (ov_assign rfl rfl) ?_
       refine WL.nil (then_normal (WP.ret (then_ret (block_ret (then_ret (then_ret (block_ret (then_ret ?_))))))))
       obtain rfl := Option.some.inj hm
       refine retQ_ret Tryz.results63 (Res.tmp rfl Res.nil) rfl (fun w' s => ⟨s.below, ?_⟩)
       exact rfl
      ·
       replace hm := ite_f hc5 hm
       refine WP.skip (then_normal (WP.block (WP.seq ?_)))
       refine WP.region_draws (by kernel_rfl) (by kernel_rfl) (fun _ s => s.drew) ?_
       refine QL.quiet (Runs.free rfl) rfl rfl (OV.quiet (ov_move rfl rfl)) ?_
       refine QL.quiet (Runs.free rfl) rfl rfl (OV.quiet (ov_gtr rfl rfl rfl)) ?_
       refine QL.quiet (Runs.free rfl) rfl rfl (OV.quiet (ov_move rfl rfl)) ?_
       obtain ⟨c1, e4, hm⟩ := bind_some hm
       refine QL.part_bool 11 42 (x := c1) ?_ ?_
       ·
        rcases Bool.eq_false_or_eq_true (decide (i1 > 0)) with hc6 | hc6
        ·
         skip
         replace hm := ite_t hc6 e4
         refine QL.quiet (Runs.yes rfl rfl rfl hc6) rfl rfl (OV.quiet (ov_fieldAddr Tryz.underlying73 rfl rfl rfl Tryz.sizeOf9 rfl rfl)) ?_
         refine QL.quiet (Runs.yes rfl rfl rfl hc6) rfl rfl (OV.quiet (ov_load_box (i := 0) Tryz.isAgg9 rfl rfl rfl rfl)) ?_
         refine QL.quiet (Runs.yes rfl rfl rfl hc6) rfl rfl (OV.quiet (ov_fieldAddr Tryz.underlying41 rfl rfl rfl Tryz.sizeOf39 rfl rfl)) ?_
         refine QL.quiet (Runs.yes rfl rfl rfl hc6) rfl rfl (OV.quiet (ov_load_box (i := 1) Tryz.isAgg39 rfl rfl rfl rfl)) ?_
         refine QL.quiet (Runs.yes rfl rfl rfl hc6) rfl rfl (OV.quiet (ov_move rfl rfl)) ?_
         refine QL.quiet (Runs.yes rfl rfl rfl hc6) rfl rfl (OV.quiet (ov_sub rfl rfl rfl)) ?_
         obtain ⟨x2, e5, hm⟩ := bind_some hm
         obtain ⟨h7, h8, h9, cs2, h10, h11⟩ := h1.get e5 (by decide)
         obtain rfl : cs2 = [(mkS x2.name), (.int .i64 x2.life), (.int .i64 x2.used), (.int .i64 x2.faults), (.bool x2.faulty), (.int .i64 x2.since), (.int .i64 x2.cycles)] := h10
         refine QL.quiet (Runs.yes rfl rfl rfl hc6) rfl rfl (OV.quiet (ov_indexAddr Tryz.underlying39 Tryz.sizeOf73 rfl rfl rfl h7 h8 h9)) ?_
         refine QL.quiet (Runs.yes rfl rfl rfl hc6) rfl rfl (OV.quiet (ov_fieldAddrE Tryz.underlying73 rfl rfl rfl Tryz.sizeOf9 rfl rfl)) ?_
         refine QL.quiet (Runs.yes rfl rfl rfl hc6) rfl rfl (OV.quiet (ov_load_elem (v := (mkS x2.name)) Tryz.isAgg9 rfl rfl (h11.one (off := 0) rfl))) ?_
         refine QL.quiet (Runs.yes rfl rfl rfl hc6) rfl rfl (OV.quiet (ov_sleq rfl rfl rfl)) ?_
         refine QL.quiet (Runs.free rfl) rfl rfl (OV.quiet (ov_pick_true rfl (guard_eq rfl hc6) rfl)) ?_
         exact QL.nil (Sub.cons' rfl (congrArg Value.bool (Option.some.inj hm)) (Sub.skip rfl (Sub.skip rfl (Sub.skip rfl (Sub.skip rfl (Sub.skip rfl (Sub.skip rfl (Sub.skip rfl (Sub.skip rfl (Sub.skip rfl (Sub.skip rfl (Sub.skip rfl (Sub.refl _)))))))))))))
        ·
         skip
         replace hm := ite_f hc6 e4
         refine QL.idle (Idle.no rfl rfl rfl hc6) rfl rfl ?_
         refine QL.idle (Idle.no rfl rfl rfl hc6) rfl rfl ?_
         refine QL.idle (Idle.no rfl rfl rfl hc6) rfl rfl ?_
         refine QL.idle (Idle.no rfl rfl rfl hc6) rfl rfl ?_
         refine QL.idle (Idle.no rfl rfl rfl hc6) rfl rfl ?_
         refine QL.idle (Idle.no rfl rfl rfl hc6) rfl rfl ?_
         refine QL.idle (Idle.no rfl rfl rfl hc6) rfl rfl ?_
         refine QL.idle (Idle.no rfl rfl rfl hc6) rfl rfl ?_
         refine QL.idle (Idle.no rfl rfl rfl hc6) rfl rfl ?_
         refine QL.idle (Idle.no rfl rfl rfl hc6) rfl rfl ?_
         refine QL.quiet (Runs.free rfl) rfl rfl (OV.quiet (ov_pick_false rfl (guard_eq rfl hc6) rfl)) ?_
         exact QL.nil (Sub.cons' rfl (congrArg Value.bool (Option.some.inj hm)) (Sub.skip rfl (Sub.skip rfl (Sub.skip rfl (Sub.skip rfl (Sub.skip rfl (Sub.skip rfl (Sub.skip rfl (Sub.skip rfl (Sub.skip rfl (Sub.skip rfl (Sub.skip rfl (Sub.refl _)))))))))))))
       refine QL.quiet (Runs.free rfl) rfl rfl (OV.quiet (ov_assign rfl rfl)) ?_
       refine QL.nil ?_
       refine then_normal ?_
       refine WP.cond rfl (fun hc7 => ?_) (fun hc7 => ?_)
       ·
        replace hm := ite_t hc7 hm
        refine WP.seq (WP.region ?_)
        refine wq rfl rfl rfl (ov_assign rfl rfl) ?_
        refine WL.nil (then_normal (WP.ret (block_ret (block_ret (then_ret (then_ret (block_ret (then_ret ?_))))))))
        obtain rfl := Option.some.inj hm
        refine retQ_ret Tryz.results63 (Res.tmp rfl Res.nil) rfl (fun w' s => ⟨s.below, ?_⟩)
        exact rfl
       ·
        replace hm := ite_f hc7 hm
        refine WP.seq (WP.region ?_)
        refine wq rfl rfl rfl (ov_fieldAddr Tryz.underlying73 rfl rfl rfl Tryz.sizeOf3 rfl rfl) ?_
        refine wq rfl rfl rfl (ov_load_box (i := 0) Tryz.isAgg3 rfl rfl rfl rfl) ?_
        obtain ⟨r3, e6, hm⟩ := bind_some hm
        refine WL.quiet (Runs.free rfl) rfl rfl (oq_con (r := (.bool r3)) Tryz.call65 rfl rfl (fun w' s => ⟨_, (journal_in_con x1.life 1 1048576  w' H s.hold hG r3 e6)⟩)) ?_
        refine wq rfl rfl rfl (ov_not rfl rfl) ?_
        refine wq rfl rfl rfl (ov_move rfl rfl) ?_
        obtain ⟨c2, e7, hm⟩ := bind_some hm
        refine WL.cut_bool 5 53 (x := c2) ?_ ?_
        ·
         rcases Bool.eq_false_or_eq_true (!r3) with hc8 | hc8
         ·
          skip
          replace hm := ite_t hc8 e7
          refine WL.idle (Idle.no rfl rfl rfl hc8) rfl rfl ?_
          refine WL.idle (Idle.no rfl rfl rfl hc8) rfl rfl ?_
          refine WL.idle (Idle.no rfl rfl rfl hc8) rfl rfl ?_
          refine WL.idle (Idle.no rfl rfl rfl hc8) rfl rfl ?_
          refine wq rfl rfl rfl (ov_pick_true rfl (guard_eq rfl hc8) rfl) ?_
          exact WL.nil ⟨Sub.cons' rfl (congrArg Value.bool (Option.some.inj hm)) (Sub.skip rfl (Sub.skip rfl (Sub.skip rfl (Sub.skip rfl (Sub.skip rfl (Sub.refl _)))))), fun _ s => s⟩
         ·
          skip
          replace hm := ite_f hc8 e7
          refine WL.quiet (Runs.yes rfl rfl rfl hc8) rfl rfl (OV.quiet (ov_fieldAddr Tryz.underlying73 rfl rfl rfl Tryz.sizeOf3 rfl rfl)) ?_
          refine WL.quiet (Runs.yes rfl rfl rfl hc8) rfl rfl (OV.quiet (ov_load_box (i := 0) Tryz.isAgg3 rfl rfl rfl rfl)) ?_
          obtain ⟨r4, e8, hm⟩ := bind_some hm
          refine WL.quiet (Runs.yes rfl rfl rfl hc8) rfl rfl (oq_con (r := (.bool r4)) Tryz.call65 rfl rfl (fun w' s => ⟨_, (journal_in_con x1.used 0 1048576  w' H s.hold hG r4 e8)⟩)) ?_
          refine WL.quiet (Runs.yes rfl rfl rfl hc8) rfl rfl (OV.quiet (ov_not rfl rfl)) ?_
          refine wq rfl rfl rfl (ov_pick_false rfl (guard_eq rfl hc8) rfl) ?_
          exact WL.nil ⟨Sub.cons' rfl (congrArg Value.bool (Option.some.inj hm)) (Sub.skip rfl (Sub.skip rfl (Sub.skip rfl (Sub.skip rfl (Sub.skip rfl (Sub.refl _)))))), fun _ s => s⟩
        refine wq rfl rfl rfl (ov_move rfl rfl) ?_
        obtain ⟨c3, e9, hm⟩ := bind_some hm
        refine WL.cut_bool 5 59 (x := c3) ?_ ?_
        ·
         rcases Bool.eq_false_or_eq_true c2 with hc9 | hc9
         ·
          skip
          replace hm := ite_t hc9 e9
          refine WL.idle (Idle.no rfl rfl rfl hc9) rfl rfl ?_
          refine WL.idle (Idle.no rfl rfl rfl hc9) rfl rfl ?_
          refine WL.idle (Idle.no rfl rfl rfl hc9) rfl rfl ?_
          refine WL.idle (Idle.no rfl rfl rfl hc9) rfl rfl ?_
          refine wq rfl rfl rfl (ov_pick_true rfl (guard_eq rfl hc9) rfl) ?_
          exact WL.nil ⟨Sub.cons' rfl (congrArg Value.bool (Option.some.inj hm)) (Sub.skip rfl (Sub.skip rfl (Sub.skip rfl (Sub.skip rfl (Sub.skip rfl (Sub.refl _)))))), fun _ s => s⟩
         ·
          skip
          replace hm := ite_f hc9 e9
          refine WL.quiet (Runs.yes rfl rfl rfl hc9) rfl rfl (OV.quiet (ov_fieldAddr Tryz.underlying73 rfl rfl rfl Tryz.sizeOf3 rfl rfl)) ?_
          refine WL.quiet (Runs.yes rfl rfl rfl hc9) rfl rfl (OV.quiet (ov_load_box (i := 0) Tryz.isAgg3 rfl rfl rfl rfl)) ?_
          obtain ⟨r5, e10, hm⟩ := bind_some hm
          refine WL.quiet (Runs.yes rfl rfl rfl hc9) rfl rfl (oq_con (r := (.bool r5)) Tryz.call65 rfl rfl (fun w' s => ⟨_, (journal_in_con x1.faults 0 4096  w' H s.hold hG r5 e10)⟩)) ?_
          refine WL.quiet (Runs.yes rfl rfl rfl hc9) rfl rfl (OV.quiet (ov_not rfl rfl)) ?_
          refine wq rfl rfl rfl (ov_pick_false rfl (guard_eq rfl hc9) rfl) ?_
          exact WL.nil ⟨Sub.cons' rfl (congrArg Value.bool (Option.some.inj hm)) (Sub.skip rfl (Sub.skip rfl (Sub.skip rfl (Sub.skip rfl (Sub.skip rfl (Sub.refl _)))))), fun _ s => s⟩
        refine wq rfl rfl rfl (ov_assign rfl rfl) ?_
        refine WL.nil (then_normal ?_)
        refine WP.cond rfl (fun hc10 => ?_) (fun hc10 => ?_)
        ·
         replace hm := ite_t hc10 hm
         refine WP.seq (WP.region ?_)
         refine wq rfl rfl rfl (ov_assign rfl rfl) ?_
         refine WL.nil (then_normal (WP.ret (block_ret (block_ret (then_ret (then_ret (block_ret (then_ret ?_))))))))
         obtain rfl := Option.some.inj hm
         refine retQ_ret Tryz.results63 (Res.tmp rfl Res.nil) rfl (fun w' s => ⟨s.below, ?_⟩)
         exact rfl
        ·
         replace hm := ite_f hc10 hm
         refine WP.seq (WP.region ?_)
         refine wq rfl rfl rfl (ov_fieldAddr Tryz.underlying73 rfl rfl rfl Tryz.sizeOf3 rfl rfl) ?_
         refine wq rfl rfl rfl (ov_load_box (i := 0) Tryz.isAgg3 rfl rfl rfl rfl) ?_
         refine wq rfl rfl rfl (ov_fieldAddr Tryz.underlying41 rfl rfl rfl Tryz.sizeOf3 rfl rfl) ?_
         refine wq rfl rfl rfl (ov_load_box (i := 1) Tryz.isAgg3 rfl rfl rfl rfl) ?_
         obtain ⟨r6, e11, hm⟩ := bind_some hm
         refine WL.quiet (Runs.free rfl) rfl rfl (oq_con (r := (.bool r6)) Tryz.call65 rfl rfl (fun w' s => ⟨_, (journal_in_con x1.since 0 p_m.cycles  w' H s.hold hG r6 e11)⟩)) ?_
         refine wq rfl rfl rfl (ov_not rfl rfl) ?_
         refine wq rfl rfl rfl (ov_move rfl rfl) ?_
         obtain ⟨c4, e12, hm⟩ := bind_some hm
         refine WL.cut_bool 10 77 (x := c4) ?_ ?_
         ·
          rcases Bool.eq_false_or_eq_true (!r6) with hc11 | hc11
          ·
           skip
           replace hm := ite_t hc11 e12
           refine WL.idle (Idle.no rfl rfl rfl hc11) rfl rfl ?_
           refine WL.idle (Idle.no rfl rfl rfl hc11) rfl rfl ?_
           refine WL.idle (Idle.no rfl rfl rfl hc11) rfl rfl ?_
           refine WL.idle (Idle.no rfl rfl rfl hc11) rfl rfl ?_
           refine WL.idle (Idle.no rfl rfl rfl hc11) rfl rfl ?_
           refine WL.idle (Idle.no rfl rfl rfl hc11) rfl rfl ?_
           refine WL.idle (Idle.no rfl rfl rfl hc11) rfl rfl ?_
           refine WL.idle (Idle.no rfl rfl rfl hc11) rfl rfl ?_
           refine WL.idle (Idle.no rfl rfl rfl hc11) rfl rfl ?_
           refine wq rfl rfl rfl (ov_pick_true rfl (guard_eq rfl hc11) rfl) ?_
           exact WL.nil ⟨Sub.cons' rfl (congrArg Value.bool (Option.some.inj hm)) (Sub.skip rfl (Sub.skip rfl (Sub.skip rfl (Sub.skip rfl (Sub.skip rfl (Sub.skip rfl (Sub.skip rfl (Sub.skip rfl (Sub.skip rfl (Sub.skip rfl (Sub.refl _))))))))))), fun _ s => s⟩
          ·
           skip
           replace hm := ite_f hc11 e12
           refine WL.quiet (Runs.yes rfl rfl rfl hc11) rfl rfl (OV.quiet (ov_fieldAddr Tryz.underlying73 rfl rfl rfl Tryz.sizeOf3 rfl rfl)) ?_
           refine WL.quiet (Runs.yes rfl rfl rfl hc11) rfl rfl (OV.quiet (ov_load_box (i := 0) Tryz.isAgg3 rfl rfl rfl rfl)) ?_
           refine WL.quiet (Runs.yes rfl rfl rfl hc11) rfl rfl (OV.quiet (ov_fieldAddr Tryz.underlying41 rfl rfl rfl Tryz.sizeOf3 rfl rfl)) ?_
           refine WL.quiet (Runs.yes rfl rfl rfl hc11) rfl rfl (OV.quiet (ov_load_box (i := 1) Tryz.isAgg3 rfl rfl rfl rfl)) ?_
           refine WL.quiet (Runs.yes rfl rfl rfl hc11) rfl rfl (OV.quiet (ov_fieldAddr Tryz.underlying73 rfl rfl rfl Tryz.sizeOf3 rfl rfl)) ?_
           refine WL.quiet (Runs.yes rfl rfl rfl hc11) rfl rfl (OV.quiet (ov_load_box (i := 0) Tryz.isAgg3 rfl rfl rfl rfl)) ?_
           refine WL.quiet (Runs.yes rfl rfl rfl hc11) rfl rfl (OV.quiet (ov_sub rfl rfl rfl)) ?_
           obtain ⟨r7, e13, hm⟩ := bind_some hm
           refine WL.quiet (Runs.yes rfl rfl rfl hc11) rfl rfl (oq_con (r := (.bool r7)) Tryz.call65 rfl rfl (fun w' s => ⟨_, (journal_in_con x1.cycles 0 (IntKind.wrap .i64 (p_m.cycles - x1.since))  w' H s.hold hG r7 e13)⟩)) ?_
           refine WL.quiet (Runs.yes rfl rfl rfl hc11) rfl rfl (OV.quiet (ov_not rfl rfl)) ?_
           refine wq rfl rfl rfl (ov_pick_false rfl (guard_eq rfl hc11) rfl) ?_
           exact WL.nil ⟨Sub.cons' rfl (congrArg Value.bool (Option.some.inj hm)) (Sub.skip rfl (Sub.skip rfl (Sub.skip rfl (Sub.skip rfl (Sub.skip rfl (Sub.skip rfl (Sub.skip rfl (Sub.skip rfl (Sub.skip rfl (Sub.skip rfl (Sub.refl _))))))))))), fun _ s => s⟩
         refine wq rfl rfl rfl (ov_assign rfl rfl) ?_
         refine WL.nil (then_normal ?_)
         refine WP.cond rfl (fun hc12 => ?_) (fun hc12 => ?_)
         ·
          replace hm := ite_t hc12 hm
          refine WP.seq (WP.region ?_)
          refine wq rfl rfl rfl (ov_assign rfl rfl) ?_
          refine WL.nil (then_normal (WP.ret (block_ret (block_ret (then_ret (then_ret (block_ret (then_ret ?_))))))))
          obtain rfl := Option.some.inj hm
          refine retQ_ret Tryz.results63 (Res.tmp rfl Res.nil) rfl (fun w' s => ⟨s.below, ?_⟩)
          exact rfl
         ·
          replace hm := ite_f hc12 hm
          refine WP.seq (WP.region ?_)
          refine wq rfl rfl rfl (ov_fieldAddr Tryz.underlying73 rfl rfl rfl Tryz.sizeOf4 rfl rfl) ?_
          refine wq rfl rfl rfl (ov_load_box (i := 0) Tryz.isAgg4 rfl rfl rfl rfl) ?_
          refine wq rfl rfl rfl (ov_move rfl rfl) ?_
          refine WL.cut_bool 4 85 (x := (x1.faulty && (x1.faults == 0))) ?_ ?_
          ·
           rcases Bool.eq_false_or_eq_true x1.faulty with hc13 | hc13
           ·
            skip
            refine WL.quiet (Runs.yes rfl rfl rfl hc13) rfl rfl (OV.quiet (ov_fieldAddr Tryz.underlying73 rfl rfl rfl Tryz.sizeOf3 rfl rfl)) ?_
            refine WL.quiet (Runs.yes rfl rfl rfl hc13) rfl rfl (OV.quiet (ov_load_box (i := 0) Tryz.isAgg3 rfl rfl rfl rfl)) ?_
            refine WL.quiet (Runs.yes rfl rfl rfl hc13) rfl rfl (OV.quiet (ov_eql rfl rfl rfl)) ?_
            refine wq rfl rfl rfl (ov_pick_true rfl (guard_eq rfl hc13) rfl) ?_
            exact WL.nil ⟨Sub.cons' rfl (congrArg Value.bool (andT hc13)) (Sub.skip rfl (Sub.skip rfl (Sub.skip rfl (Sub.skip rfl (Sub.refl _))))), fun _ s => s⟩
           ·
            skip
            refine WL.idle (Idle.no rfl rfl rfl hc13) rfl rfl ?_
            refine WL.idle (Idle.no rfl rfl rfl hc13) rfl rfl ?_
            refine WL.idle (Idle.no rfl rfl rfl hc13) rfl rfl ?_
            refine wq rfl rfl rfl (ov_pick_false rfl (guard_eq rfl hc13) rfl) ?_
            exact WL.nil ⟨Sub.cons' rfl (congrArg Value.bool (andF hc13)) (Sub.skip rfl (Sub.skip rfl (Sub.skip rfl (Sub.skip rfl (Sub.refl _))))), fun _ s => s⟩
          refine wq rfl rfl rfl (ov_assign rfl rfl) ?_
          refine WL.nil (then_normal ?_)
          refine WP.cond rfl (fun hc14 => ?_) (fun hc14 => ?_)
          ·
           replace hm := ite_t hc14 hm
           refine WP.seq (WP.region ?_)
           refine wq rfl rfl rfl (ov_assign rfl rfl) ?_
           refine WL.nil (then_normal (WP.ret (block_ret (block_ret (then_ret (then_ret (block_ret (then_ret ?_))))))))
           obtain rfl := Option.some.inj hm
           refine retQ_ret Tryz.results63 (Res.tmp rfl Res.nil) rfl (fun w' s => ⟨s.below, ?_⟩)
           exact rfl
          ·
           replace hm := ite_f hc14 hm
           refine WP.skip (block_normal (block_normal (then_normal (WP.region ?_))))
           refine wq rfl rfl rfl (ov_add rfl rfl rfl) ?_
           refine wq rfl rfl rfl (ov_move rfl rfl) ?_
           refine WL.nil (then_normal ?_)
           exact ⟨(IntKind.wrap .i64 (i1 + 1)), (Sub.cons rfl (Sub.cons rfl (Sub.cons rfl (Sub.cons rfl (Sub.cons rfl (Sub.nil _)))))), fun w' s => (s.select [1] (by decide) rfl), hm⟩
     ·
      replace hm := ite_f hc4 hm
      refine WP.exit (then_exit (then_exit (block_here (then_normal ?_))))
      exact ⟨(Sub.cons rfl (Sub.nil _)), fun w' s => (s.select [] (by decide) rfl), hm⟩
   ·
    rintro g' S' ⟨hsub2, hS2, hm⟩
    refine WP.sub hsub2 (WP.weaken hS2 ?_)
    replace hm := hk1.symm.trans hm
    refine WP.seq (WP.region ?_)
    refine wq rfl rfl rfl (ov_assign rfl rfl) ?_
    refine WL.nil (then_normal (WP.ret ?_))
    obtain rfl := Option.some.inj hm
    refine retQ_ret Tryz.results63 (Res.tmp rfl Res.nil) rfl (fun w' s => ⟨s.below, ?_⟩)
    exact rfl

theorem journal_Left_con (p_m : Machine) (p_name : (List UInt8)) (p_strokes : Int) (ao1 : Option Addr) (cap1 : Nat) (w : World) (H : Heap) (hH : Le H (hp w)) (h1 : SL H encItem ao1 p_m.items) (hc1 : p_m.items.length ≤ cap1) (hG : Glob H) (r : (Int × Int)) (hm : journal_Left p_m p_name p_strokes = some r) :
  Con Tryz.prog 27 [(.agg #[(.slice ao1 p_m.items.length cap1), (.int .i64 p_m.cycles)]), (mkS p_name), (.int .i64 p_strokes)] w H (fun v _ => v = (.tuple #[(.int .i64 r.1), (.int .i64 r.2)])) := by
 unfold journal_Left at hm
 refine con_of hH Tryz.func27 rfl 50 Tryz.ntmps27 rfl ?_
 refine WP.seq (WP.region ?_)
 refine WL.step (Runs.free rfl) rfl rfl (os_box (cs := [(.slice ao1 p_m.items.length cap1), (.int .i64 p_m.cycles)]) rfl rfl rfl (fun b1 => ?_))
 refine wq rfl rfl rfl (ov_assign rfl rfl) ?_
 refine wq rfl rfl rfl (ov_assign rfl rfl) ?_
 refine WL.nil (then_normal (WP.seq (WP.seq (WP.region ?_))))
 refine wq rfl rfl rfl (ov_load_whole (i := 0) Tryz.isAgg41 Tryz.sizeOf41 rfl rfl rfl rfl) ?_
 obtain ⟨r1, e1, hm⟩ := bind_some hm
 refine WL.quiet (Runs.free rfl) rfl rfl (oq_con (r := (.int .i64 r1)) Tryz.call63 rfl rfl (fun w' s => ⟨_, (journal_Check_con p_m ao1 cap1  w' H s.hold h1 hc1 hG r1 e1)⟩)) ?_
 refine wq rfl rfl rfl (ov_assign rfl rfl) ?_
 refine WL.nil (then_normal (WP.seq (WP.region ?_)))
 refine wq rfl rfl rfl (ov_move rfl rfl) ?_
 refine wq rfl rfl rfl (ov_neq rfl rfl rfl) ?_
 refine WL.nil (then_normal ?_)
 refine WP.cond rfl (fun hc2 => ?_) (fun hc2 => ?_)
 ·
  replace hm := ite_t hc2 hm
  refine WP.seq (WP.region ?_)
  refine wq rfl rfl rfl (ov_move rfl rfl) ?_
  refine wq rfl rfl rfl (ov_assign rfl rfl) ?_
  refine wq rfl rfl rfl (ov_assign rfl rfl) ?_
  refine WL.nil (then_normal (WP.ret (then_ret ?_)))
  obtain rfl := Option.some.inj hm
  refine retQ_ret Tryz.results27 (Res.tmp rfl (Res.tmp rfl Res.nil)) rfl (fun w' s => ⟨s.below, ?_⟩)
  exact rfl
 ·
  replace hm := ite_f hc2 hm
  refine WP.skip (then_normal (WP.seq (WP.region ?_)))
  refine wq rfl rfl rfl (ov_load_whole (i := 0) Tryz.isAgg41 Tryz.sizeOf41 rfl rfl rfl rfl) ?_
  refine wq rfl rfl rfl (ov_move rfl rfl) ?_
  obtain ⟨r2, e2, hm⟩ := bind_some hm
  refine WL.quiet (Runs.free rfl) rfl rfl (oq_con (r := (.tuple #[(.int .i64 r2.1), (.bool r2.2)])) Tryz.call64 rfl rfl (fun w' s => ⟨_, (journal_find_con p_m p_name ao1 cap1  w' H s.hold h1 hc1 hG r2 e2)⟩)) ?_
  refine wq rfl rfl rfl (ov_move rfl rfl) ?_
  refine wq rfl rfl rfl (ov_extract rfl rfl rfl) ?_
  refine wq rfl rfl rfl (ov_extract rfl rfl rfl) ?_
  refine wq rfl rfl rfl (ov_assign rfl rfl) ?_
  refine wq rfl rfl rfl (ov_assign rfl rfl) ?_
  refine WL.nil (then_normal (WP.seq (WP.block (WP.seq (WP.region ?_)))))
  refine wq rfl rfl rfl (ov_move rfl rfl) ?_
  refine wq rfl rfl rfl (ov_not rfl rfl) ?_
  refine wq rfl rfl rfl (ov_assign rfl rfl) ?_
  refine WL.nil (then_normal ?_)
  refine WP.cond rfl (fun hc3 => ?_) (fun hc3 => ?_)
  ·
   replace hm := ite_t hc3 hm
   refine WP.seq (WP.region ?_)
   refine wq rfl rfl rfl (ov_assign rfl rfl) ?_
   refine wq rfl rfl rfl (ov_assign rfl rfl) ?_
   refine WL.nil (then_normal (WP.ret (block_ret (then_ret ?_))))
   obtain rfl := Option.some.inj hm
   refine retQ_ret Tryz.results27 (Res.tmp rfl (Res.tmp rfl Res.nil)) rfl (fun w' s => ⟨s.below, ?_⟩)
   exact rfl
  ·
   replace hm := ite_f hc3 hm
   refine WP.seq (WP.region ?_)
   refine wq rfl rfl rfl (ov_move rfl rfl) ?_
   obtain ⟨r3, e3, hm⟩ := bind_some hm
   refine WL.quiet (Runs.free rfl) rfl rfl (oq_con (r := (.bool r3)) Tryz.call65 rfl rfl (fun w' s => ⟨_, (journal_in_con p_strokes 1 1048576  w' H s.hold hG r3 e3)⟩)) ?_
   refine wq rfl rfl rfl (ov_not rfl rfl) ?_
   refine wq rfl rfl rfl (ov_assign rfl rfl) ?_
   refine WL.nil (then_normal ?_)
   refine WP.cond rfl (fun hc4 => ?_) (fun hc4 => ?_)
   ·
    replace hm := ite_t hc4 hm
    refine WP.seq (WP.region ?_)
    refine wq rfl rfl rfl (ov_assign rfl rfl) ?_
    refine wq rfl rfl rfl (ov_assign rfl rfl) ?_
    refine WL.nil (then_normal (WP.ret (block_ret (then_ret ?_))))
    obtain rfl := Option.some.inj hm
    refine retQ_ret Tryz.results27 (Res.tmp rfl (Res.tmp rfl Res.nil)) rfl (fun w' s => ⟨s.below, ?_⟩)
    exact rfl
   ·
    replace hm := ite_f hc4 hm
    refine WP.skip (block_normal (then_normal (WP.seq ?_)))
    refine WP.region_draws (by kernel_rfl) (by kernel_rfl) (fun _ s => s.drew) ?_
    refine QL.quiet (Runs.free rfl) rfl rfl (OV.quiet (ov_fieldAddr Tryz.underlying41 rfl rfl rfl Tryz.sizeOf39 rfl rfl)) ?_
    refine QL.quiet (Runs.free rfl) rfl rfl (OV.quiet (ov_load_box (i := 0) Tryz.isAgg39 rfl rfl rfl rfl)) ?_
    refine QL.quiet (Runs.free rfl) rfl rfl (OV.quiet (ov_move rfl rfl)) ?_
    obtain ⟨x1, e4, hm⟩ := bind_some hm
    obtain ⟨h2, h3, h4, cs1, h5, h6⟩ := h1.get e4 (by decide)
    obtain rfl : cs1 = [(mkS x1.name), (.int .i64 x1.life), (.int .i64 x1.used), (.int .i64 x1.faults), (.bool x1.faulty), (.int .i64 x1.since), (.int .i64 x1.cycles)] := h5
    refine QL.quiet (Runs.free rfl) rfl rfl (OV.quiet (ov_indexAddr Tryz.underlying39 Tryz.sizeOf73 rfl rfl rfl h2 h3 h4)) ?_
    refine QL.quiet (Runs.free rfl) rfl rfl (OV.quiet (ov_fieldAddrE Tryz.underlying73 rfl rfl rfl Tryz.sizeOf3 rfl rfl)) ?_
    refine QL.quiet (Runs.free rfl) rfl rfl (OV.quiet (ov_load_elem (v := (.int .i64 x1.life)) Tryz.isAgg3 rfl rfl (h6.one (off := 1) rfl))) ?_
    refine QL.quiet (Runs.free rfl) rfl rfl (OV.quiet (ov_fieldAddr Tryz.underlying41 rfl rfl rfl Tryz.sizeOf39 rfl rfl)) ?_
    refine QL.quiet (Runs.free rfl) rfl rfl (OV.quiet (ov_load_box (i := 0) Tryz.isAgg39 rfl rfl rfl rfl)) ?_
    refine QL.quiet (Runs.free rfl) rfl rfl (OV.quiet (ov_move rfl rfl)) ?_
    obtain ⟨x2, e5, hm⟩ := bind_some hm
    obtain ⟨h7, h8, h9, cs2, h10, h11⟩ := h1.get e5 (by decide)
    obtain rfl : cs2 = [(mkS x2.name), (.int .i64 x2.life), (.int .i64 x2.used), (.int .i64 x2.faults), (.bool x2.faulty), (.int .i64 x2.since), (.int .i64 x2.cycles)] := h10
    refine QL.quiet (Runs.free rfl) rfl rfl (OV.quiet (ov_indexAddr Tryz.underlying39 Tryz.sizeOf73 rfl rfl rfl h7 h8 h9)) ?_
    refine QL.quiet (Runs.free rfl) rfl rfl (OV.quiet (ov_fieldAddrE Tryz.underlying73 rfl rfl rfl Tryz.sizeOf3 rfl rfl)) ?_
    refine QL.quiet (Runs.free rfl) rfl rfl (OV.quiet (ov_load_elem (v := (.int .i64 x2.used)) Tryz.isAgg3 rfl rfl (h11.one (off := 2) rfl))) ?_
    refine QL.quiet (Runs.free rfl) rfl rfl (OV.quiet (ov_sub rfl rfl rfl)) ?_
    refine QL.quiet (Runs.free rfl) rfl rfl (OV.quiet (ov_max rfl rfl rfl)) ?_
    refine QL.quiet (Runs.free rfl) rfl rfl (OV.quiet (ov_assign rfl rfl)) ?_
    refine QL.nil ?_
    refine then_normal (WP.seq (WP.region ?_))
    refine wq rfl rfl rfl (ov_move rfl rfl) ?_
    refine wq rfl rfl rfl (ov_move rfl rfl) ?_
    refine wq rfl rfl rfl (ov_add rfl rfl rfl) ?_
    refine wq rfl rfl rfl (ov_sub rfl rfl rfl) ?_
    refine wq rfl rfl rfl (ov_move rfl rfl) ?_
    obtain ⟨u1, e6, hm⟩ := bind_some hm
    replace e6 := guardO_some e6
    refine wq rfl rfl rfl (ov_quo rfl rfl rfl (by simpa using e6)) ?_
    refine wq rfl rfl rfl (ov_assign rfl rfl) ?_
    refine wq rfl rfl rfl (ov_assign rfl rfl) ?_
    refine WL.nil (then_normal (WP.ret ?_))
    obtain rfl := Option.some.inj hm
    refine retQ_ret Tryz.results27 (Res.tmp rfl (Res.tmp rfl Res.nil)) rfl (fun w' s => ⟨s.below, ?_⟩)
    exact rfl

theorem journal_Due_con (p_m : Machine) (ao1 : Option Addr) (cap1 : Nat) (w : World) (H : Heap) (hH : Le H (hp w)) (h1 : SL H encItem ao1 p_m.items) (hc1 : p_m.items.length ≤ cap1) (hG : Glob H) (r : ((List (List UInt8)) × Int)) (hm : journal_Due p_m = some r) :
  Con Tryz.prog 28 [(.agg #[(.slice ao1 p_m.items.length cap1), (.int .i64 p_m.cycles)])] w H (fun v H' => ∃ (ao2 : Option Addr) (cap2 : Nat), v = (.tuple #[(.slice ao2 r.1.length cap2), (.int .i64 r.2)]) ∧ SL H' encStr ao2 r.1 ∧ r.1.length ≤ cap2) := by
 unfold journal_Due at hm
 refine con_of hH Tryz.func28 rfl 36 Tryz.ntmps28 rfl ?_
 refine WP.seq (WP.region ?_)
 refine WL.step (Runs.free rfl) rfl rfl (os_box (cs := [(.slice ao1 p_m.items.length cap1), (.int .i64 p_m.cycles)]) rfl rfl rfl (fun b1 => ?_))
 refine wq rfl rfl rfl (ov_assign rfl rfl) ?_
 refine wq rfl rfl rfl (ov_assign rfl rfl) ?_
 refine WL.nil (then_normal (WP.seq (WP.seq (WP.region ?_))))
 refine wq rfl rfl rfl (ov_load_whole (i := 0) Tryz.isAgg41 Tryz.sizeOf41 rfl rfl rfl rfl) ?_
 obtain ⟨r1, e1, hm⟩ := bind_some hm
 refine WL.quiet (Runs.free rfl) rfl rfl (oq_con (r := (.int .i64 r1)) Tryz.call63 rfl rfl (fun w' s => ⟨_, (journal_Check_con p_m ao1 cap1  w' H s.hold h1 hc1 hG r1 e1)⟩)) ?_
 refine wq rfl rfl rfl (ov_assign rfl rfl) ?_
 refine WL.nil (then_normal (WP.seq (WP.region ?_)))
 refine wq rfl rfl rfl (ov_move rfl rfl) ?_
 refine wq rfl rfl rfl (ov_neq rfl rfl rfl) ?_
 refine WL.nil (then_normal ?_)
 refine WP.cond rfl (fun hc3 => ?_) (fun hc3 => ?_)
 ·
  replace hm := ite_t hc3 hm
  refine WP.seq (WP.region ?_)
  refine wq rfl rfl rfl (ov_move rfl rfl) ?_
  refine wq rfl rfl rfl (ov_assign rfl rfl) ?_
  refine wq rfl rfl rfl (ov_assign rfl rfl) ?_
  refine WL.nil (then_normal (WP.ret (then_ret ?_)))
  obtain rfl := Option.some.inj hm
  refine retQ_ret Tryz.results28 (Res.tmp rfl (Res.tmp rfl Res.nil)) rfl (fun w' s => ⟨s.below, ?_⟩)
  exact ⟨none, 0, rfl, SL.nil _ _ _, Nat.le_refl _⟩
 ·
  replace hm := ite_f hc3 hm
  refine WP.skip (then_normal (WP.seq (WP.region ?_)))
  refine wq rfl rfl rfl (ov_assign rfl rfl) ?_
  refine WL.nil (then_normal ?_)
  obtain ⟨k1, hk1, hm⟩ := joinK_some hm
  refine WP.seq_join (fun g' S' => ∃ (l4 : (List (List UInt8))) (ao6 : Option Addr) (cap6 : Nat) (xs3 : List Value), RL H encStr l4 xs3 ∧ Sub [(5, (.slice ao6 l4.length cap6)), (1000000007, (.bool false))] g' ∧ (∀ w', S' w' → St w H [.row 9 (encStr).size l4.length (.slice ao6 l4.length cap6) xs3] H w') ∧ k1 l4 = some r) ?_ ?_
  ·
   skip
   refine WP.seq (WP.region ?_)
   refine wq rfl rfl rfl (ov_fieldAddr Tryz.underlying41 rfl rfl rfl Tryz.sizeOf39 rfl rfl) ?_
   refine wq rfl rfl rfl (ov_load_box (i := 0) Tryz.isAgg39 rfl rfl rfl rfl) ?_
   refine wq rfl rfl rfl (ov_len_slice Tryz.underlying39 rfl rfl) ?_
   refine wq rfl rfl rfl (ov_move rfl rfl) ?_
   refine WL.nil (then_normal (WP.block ?_))
   have rl1 := RL.nil (α := (List UInt8)) H encStr
   refine WP.weaken (fun _ s => s.nilrow 9 (encStr).size) ?_
   refine WP.loop (fun m1 g' S' => ∃ (i1 : Int) (l1 : (List (List UInt8))) (ao3 : Option Addr) (cap3 : Nat) (xs1 : List Value), RL H encStr l1 xs1 ∧ Sub [(5, (.slice ao3 l1.length cap3)), (14, (.slice ao1 p_m.items.length cap1)), (15, (.int .i64 (p_m.items.length : Int))), (16, (.int .i64 i1)), (1000000007, (.bool false))] g' ∧ (∀ w', S' w' → St w H [.row 9 (encStr).size l1.length (.slice ao3 l1.length cap3) xs1] H w') ∧ journal_Due_loop1 p_m k1 m1 i1 l1 = some r) ((Int.toNat ((p_m.items.length : Int) - 0) + 1)) ⟨0, ([] : List (List UInt8)), none, 0, [], rl1, (Sub.cons rfl (Sub.cons rfl (Sub.cons rfl (Sub.cons rfl (Sub.cons rfl (Sub.nil _)))))), fun w' s => (s.select [0] (by decide) rfl), hm⟩ ?_ ?_
   ·
    rintro g' S' ⟨_, _, _, _, _, _, _, _, hm⟩
    exact none_some hm
   ·
    rintro m1 g' S' ⟨i1, l1, ao3, cap3, xs1, rl2, hsub1, hS1, hm⟩
    refine WP.sub hsub1 (WP.weaken hS1 ?_)
    rw [journal_Due_loop1] at hm
    refine WP.seq (WP.region ?_)
    refine wq rfl rfl rfl (ov_lss rfl rfl rfl) ?_
    refine WL.nil (then_normal (WP.seq ?_))
    refine WP.cond rfl (fun hc4 => ?_) (fun hc4 => ?_)
    ·
     replace hm := ite_t hc4 hm
     refine WP.skip (then_normal ?_)
     obtain ⟨k2, hk2, hm⟩ := joinK_some hm
     refine WP.seq_join (fun g' S' => ∃ (l3 : (List (List UInt8))) (ao5 : Option Addr) (cap5 : Nat) (xs2 : List Value), RL H encStr l3 xs2 ∧ Sub [(5, (.slice ao5 l3.length cap5)), (14, (.slice ao1 p_m.items.length cap1)), (15, (.int .i64 (p_m.items.length : Int))), (16, (.int .i64 i1)), (1000000007, (.bool false))] g' ∧ (∀ w', S' w' → St w H [.row 9 (encStr).size l3.length (.slice ao5 l3.length cap5) xs2] H w') ∧ k2 l3 = some r) ?_ ?_
     ·
      skip
      refine WP.block (WP.seq (WP.region ?_))
      obtain ⟨x1, e2, hm⟩ := bind_some hm
      obtain ⟨h3, h4, h5, cs1, h6, h7⟩ := h1.get e2 (by decide)
      obtain rfl : cs1 = [(mkS x1.name), (.int .i64 x1.life), (.int .i64 x1.used), (.int .i64 x1.faults), (.bool x1.faulty), (.int .i64 x1.since), (.int .i64 x1.cycles)] := h6
      refine wq rfl rfl rfl (ov_indexAddr Tryz.underlying39 Tryz.sizeOf73 rfl rfl rfl h3 h4 h5) ?_
      refine wq rfl rfl rfl (ov_load_elems (vs := [(mkS x1.name), (.int .i64 x1.life), (.int .i64 x1.used), (.int .i64 x1.faults), (.bool x1.faulty), (.int .i64 x1.since), (.int .i64 x1.cycles)]) Tryz.isAgg73 Tryz.sizeOf73 rfl rfl rfl h7 h5) ?_
      refine WL.step (Runs.free rfl) rfl rfl (os_alloc (cs := [(mkS []), (.int .i64 0), (.int .i64 0), (.int .i64 0), (.bool false), (.int .i64 0), (.int .i64 0)]) Tryz.zeroValue73 rfl rfl (fun b2 => ?_))
      refine WL.step0 (Runs.free rfl) rfl (os_store (i := 0) (vs := [(mkS x1.name), (.int .i64 x1.life), (.int .i64 x1.used), (.int .i64 x1.faults), (.bool x1.faulty), (.int .i64 x1.since), (.int .i64 x1.cycles)]) (cs' := [(mkS x1.name), (.int .i64 x1.life), (.int .i64 x1.used), (.int .i64 x1.faults), (.bool x1.faulty), (.int .i64 x1.since), (.int .i64 x1.cycles)]) Tryz.sizeOf73 rfl rfl rfl rfl rfl rfl rfl rfl rfl ?_)
      refine WL.nil (then_normal (WP.seq (WP.region ?_)))
      refine wq rfl rfl rfl (ov_fieldAddr Tryz.underlying73 rfl rfl rfl Tryz.sizeOf4 rfl rfl) ?_
      refine wq rfl rfl rfl (ov_load_box (i := 0) Tryz.isAgg4 rfl rfl rfl rfl) ?_
      refine wq rfl rfl rfl (ov_move rfl rfl) ?_
      refine WL.cut_bool 6 28 (x := (x1.faulty || (decide (x1.used ≥ x1.life)))) ?_ ?_
      ·
       rcases Bool.eq_false_or_eq_true x1.faulty with hc5 | hc5
       ·
        skip
        refine WL.idle (Idle.no rfl rfl rfl hc5) rfl rfl ?_
        refine WL.idle (Idle.no rfl rfl rfl hc5) rfl rfl ?_
        refine WL.idle (Idle.no rfl rfl rfl hc5) rfl rfl ?_
        refine WL.idle (Idle.no rfl rfl rfl hc5) rfl rfl ?_
        refine WL.idle (Idle.no rfl rfl rfl hc5) rfl rfl ?_
        refine wq rfl rfl rfl (ov_pick_true rfl (guard_eq rfl hc5) rfl) ?_
        exact WL.nil ⟨Sub.cons' rfl (congrArg Value.bool (orT hc5)) (Sub.skip rfl (Sub.skip rfl (Sub.skip rfl (Sub.skip rfl (Sub.skip rfl (Sub.skip rfl (Sub.refl _))))))), fun _ s => s⟩
       ·
        skip
        refine WL.quiet (Runs.yes rfl rfl rfl hc5) rfl rfl (OV.quiet (ov_fieldAddr Tryz.underlying73 rfl rfl rfl Tryz.sizeOf3 rfl rfl)) ?_
        refine WL.quiet (Runs.yes rfl rfl rfl hc5) rfl rfl (OV.quiet (ov_load_box (i := 0) Tryz.isAgg3 rfl rfl rfl rfl)) ?_
        refine WL.quiet (Runs.yes rfl rfl rfl hc5) rfl rfl (OV.quiet (ov_fieldAddr Tryz.underlying73 rfl rfl rfl Tryz.sizeOf3 rfl rfl)) ?_
        refine WL.quiet (Runs.yes rfl rfl rfl hc5) rfl rfl (OV.quiet (ov_load_box (i := 0) Tryz.isAgg3 rfl rfl rfl rfl)) ?_
        refine WL.quiet (Runs.yes rfl rfl rfl hc5) rfl rfl (OV.quiet (ov_geq rfl rfl rfl)) ?_
        refine wq rfl rfl rfl (ov_pick_false rfl (guard_eq rfl hc5) rfl) ?_
        exact WL.nil ⟨Sub.cons' rfl (congrArg Value.bool (orF hc5)) (Sub.skip rfl (Sub.skip rfl (Sub.skip rfl (Sub.skip rfl (Sub.skip rfl (Sub.skip rfl (Sub.refl _))))))), fun _ s => s⟩
      refine WL.nil (then_normal ?_)
      refine WP.cond rfl (fun hc6 => ?_) (fun hc6 => ?_)
      ·
       replace hm := ite_t hc6 hm
       refine WP.region ?_
       refine wq rfl rfl rfl (ov_move rfl rfl) ?_
       refine wq rfl rfl rfl (ov_fieldAddr Tryz.underlying73 rfl rfl rfl Tryz.sizeOf9 rfl rfl) ?_
       refine wq rfl rfl rfl (ov_load_box (i := 0) Tryz.isAgg9 rfl rfl rfl rfl) ?_
       have rl3 : RL H encStr ([x1.name] : List (List UInt8)) [(mkS x1.name)] := RL.cons (cs := [(mkS x1.name)]) (xs := []) rfl (RL.nil _ _)
       refine WL.step (Runs.free rfl) rfl rfl (os_buildSlice (cs := [(mkS x1.name)]) (E := 9) (sz := 1) rfl rfl (fun _ => by kernel_rfl) rfl (by decide) (fun b3 => ?_))
       obtain ⟨l2, e3, hm⟩ := bind_some hm
       refine WL.step (Runs.free rfl) rfl rfl (os_app (i := 2) (j := 0) (En := encStr) (xs := xs1) (ys := [(mkS x1.name)]) Tryz.underlying64 (by kernel_rfl : (Tryz.prog.info? 9).map (fun i => (i.zero, i.size, i.bytes)) = some (some (mkS []), (encStr).size, 16)) rfl (by decide) rfl rfl rfl rfl rfl rfl rl2 rl3 e3 (fun ao4 cap4 rl4 => ?_))
       refine wq rfl rfl rfl (ov_assign rfl rfl) ?_
       refine WL.nil (block_normal (then_normal ?_))
       exact ⟨(l1 ++ ([x1.name] : List (List UInt8))), ao4, cap4, (xs1 ++ [(mkS x1.name)]), rl4, (Sub.cons rfl (Sub.cons rfl (Sub.cons rfl (Sub.cons rfl (Sub.cons rfl (Sub.nil _)))))), fun w' s => (s.select [2] (by decide) rfl), hm⟩
      ·
       replace hm := ite_f hc6 hm
       refine WP.skip (block_normal (then_normal ?_))
       exact ⟨l1, ao3, cap3, xs1, rl2, (Sub.cons rfl (Sub.cons rfl (Sub.cons rfl (Sub.cons rfl (Sub.cons rfl (Sub.nil _)))))), fun w' s => (s.select [1] (by decide) rfl), hm⟩
     ·
      rintro g' S' ⟨l3, ao5, cap5, xs2, rl5, hsub2, hS2, hm⟩
      refine WP.sub hsub2 (WP.weaken hS2 ?_)
      replace hm := (congrFun hk2 l3).symm.trans hm
      refine WP.region ?_
      refine wq rfl rfl rfl (ov_add rfl rfl rfl) ?_
      refine wq rfl rfl rfl (ov_move rfl rfl) ?_
      refine WL.nil (then_normal ?_)
      exact ⟨(IntKind.wrap .i64 (i1 + 1)), l3, ao5, cap5, xs2, rl5, (Sub.cons rfl (Sub.cons rfl (Sub.cons rfl (Sub.cons rfl (Sub.cons rfl (Sub.nil _)))))), fun w' s => s, hm⟩
    ·
     replace hm := ite_f hc4 hm
     refine WP.exit (then_exit (then_exit (block_here (then_normal ?_))))
     exact ⟨l1, ao3, cap3, xs1, rl2, (Sub.cons rfl (Sub.cons rfl (Sub.nil _))), fun w' s => s, hm⟩
  ·
   rintro g' S' ⟨l4, ao6, cap6, xs3, rl6, hsub3, hS3, hm⟩
   refine WP.sub hsub3 (WP.weaken hS3 ?_)
   replace hm := (congrFun hk1 l4).symm.trans hm
   refine WP.seq (WP.region ?_)
   refine wq rfl rfl rfl (ov_move rfl rfl) ?_
   refine wq rfl rfl rfl (ov_assign rfl rfl) ?_
   refine wq rfl rfl rfl (ov_assign rfl rfl) ?_
   refine WL.nil (then_normal (WP.ret ?_))
   obtain rfl := Option.some.inj hm
   refine retQ_ret Tryz.results28 (Res.tmp rfl (Res.tmp rfl Res.nil)) rfl (fun w' s => ⟨s.below, ?_⟩)
   obtain ⟨h8, hc7⟩ := s.ret_row (i := 0) rfl rl6
   exact ⟨ao6, cap6, rfl, h8, hc7⟩

end Go.Proofs.YtpigfknmlmeihaaGreatDoor.W
