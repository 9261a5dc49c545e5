/- The walks. Written by our own program gen.py; Lean checks it. -/
import Derived.Test.YtbiifgojhljkjaaGreatDoorPlain
import Derived.Test.YtbiifgojhljkjaaGreatDoorEqs
import Derived.Test.YtbiifgojhljkjaaGreatDoorProg
import Derived.Test.YtbiifgojhljkjaaGreatDoorExt
import Derived.Test.YtbiifgojhljkjaaGreatDoorClone
import Derived.Test.YtbiifgojhljkjaaGreatDoorWalk0
set_option linter.unusedVariables false
set_option maxRecDepth 100000
set_option maxHeartbeats 4000000
namespace Go.Proofs.YtbiifgojhljkjaaGreatDoor.W
open Go Go.RowKit
theorem stroke_Format_con (p_l : (List Step)) (ao1 : Option Addr) (cap1 : Nat) (w : World) (H : Heap) (hH : Le H (hp w)) (h1 : SL H encStep ao1 p_l) (hc1 : p_l.length ≤ cap1) (hG : Glob H) (r : ((List UInt8) × Int)) (hm : stroke_Format p_l = some r) :
    Con Tryz.prog 10 [(.slice ao1 p_l.length cap1)] w H (fun v _ => v = (.tuple #[(mkS r.1), (.int .i64 r.2)])) := by
  unfold stroke_Format at hm
  refine con_of hH Tryz.func10 rfl 55 Tryz.ntmps10 rfl ?_
  refine WP.seq (WP.region ?_)
  refine wq rfl rfl rfl (ov_assign rfl rfl) ?_
  refine wq rfl rfl rfl (ov_assign rfl rfl) ?_
  refine WL.nil (then_normal (WP.seq (WP.seq (WP.region ?_))))
  refine wq rfl rfl rfl (ov_move rfl rfl) ?_
  refine wq rfl rfl rfl (ov_len_slice Tryz.underlying22 rfl rfl) ?_
  refine wq rfl rfl rfl (ov_gtr rfl rfl rfl) ?_
  refine WL.nil (then_normal ?_)
  refine WP.cond rfl (fun hc2 => ?_) (fun hc2 => ?_)
  · replace hm := ite_t hc2 hm
    refine WP.seq (WP.region ?_)
    refine wq rfl rfl rfl (ov_assign rfl rfl) ?_
    refine wq rfl rfl rfl (ov_assign rfl rfl) ?_
    refine WL.nil (then_normal (WP.ret (then_ret ?_)))
    obtain rfl := Option.some.inj hm
    refine retQ_ret Tryz.results10 (Res.tmp rfl (Res.tmp rfl Res.nil)) rfl (fun w' s => ⟨s.below, ?_⟩)
    exact rfl
  · replace hm := ite_f hc2 hm
    refine WP.skip (then_normal (WP.seq (WP.region ?_)))
    refine wq rfl rfl rfl (ov_assign rfl rfl) ?_
    refine WL.nil (then_normal ?_)
    obtain ⟨k1, hk1, hm⟩ := joinK_some hm
    refine WP.seq_join (fun g' S' => ∃ (l9 : (List (List UInt8))) (ao11 : Option Addr) (cap11 : Nat) (xs6 : List Value), RL H encStr l9 xs6 ∧ Sub [(4, (.slice ao11 l9.length cap11)), (1000000007, (.bool false))] g' ∧ (∀ w', S' w' → St w H [.row 9 (encStr).size l9.length (.slice ao11 l9.length cap11) xs6] H w') ∧ k1 l9 = some r) ?_ ?_
    · skip
      refine WP.seq (WP.region ?_)
      refine wq rfl rfl rfl (ov_move rfl rfl) ?_
      refine wq rfl rfl rfl (ov_len_slice Tryz.underlying22 rfl rfl) ?_
      refine wq rfl rfl rfl (ov_move rfl rfl) ?_
      refine WL.nil (then_normal (WP.block ?_))
      have rl1 := RL.nil (α := (List UInt8)) H encStr
      refine WP.weaken (fun _ s => s.nilrow 9 (encStr).size) ?_
      refine WP.loop (fun m1 g' S' => ∃ (i1 : Int) (l1 : (List (List UInt8))) (ao2 : Option Addr) (cap2 : Nat) (xs1 : List Value), RL H encStr l1 xs1 ∧ Sub [(4, (.slice ao2 l1.length cap2)), (14, (.slice ao1 p_l.length cap1)), (15, (.int .i64 (p_l.length : Int))), (16, (.int .i64 i1)), (1000000007, (.bool false))] g' ∧ (∀ w', S' w' → St w H [.row 9 (encStr).size l1.length (.slice ao2 l1.length cap2) xs1] H w') ∧ stroke_Format_loop1 p_l k1 m1 i1 l1 = some r) ((Int.toNat ((p_l.length : Int) - 0) + 1)) ⟨0, ([] : List (List UInt8)), none, 0, [], rl1, (Sub.cons rfl (Sub.cons rfl (Sub.cons rfl (Sub.cons rfl (Sub.cons rfl (Sub.nil _)))))), fun w' s => s, hm⟩ ?_ ?_
      · rintro g' S' ⟨_, _, _, _, _, _, _, _, hm⟩
        exact none_some hm
      · rintro m1 g' S' ⟨i1, l1, ao2, cap2, xs1, rl2, hsub1, hS1, hm⟩
        refine WP.sub hsub1 (WP.weaken hS1 ?_)
        rw [stroke_Format_loop1] at hm
        refine WP.seq (WP.region ?_)
        refine wq rfl rfl rfl (ov_lss rfl rfl rfl) ?_
        refine WL.nil (then_normal (WP.seq ?_))
        refine WP.cond rfl (fun hc3 => ?_) (fun hc3 => ?_)
        · replace hm := ite_t hc3 hm
          refine WP.skip (then_normal ?_)
          obtain ⟨k2, hk2, hm⟩ := joinK_some hm
          refine WP.seq_join (fun g' S' => ∃ (l8 : (List (List UInt8))) (ao10 : Option Addr) (cap10 : Nat) (xs5 : List Value), RL H encStr l8 xs5 ∧ Sub [(4, (.slice ao10 l8.length cap10)), (14, (.slice ao1 p_l.length cap1)), (15, (.int .i64 (p_l.length : Int))), (16, (.int .i64 i1)), (1000000007, (.bool false))] g' ∧ (∀ w', S' w' → St w H [.row 9 (encStr).size l8.length (.slice ao10 l8.length cap10) xs5] H w') ∧ k2 l8 = some r) ?_ ?_
          · skip
            refine WP.block (WP.seq (WP.region ?_))
            obtain ⟨x1, e1, hm⟩ := bind_some hm
            obtain ⟨h3, h4, h5, cs1, h6, h7⟩ := h1.get e1 (by decide)
            obtain ⟨ao3, cap3, rfl, h2, hc4⟩ := h6
            refine wq rfl rfl rfl (ov_indexAddr Tryz.underlying22 Tryz.sizeOf26 rfl rfl rfl h3 h4 h5) ?_
            refine wq rfl rfl rfl (ov_load_elems (vs := [(.slice ao3 x1.strokes.length cap3), (.int .i64 x1.wait)]) Tryz.isAgg26 Tryz.sizeOf26 rfl rfl rfl h7 h5) ?_
            refine WL.step (Runs.free rfl) rfl rfl (os_alloc (cs := [(.slice none 0 0), (.int .i64 0)]) Tryz.zeroValue26 rfl rfl (fun b1 => ?_))
            refine WL.step0 (Runs.free rfl) rfl (os_store (i := 0) (vs := [(.slice ao3 x1.strokes.length cap3), (.int .i64 x1.wait)]) (cs' := [(.slice ao3 x1.strokes.length cap3), (.int .i64 x1.wait)]) Tryz.sizeOf26 rfl rfl rfl rfl rfl rfl rfl rfl rfl ?_)
            refine WL.nil (then_normal (WP.seq (WP.seq (WP.region ?_))))
            refine wq rfl rfl rfl (ov_load_whole (i := 0) Tryz.isAgg26 Tryz.sizeOf26 rfl rfl rfl rfl) ?_
            obtain ⟨r1, e2, hm⟩ := bind_some hm
            refine WL.quiet (Runs.free rfl) rfl rfl (oq_con (r := (.int .i64 r1)) Tryz.call17 rfl rfl (fun w' s => ⟨_, (stroke_CheckStep_con x1 ao3 cap3  w' H s.hold h2 hc4 hG r1 e2)⟩)) ?_
            refine wq rfl rfl rfl (ov_assign rfl rfl) ?_
            refine WL.nil (then_normal (WP.seq (WP.region ?_)))
            refine wq rfl rfl rfl (ov_move rfl rfl) ?_
            refine wq rfl rfl rfl (ov_neq rfl rfl rfl) ?_
            refine WL.nil (then_normal ?_)
            refine WP.cond rfl (fun hc5 => ?_) (fun hc5 => ?_)
            · replace hm := ite_t hc5 hm
              refine WP.seq (WP.region ?_)
              refine wq rfl rfl rfl (ov_move rfl rfl) ?_
              refine wq rfl rfl rfl (ov_assign rfl rfl) ?_
              refine wq rfl rfl rfl (ov_assign rfl rfl) ?_
              refine WL.nil (then_normal (WP.ret (then_ret (block_ret (then_ret (then_ret (block_ret (then_ret ?_))))))))
              obtain rfl := Option.some.inj hm
              refine retQ_ret Tryz.results10 (Res.tmp rfl (Res.tmp rfl Res.nil)) rfl (fun w' s => ⟨s.below, ?_⟩)
              exact rfl
            · replace hm := ite_f hc5 hm
              refine WP.skip (then_normal (WP.seq (WP.region ?_)))
              refine wq rfl rfl rfl (ov_assign rfl rfl) ?_
              refine WL.nil (then_normal ?_)
              obtain ⟨k3, hk3, hm⟩ := joinK_some hm
              refine WP.seq_join (fun g' S' => ∃ (l4 : (List (List UInt8))) (ao6 : Option Addr) (cap6 : Nat) (xs3 : List Value), RL H encStr l4 xs3 ∧ Sub [(4, (.slice ao2 l1.length cap2)), (6, (pB b1 0)), (8, (.slice ao6 l4.length cap6)), (14, (.slice ao1 p_l.length cap1)), (15, (.int .i64 (p_l.length : Int))), (16, (.int .i64 i1)), (1000000007, (.bool false))] g' ∧ (∀ w', S' w' → St w H [.row 9 (encStr).size l4.length (.slice ao6 l4.length cap6) xs3, .blk b1 26 [(.slice ao3 x1.strokes.length cap3), (.int .i64 x1.wait)], .row 9 (encStr).size l1.length (.slice ao2 l1.length cap2) xs1] H w') ∧ k3 l4 = some r) ?_ ?_
              · skip
                refine WP.seq (WP.region ?_)
                refine wq rfl rfl rfl (ov_fieldAddr Tryz.underlying26 rfl rfl rfl Tryz.sizeOf24 rfl rfl) ?_
                refine wq rfl rfl rfl (ov_load_box (i := 0) Tryz.isAgg24 rfl rfl rfl rfl) ?_
                refine wq rfl rfl rfl (ov_len_slice Tryz.underlying24 rfl rfl) ?_
                refine wq rfl rfl rfl (ov_move rfl rfl) ?_
                refine WL.nil (then_normal (WP.block ?_))
                have rl3 := RL.nil (α := (List UInt8)) H encStr
                refine WP.weaken (fun _ s => s.nilrow 9 (encStr).size) ?_
                refine WP.loop (fun m2 g' S' => ∃ (i2 : Int) (l2 : (List (List UInt8))) (ao4 : Option Addr) (cap4 : Nat) (xs2 : List Value), RL H encStr l2 xs2 ∧ Sub [(4, (.slice ao2 l1.length cap2)), (6, (pB b1 0)), (8, (.slice ao4 l2.length cap4)), (14, (.slice ao1 p_l.length cap1)), (15, (.int .i64 (p_l.length : Int))), (16, (.int .i64 i1)), (26, (.slice ao3 x1.strokes.length cap3)), (27, (.int .i64 (x1.strokes.length : Int))), (28, (.int .i64 i2)), (1000000007, (.bool false))] g' ∧ (∀ w', S' w' → St w H [.row 9 (encStr).size l2.length (.slice ao4 l2.length cap4) xs2, .blk b1 26 [(.slice ao3 x1.strokes.length cap3), (.int .i64 x1.wait)], .row 9 (encStr).size l1.length (.slice ao2 l1.length cap2) xs1] H w') ∧ stroke_Format_loop2 x1 k3 m2 i2 l2 = some r) ((Int.toNat ((x1.strokes.length : Int) - 0) + 1)) ⟨0, ([] : List (List UInt8)), none, 0, [], rl3, (Sub.cons rfl (Sub.cons rfl (Sub.cons rfl (Sub.cons rfl (Sub.cons rfl (Sub.cons rfl (Sub.cons rfl (Sub.cons rfl (Sub.cons rfl (Sub.cons rfl (Sub.nil _))))))))))), fun w' s => s, hm⟩ ?_ ?_
                · rintro g' S' ⟨_, _, _, _, _, _, _, _, hm⟩
                  exact none_some hm
                · rintro m2 g' S' ⟨i2, l2, ao4, cap4, xs2, rl4, hsub2, hS2, hm⟩
                  refine WP.sub hsub2 (WP.weaken hS2 ?_)
                  rw [stroke_Format_loop2] at hm
                  refine WP.seq (WP.region ?_)
                  refine wq rfl rfl rfl (ov_lss rfl rfl rfl) ?_
                  refine WL.nil (then_normal (WP.seq ?_))
                  refine WP.cond rfl (fun hc6 => ?_) (fun hc6 => ?_)
                  · replace hm := ite_t hc6 hm
                    refine WP.skip (then_normal (WP.seq (WP.block (WP.seq (WP.region ?_)))))
                    obtain ⟨x2, e3, hm⟩ := bind_some hm
                    obtain ⟨h8, h9, h10, cs2, h11, h12⟩ := h2.get e3 (by decide)
                    obtain rfl : cs2 = [(.int .i64 x2.actuator), (.bool x2.out)] := h11
                    refine wq rfl rfl rfl (ov_indexAddr Tryz.underlying24 Tryz.sizeOf53 rfl rfl rfl h8 h9 h10) ?_
                    refine wq rfl rfl rfl (ov_load_elems (vs := [(.int .i64 x2.actuator), (.bool x2.out)]) Tryz.isAgg53 Tryz.sizeOf53 rfl rfl rfl h12 h10) ?_
                    refine WL.step (Runs.free rfl) rfl rfl (os_alloc (cs := [(.int .i64 0), (.bool false)]) Tryz.zeroValue53 rfl rfl (fun b2 => ?_))
                    refine WL.step0 (Runs.free rfl) rfl (os_store (i := 0) (vs := [(.int .i64 x2.actuator), (.bool x2.out)]) (cs' := [(.int .i64 x2.actuator), (.bool x2.out)]) Tryz.sizeOf53 rfl rfl rfl rfl rfl rfl rfl rfl rfl ?_)
                    refine WL.nil (then_normal (WP.region ?_))
                    refine wq rfl rfl rfl (ov_move rfl rfl) ?_
                    refine wq rfl rfl rfl (ov_load_whole (i := 0) Tryz.isAgg53 Tryz.sizeOf53 rfl rfl rfl rfl) ?_
                    obtain ⟨r2, e4, hm⟩ := bind_some hm
                    refine WL.quiet (Runs.free rfl) rfl rfl (oq_con (r := (mkS r2)) Tryz.call24 rfl rfl (fun w' s => ⟨_, (stroke_written_con x2  w' H s.hold hG r2 e4)⟩)) ?_
                    have rl5 : RL H encStr ([r2] : List (List UInt8)) [(mkS r2)] := RL.cons (cs := [(mkS r2)]) (xs := []) rfl (RL.nil _ _)
                    refine WL.step (Runs.free rfl) rfl rfl (os_buildSlice (cs := [(mkS r2)]) (E := 9) (sz := 1) rfl rfl (fun _ => by kernel_rfl) rfl (by decide) (fun b3 => ?_))
                    obtain ⟨l3, e5, hm⟩ := bind_some hm
                    refine WL.step (Runs.free rfl) rfl rfl (os_app (i := 2) (j := 0) (En := encStr) (xs := xs2) (ys := [(mkS r2)]) Tryz.underlying59 (by kernel_rfl : (Tryz.prog.info? 9).map (fun i => (i.zero, i.size, i.bytes)) = some (some (mkS []), (encStr).size, 16)) rfl (by decide) rfl rfl rfl rfl rfl rfl rl4 rl5 e5 (fun ao5 cap5 rl6 => ?_))
                    refine wq rfl rfl rfl (ov_assign rfl rfl) ?_
                    refine WL.nil (block_normal (then_normal (WP.region ?_)))
                    refine wq rfl rfl rfl (ov_add rfl rfl rfl) ?_
                    refine wq rfl rfl rfl (ov_move rfl rfl) ?_
                    refine WL.nil (then_normal ?_)
                    exact ⟨(IntKind.wrap .i64 (i2 + 1)), (l2 ++ ([r2] : List (List UInt8))), ao5, cap5, (xs2 ++ [(mkS r2)]), rl6, (Sub.cons rfl (Sub.cons rfl (Sub.cons rfl (Sub.cons rfl (Sub.cons rfl (Sub.cons rfl (Sub.cons rfl (Sub.cons rfl (Sub.cons rfl (Sub.cons rfl (Sub.nil _))))))))))), fun w' s => (s.select [2, 3, 4] (by decide) rfl), hm⟩
                  · replace hm := ite_f hc6 hm
                    refine WP.exit (then_exit (then_exit (block_here (then_normal ?_))))
                    exact ⟨l2, ao4, cap4, xs2, rl4, (Sub.cons rfl (Sub.cons rfl (Sub.cons rfl (Sub.cons rfl (Sub.cons rfl (Sub.cons rfl (Sub.cons rfl (Sub.nil _)))))))), fun w' s => s, hm⟩
              · rintro g' S' ⟨l4, ao6, cap6, xs3, rl7, hsub3, hS3, hm⟩
                refine WP.sub hsub3 (WP.weaken hS3 ?_)
                replace hm := (congrFun hk3 l4).symm.trans hm
                obtain ⟨k4, hk4, hm⟩ := joinK_some hm
                refine WP.seq_join (fun g' S' => ∃ (l6 : (List (List UInt8))) (ao8 : Option Addr) (cap8 : Nat) (xs4 : List Value), RL H encStr l6 xs4 ∧ Sub [(4, (.slice ao2 l1.length cap2)), (8, (.slice ao8 l6.length cap8)), (14, (.slice ao1 p_l.length cap1)), (15, (.int .i64 (p_l.length : Int))), (16, (.int .i64 i1)), (1000000007, (.bool false))] g' ∧ (∀ w', S' w' → St w H [.row 9 (encStr).size l6.length (.slice ao8 l6.length cap8) xs4, .row 9 (encStr).size l1.length (.slice ao2 l1.length cap2) xs1] H w') ∧ k4 l6 = some r) ?_ ?_
                · skip
                  refine WP.seq (WP.region ?_)
                  refine wq rfl rfl rfl (ov_fieldAddr Tryz.underlying26 rfl rfl rfl Tryz.sizeOf3 rfl rfl) ?_
                  refine wq rfl rfl rfl (ov_load_box (i := 1) Tryz.isAgg3 rfl rfl rfl rfl) ?_
                  refine wq rfl rfl rfl (ov_gtr rfl rfl rfl) ?_
                  refine WL.nil (then_normal ?_)
                  refine WP.cond rfl (fun hc7 => ?_) (fun hc7 => ?_)
                  · replace hm := ite_t hc7 hm
                    refine WP.region ?_
                    refine wq rfl rfl rfl (ov_move rfl rfl) ?_
                    refine wq rfl rfl rfl (ov_fieldAddr Tryz.underlying26 rfl rfl rfl Tryz.sizeOf3 rfl rfl) ?_
                    refine wq rfl rfl rfl (ov_load_box (i := 1) Tryz.isAgg3 rfl rfl rfl rfl) ?_
                    obtain ⟨r3, e6, hm⟩ := bind_some hm
                    refine WL.quiet (Runs.free rfl) rfl rfl (oq_con (r := (mkS r3)) Tryz.call25 rfl rfl (fun w' s => ⟨_, (itoa_con x1.wait  w' H s.hold hG r3 e6)⟩)) ?_
                    have rl8 : RL H encStr ([r3] : List (List UInt8)) [(mkS r3)] := RL.cons (cs := [(mkS r3)]) (xs := []) rfl (RL.nil _ _)
                    refine WL.step (Runs.free rfl) rfl rfl (os_buildSlice (cs := [(mkS r3)]) (E := 9) (sz := 1) rfl rfl (fun _ => by kernel_rfl) rfl (by decide) (fun b4 => ?_))
                    obtain ⟨l5, e7, hm⟩ := bind_some hm
                    refine WL.step (Runs.free rfl) rfl rfl (os_app (i := 1) (j := 0) (En := encStr) (xs := xs3) (ys := [(mkS r3)]) Tryz.underlying59 (by kernel_rfl : (Tryz.prog.info? 9).map (fun i => (i.zero, i.size, i.bytes)) = some (some (mkS []), (encStr).size, 16)) rfl (by decide) rfl rfl rfl rfl rfl rfl rl7 rl8 e7 (fun ao7 cap7 rl9 => ?_))
                    refine wq rfl rfl rfl (ov_assign rfl rfl) ?_
                    refine WL.nil (then_normal ?_)
                    exact ⟨(l4 ++ ([r3] : List (List UInt8))), ao7, cap7, (xs3 ++ [(mkS r3)]), rl9, (Sub.cons rfl (Sub.cons rfl (Sub.cons rfl (Sub.cons rfl (Sub.cons rfl (Sub.cons rfl (Sub.nil _))))))), fun w' s => (s.select [1, 3] (by decide) rfl), hm⟩
                  · replace hm := ite_f hc7 hm
                    refine WP.skip (then_normal ?_)
                    exact ⟨l4, ao6, cap6, xs3, rl7, (Sub.cons rfl (Sub.cons rfl (Sub.cons rfl (Sub.cons rfl (Sub.cons rfl (Sub.cons rfl (Sub.nil _))))))), fun w' s => (s.select [0, 2] (by decide) rfl), hm⟩
                · rintro g' S' ⟨l6, ao8, cap8, xs4, rl10, hsub4, hS4, hm⟩
                  refine WP.sub hsub4 (WP.weaken hS4 ?_)
                  replace hm := (congrFun hk4 l6).symm.trans hm
                  refine WP.region ?_
                  refine wq rfl rfl rfl (ov_move rfl rfl) ?_
                  refine wq rfl rfl rfl (ov_move rfl rfl) ?_
                  obtain ⟨r4, e8, hm⟩ := bind_some hm
                  refine WL.quiet (Runs.free rfl) rfl rfl (oq_con (r := (mkS r4)) Tryz.call26 rfl rfl (fun w' s => ⟨_, (joinS_con l6 [32] ao8 cap8 w' (hp w') (Le.refl _) (s.row_arg (i := 0) rfl rl10).1 (s.row_arg (i := 0) rfl rl10).2 (hG.mono s.hold) r4 e8)⟩)) ?_
                  have rl11 : RL H encStr ([r4] : List (List UInt8)) [(mkS r4)] := RL.cons (cs := [(mkS r4)]) (xs := []) rfl (RL.nil _ _)
                  refine WL.step (Runs.free rfl) rfl rfl (os_buildSlice (cs := [(mkS r4)]) (E := 9) (sz := 1) rfl rfl (fun _ => by kernel_rfl) rfl (by decide) (fun b5 => ?_))
                  obtain ⟨l7, e9, hm⟩ := bind_some hm
                  refine WL.step (Runs.free rfl) rfl rfl (os_app (i := 2) (j := 0) (En := encStr) (xs := xs1) (ys := [(mkS r4)]) Tryz.underlying59 (by kernel_rfl : (Tryz.prog.info? 9).map (fun i => (i.zero, i.size, i.bytes)) = some (some (mkS []), (encStr).size, 16)) rfl (by decide) rfl rfl rfl rfl rfl rfl rl2 rl11 e9 (fun ao9 cap9 rl12 => ?_))
                  refine wq rfl rfl rfl (ov_assign rfl rfl) ?_
                  refine WL.nil (block_normal (then_normal ?_))
                  exact ⟨(l1 ++ ([r4] : List (List UInt8))), ao9, cap9, (xs1 ++ [(mkS r4)]), rl12, (Sub.cons rfl (Sub.cons rfl (Sub.cons rfl (Sub.cons rfl (Sub.cons rfl (Sub.nil _)))))), fun w' s => (s.select [2] (by decide) rfl), hm⟩
          · rintro g' S' ⟨l8, ao10, cap10, xs5, rl13, hsub5, hS5, hm⟩
            refine WP.sub hsub5 (WP.weaken hS5 ?_)
            replace hm := (congrFun hk2 l8).symm.trans hm
            refine WP.region ?_
            refine wq rfl rfl rfl (ov_add rfl rfl rfl) ?_
            refine wq rfl rfl rfl (ov_move rfl rfl) ?_
            refine WL.nil (then_normal ?_)
            exact ⟨(IntKind.wrap .i64 (i1 + 1)), l8, ao10, cap10, xs5, rl13, (Sub.cons rfl (Sub.cons rfl (Sub.cons rfl (Sub.cons rfl (Sub.cons rfl (Sub.nil _)))))), fun w' s => s, hm⟩
        · replace hm := ite_f hc3 hm
          refine WP.exit (then_exit (then_exit (block_here (then_normal ?_))))
          exact ⟨l1, ao2, cap2, xs1, rl2, (Sub.cons rfl (Sub.cons rfl (Sub.nil _))), fun w' s => s, hm⟩
    · rintro g' S' ⟨l9, ao11, cap11, xs6, rl14, hsub6, hS6, hm⟩
      refine WP.sub hsub6 (WP.weaken hS6 ?_)
      replace hm := (congrFun hk1 l9).symm.trans hm
      refine WP.seq (WP.region ?_)
      refine wq rfl rfl rfl (ov_move rfl rfl) ?_
      obtain ⟨r5, e10, hm⟩ := bind_some hm
      refine WL.quiet (Runs.free rfl) rfl rfl (oq_con (r := (mkS r5)) Tryz.call26 rfl rfl (fun w' s => ⟨_, (joinS_con l9 [59, 32] ao11 cap11 w' (hp w') (Le.refl _) (s.row_arg (i := 0) rfl rl14).1 (s.row_arg (i := 0) rfl rl14).2 (hG.mono s.hold) r5 e10)⟩)) ?_
      refine wq rfl rfl rfl (ov_assign rfl rfl) ?_
      refine wq rfl rfl rfl (ov_assign rfl rfl) ?_
      refine WL.nil (then_normal (WP.ret ?_))
      obtain rfl := Option.some.inj hm
      refine retQ_ret Tryz.results10 (Res.tmp rfl (Res.tmp rfl Res.nil)) rfl (fun w' s => ⟨s.below, ?_⟩)
      exact rfl

theorem stroke_read_con (p_s : (List UInt8)) (w : World) (H : Heap) (hH : Le H (hp w)) (hG : Glob H) (r : (Stroke × Bool)) (hm : stroke_read p_s = some r) :
    Con Tryz.prog 49 [(mkS p_s)] w H (fun v _ => v = (.tuple #[(.agg #[(.int .i64 r.1.actuator), (.bool r.1.out)]), (.bool r.2)])) := by
  unfold stroke_read at hm
  refine con_of hH Tryz.func49 rfl 39 Tryz.ntmps49 rfl ?_
  refine WP.seq (WP.region ?_)
  refine WL.step (Runs.free rfl) rfl rfl (os_alloc (cs := [(.int .i64 0), (.bool false)]) Tryz.zeroValue53 rfl rfl (fun b1 => ?_))
  refine wq rfl rfl rfl (ov_assign rfl rfl) ?_
  refine WL.nil (then_normal (WP.seq (WP.seq (WP.region ?_))))
  refine wq rfl rfl rfl (ov_move rfl rfl) ?_
  refine wq rfl rfl rfl (ov_len_string Tryz.underlying9 rfl rfl) ?_
  refine wq rfl rfl rfl (ov_neq rfl rfl rfl) ?_
  refine wq rfl rfl rfl (ov_move rfl rfl) ?_
  obtain ⟨c1, e1, hm⟩ := bind_some hm
  refine WL.cut_bool 4 11 (x := c1) ?_ ?_
  · rcases Bool.eq_false_or_eq_true ((p_s.length : Int) != 2) with hc1 | hc1
    · skip
      replace hm := ite_t hc1 e1
      refine WL.idle (Idle.no rfl rfl rfl hc1) rfl rfl ?_
      refine WL.idle (Idle.no rfl rfl rfl hc1) rfl rfl ?_
      refine WL.idle (Idle.no rfl rfl rfl hc1) rfl rfl ?_
      refine wq rfl rfl rfl (ov_pick_true rfl (guard_eq rfl hc1) rfl) ?_
      exact WL.nil ⟨Sub.cons' rfl (congrArg Value.bool (Option.some.inj hm)) (Sub.skip rfl (Sub.skip rfl (Sub.skip rfl (Sub.skip rfl (Sub.refl _))))), fun _ s => s⟩
    · skip
      replace hm := ite_f hc1 e1
      refine WL.quiet (Runs.yes rfl rfl rfl hc1) rfl rfl (OV.quiet (ov_move rfl rfl)) ?_
      obtain ⟨b2, e2, hm⟩ := bind_some hm
      refine WL.quiet (Runs.yes rfl rfl rfl hc1) rfl rfl (OV.quiet (ov_index_string Tryz.underlying9 rfl rfl rfl e2)) ?_
      refine WL.quiet (Runs.yes rfl rfl rfl hc1) rfl rfl (OV.quiet (ov_lss rfl rfl rfl)) ?_
      refine wq rfl rfl rfl (ov_pick_false rfl (guard_eq rfl hc1) rfl) ?_
      exact WL.nil ⟨Sub.cons' rfl (congrArg Value.bool (Option.some.inj hm)) (Sub.skip rfl (Sub.skip rfl (Sub.skip rfl (Sub.skip rfl (Sub.refl _))))), fun _ s => s⟩
  refine wq rfl rfl rfl (ov_move rfl rfl) ?_
  obtain ⟨c2, e3, hm⟩ := bind_some hm
  refine WL.cut_bool 7 19 (x := c2) ?_ ?_
  · rcases Bool.eq_false_or_eq_true c1 with hc2 | hc2
    · skip
      replace hm := ite_t hc2 e3
      refine WL.idle (Idle.no rfl rfl rfl hc2) rfl rfl ?_
      refine WL.idle (Idle.no rfl rfl rfl hc2) rfl rfl ?_
      refine WL.idle (Idle.no rfl rfl rfl hc2) rfl rfl ?_
      refine WL.idle (Idle.no rfl rfl rfl hc2) rfl rfl ?_
      refine WL.idle (Idle.no rfl rfl rfl hc2) rfl rfl ?_
      refine WL.idle (Idle.no rfl rfl rfl hc2) rfl rfl ?_
      refine wq rfl rfl rfl (ov_pick_true rfl (guard_eq rfl hc2) rfl) ?_
      exact WL.nil ⟨Sub.cons' rfl (congrArg Value.bool (Option.some.inj hm)) (Sub.skip rfl (Sub.skip rfl (Sub.skip rfl (Sub.skip rfl (Sub.skip rfl (Sub.skip rfl (Sub.skip rfl (Sub.refl _)))))))), fun _ s => s⟩
    · skip
      replace hm := ite_f hc2 e3
      refine WL.quiet (Runs.yes rfl rfl rfl hc2) rfl rfl (OV.quiet (ov_move rfl rfl)) ?_
      obtain ⟨b3, e4, hm⟩ := bind_some hm
      refine WL.quiet (Runs.yes rfl rfl rfl hc2) rfl rfl (OV.quiet (ov_index_string Tryz.underlying9 rfl rfl rfl e4)) ?_
      refine WL.quiet (Runs.yes rfl rfl rfl hc2) rfl rfl (OV.quiet (ov_sub rfl rfl rfl)) ?_
      refine WL.quiet (Runs.yes rfl rfl rfl hc2) rfl rfl (OV.quiet (ov_convert_int Tryz.underlying5 Tryz.underlying3 rfl rfl)) ?_
      obtain ⟨r1, e5, hm⟩ := bind_some hm
      refine WL.quiet (Runs.yes rfl rfl rfl hc2) rfl rfl (oq_con (r := (.bool r1)) Tryz.call33 rfl rfl (fun w' s => ⟨_, (stroke_known_con (IntKind.wrap .i64 (IntKind.wrap .u8 ((b3.toNat : Int) - 65)))  w' H s.hold hG r1 e5)⟩)) ?_
      refine WL.quiet (Runs.yes rfl rfl rfl hc2) rfl rfl (OV.quiet (ov_not rfl rfl)) ?_
      refine wq rfl rfl rfl (ov_pick_false rfl (guard_eq rfl hc2) rfl) ?_
      exact WL.nil ⟨Sub.cons' rfl (congrArg Value.bool (Option.some.inj hm)) (Sub.skip rfl (Sub.skip rfl (Sub.skip rfl (Sub.skip rfl (Sub.skip rfl (Sub.skip rfl (Sub.skip rfl (Sub.refl _)))))))), fun _ s => s⟩
  refine wq rfl rfl rfl (ov_move rfl rfl) ?_
  obtain ⟨c3, e6, hm⟩ := bind_some hm
  refine WL.cut_bool 9 29 (x := c3) ?_ ?_
  · rcases Bool.eq_false_or_eq_true c2 with hc3 | hc3
    · skip
      replace hm := ite_t hc3 e6
      refine WL.idle (Idle.no rfl rfl rfl hc3) rfl rfl ?_
      refine WL.idle (Idle.no rfl rfl rfl hc3) rfl rfl ?_
      refine WL.idle (Idle.no rfl rfl rfl hc3) rfl rfl ?_
      refine WL.idle (Idle.no rfl rfl rfl hc3) rfl rfl ?_
      refine WL.idle (Idle.undef rfl rfl rfl) rfl rfl ?_
      refine WL.idle (Idle.undef rfl rfl rfl) rfl rfl ?_
      refine WL.idle (Idle.undef rfl rfl rfl) rfl rfl ?_
      refine WL.idle (Idle.no rfl rfl rfl hc3) rfl rfl ?_
      refine wq rfl rfl rfl (ov_pick_true rfl (guard_eq rfl hc3) rfl) ?_
      exact WL.nil ⟨Sub.cons' rfl (congrArg Value.bool (Option.some.inj hm)) (Sub.skip rfl (Sub.skip rfl (Sub.skip rfl (Sub.skip rfl (Sub.skip rfl (Sub.skip rfl (Sub.skip rfl (Sub.skip rfl (Sub.skip rfl (Sub.refl _)))))))))), fun _ s => s⟩
    · skip
      replace hm := ite_f hc3 e6
      refine WL.quiet (Runs.yes rfl rfl rfl hc3) rfl rfl (OV.quiet (ov_move rfl rfl)) ?_
      obtain ⟨b4, e7, hm⟩ := bind_some hm
      refine WL.quiet (Runs.yes rfl rfl rfl hc3) rfl rfl (OV.quiet (ov_index_string Tryz.underlying9 rfl rfl rfl e7)) ?_
      refine WL.quiet (Runs.yes rfl rfl rfl hc3) rfl rfl (OV.quiet (ov_neq rfl rfl rfl)) ?_
      refine WL.quiet (Runs.yes rfl rfl rfl hc3) rfl rfl (OV.quiet (ov_move rfl rfl)) ?_
      obtain ⟨c4, e8, hm⟩ := bind_some hm
      refine WL.cut_bool 4 28 (x := c4) ?_ ?_
      · rcases Bool.eq_false_or_eq_true ((b4.toNat : Int) != 43) with hc4 | hc4
        · skip
          replace hm := ite_t hc4 e8
          refine WL.quiet (Runs.yes rfl rfl rfl hc4) rfl rfl (OV.quiet (ov_move rfl rfl)) ?_
          obtain ⟨b5, e9, hm⟩ := bind_some hm
          refine WL.quiet (Runs.yes rfl rfl rfl hc4) rfl rfl (OV.quiet (ov_index_string Tryz.underlying9 rfl rfl rfl e9)) ?_
          refine WL.quiet (Runs.yes rfl rfl rfl hc4) rfl rfl (OV.quiet (ov_neq rfl rfl rfl)) ?_
          refine WL.quiet (Runs.yes rfl rfl rfl hc3) rfl rfl (OV.quiet (ov_pick_true rfl (guard_eq rfl hc4) rfl)) ?_
          exact WL.nil ⟨Sub.cons' rfl (congrArg Value.bool (Option.some.inj hm)) (Sub.skip rfl (Sub.skip rfl (Sub.skip rfl (Sub.skip rfl (Sub.refl _))))), fun _ s => s⟩
        · skip
          replace hm := ite_f hc4 e8
          refine WL.idle (Idle.no rfl rfl rfl hc4) rfl rfl ?_
          refine WL.idle (Idle.no rfl rfl rfl hc4) rfl rfl ?_
          refine WL.idle (Idle.no rfl rfl rfl hc4) rfl rfl ?_
          refine WL.quiet (Runs.yes rfl rfl rfl hc3) rfl rfl (OV.quiet (ov_pick_false rfl (guard_eq rfl hc4) rfl)) ?_
          exact WL.nil ⟨Sub.cons' rfl (congrArg Value.bool (Option.some.inj hm)) (Sub.skip rfl (Sub.skip rfl (Sub.skip rfl (Sub.skip rfl (Sub.refl _))))), fun _ s => s⟩
      refine wq rfl rfl rfl (ov_pick_false rfl (guard_eq rfl hc3) rfl) ?_
      exact WL.nil ⟨Sub.cons' rfl (congrArg Value.bool (Option.some.inj hm)) (Sub.skip rfl (Sub.skip rfl (Sub.skip rfl (Sub.skip rfl (Sub.skip rfl (Sub.skip rfl (Sub.refl _))))))), fun _ s => s⟩
  refine WL.nil (then_normal ?_)
  refine WP.cond rfl (fun hc5 => ?_) (fun hc5 => ?_)
  · replace hm := ite_t hc5 hm
    refine WP.seq (WP.region ?_)
    refine wq rfl rfl rfl (ov_build (r := (.agg #[(.int .i64 0), (.bool false)])) rfl rfl (fun _ => by kernel_rfl)) ?_
    refine WL.step0 (Runs.free rfl) rfl (os_store (i := 0) (vs := [(.int .i64 0), (.bool false)]) (cs' := [(.int .i64 0), (.bool false)]) Tryz.sizeOf53 rfl rfl rfl rfl rfl rfl rfl rfl rfl ?_)
    refine wq rfl rfl rfl (ov_assign rfl rfl) ?_
    refine WL.nil (then_normal (WP.ret (then_ret ?_)))
    obtain rfl := Option.some.inj hm
    refine retQ_ret Tryz.results49 (Res.cell rfl (box_loads (i := 0) Tryz.isAgg53 Tryz.sizeOf53 rfl rfl) (Res.tmp rfl Res.nil)) rfl (fun w' s => ⟨s.below, ?_⟩)
    exact rfl
  · replace hm := ite_f hc5 hm
    refine WP.skip (then_normal (WP.seq ?_))
    refine WP.region_any (S₀ := St w H [] H) 10 rfl (by kernel_rfl) (fun w' s => (s.select [] (by decide) rfl)) (fun _ s => s.drew) ?_
    refine tq (i := 0) rfl (by kernel_rfl) rfl rfl rfl (ov_move rfl rfl) ?_
    obtain ⟨b6, e10, hm⟩ := bind_some hm
    refine tq (i := 1) rfl (by kernel_rfl) rfl rfl rfl (ov_index_string Tryz.underlying9 rfl rfl rfl e10) ?_
    refine tq (i := 2) rfl (by kernel_rfl) rfl rfl rfl (ov_sub rfl rfl rfl) ?_
    refine tq (i := 3) rfl (by kernel_rfl) rfl rfl rfl (ov_convert_int Tryz.underlying5 Tryz.underlying3 rfl rfl) ?_
    refine tq (i := 4) rfl (by kernel_rfl) rfl rfl rfl (ov_move rfl rfl) ?_
    obtain ⟨b7, e11, hm⟩ := bind_some hm
    refine tq (i := 5) rfl (by kernel_rfl) rfl rfl rfl (ov_index_string Tryz.underlying9 rfl rfl rfl e11) ?_
    refine tq (i := 6) rfl (by kernel_rfl) rfl rfl rfl (ov_eql rfl rfl rfl) ?_
    refine tq (i := 7) rfl (by kernel_rfl) rfl rfl rfl (ov_build (r := (.agg #[(.int .i64 (IntKind.wrap .i64 (IntKind.wrap .u8 ((b6.toNat : Int) - 65)))), (.bool ((b7.toNat : Int) == 43))])) rfl rfl (fun _ => by kernel_rfl)) ?_
    refine AL.any (rs := [8]) (by kernel_rfl) (by decide) ?_
    refine ALs.cons0 (i := 8) rfl (Runs.free rfl) rfl ?_ ?_
    · skip
      refine os_store (i := 0) (vs := [(.int .i64 (IntKind.wrap .i64 (IntKind.wrap .u8 ((b6.toNat : Int) - 65)))), (.bool ((b7.toNat : Int) == 43))]) (cs' := [(.int .i64 (IntKind.wrap .i64 (IntKind.wrap .u8 ((b6.toNat : Int) - 65)))), (.bool ((b7.toNat : Int) == 43))]) Tryz.sizeOf53 rfl rfl rfl rfl rfl rfl rfl rfl rfl ?_
      refine ⟨fun w' s => (s.select [] (by decide) rfl), ?_⟩
      refine tq (i := 9) rfl (by kernel_rfl) rfl rfl rfl (ov_assign rfl rfl) ?_
      refine AL.done (by kernel_rfl) ?_
      refine then_normal (WP.ret ?_)
      obtain rfl := Option.some.inj hm
      refine retQ_ret Tryz.results49 (Res.cell rfl (box_loads (i := 0) Tryz.isAgg53 Tryz.sizeOf53 rfl rfl) (Res.tmp rfl Res.nil)) rfl (fun w' s => ⟨s.below, ?_⟩)
      exact rfl
    exact ALs.nil

theorem stroke_delay_con (p_s : (List UInt8)) (w : World) (H : Heap) (hH : Le H (hp w)) (hG : Glob H) (r : (Int × Bool)) (hm : stroke_delay p_s = some r) :
    Con Tryz.prog 50 [(mkS p_s)] w H (fun v _ => v = (.tuple #[(.int .i64 r.1), (.bool r.2)])) := by
  unfold stroke_delay at hm
  refine con_of hH Tryz.func50 rfl 31 Tryz.ntmps50 rfl ?_
  refine WP.seq (WP.region ?_)
  refine wq rfl rfl rfl (ov_assign rfl rfl) ?_
  refine wq rfl rfl rfl (ov_assign rfl rfl) ?_
  refine WL.nil (then_normal (WP.seq (WP.seq (WP.region ?_))))
  refine wq rfl rfl rfl (ov_move rfl rfl) ?_
  refine wq rfl rfl rfl (ov_seql rfl rfl rfl) ?_
  refine wq rfl rfl rfl (ov_move rfl rfl) ?_
  refine WL.cut_bool 4 12 (x := ((p_s == []) || (decide ((p_s.length : Int) > 7)))) ?_ ?_
  · rcases Bool.eq_false_or_eq_true (p_s == []) with hc1 | hc1
    · skip
      refine WL.idle (Idle.no rfl rfl rfl hc1) rfl rfl ?_
      refine WL.idle (Idle.no rfl rfl rfl hc1) rfl rfl ?_
      refine WL.idle (Idle.no rfl rfl rfl hc1) rfl rfl ?_
      refine wq rfl rfl rfl (ov_pick_true rfl (guard_eq rfl hc1) rfl) ?_
      exact WL.nil ⟨Sub.cons' rfl (congrArg Value.bool (orT hc1)) (Sub.skip rfl (Sub.skip rfl (Sub.skip rfl (Sub.skip rfl (Sub.refl _))))), fun _ s => s⟩
    · skip
      refine WL.quiet (Runs.yes rfl rfl rfl hc1) rfl rfl (OV.quiet (ov_move rfl rfl)) ?_
      refine WL.quiet (Runs.yes rfl rfl rfl hc1) rfl rfl (OV.quiet (ov_len_string Tryz.underlying9 rfl rfl)) ?_
      refine WL.quiet (Runs.yes rfl rfl rfl hc1) rfl rfl (OV.quiet (ov_gtr rfl rfl rfl)) ?_
      refine wq rfl rfl rfl (ov_pick_false rfl (guard_eq rfl hc1) rfl) ?_
      exact WL.nil ⟨Sub.cons' rfl (congrArg Value.bool (orF hc1)) (Sub.skip rfl (Sub.skip rfl (Sub.skip rfl (Sub.skip rfl (Sub.refl _))))), fun _ s => s⟩
  refine wq rfl rfl rfl (ov_move rfl rfl) ?_
  obtain ⟨c1, e1, hm⟩ := bind_some hm
  refine WL.cut_bool 4 17 (x := c1) ?_ ?_
  · rcases Bool.eq_false_or_eq_true ((p_s == []) || (decide ((p_s.length : Int) > 7))) with hc2 | hc2
    · skip
      replace hm := ite_t hc2 e1
      refine WL.idle (Idle.no rfl rfl rfl hc2) rfl rfl ?_
      refine WL.idle (Idle.no rfl rfl rfl hc2) rfl rfl ?_
      refine WL.idle (Idle.no rfl rfl rfl hc2) rfl rfl ?_
      refine wq rfl rfl rfl (ov_pick_true rfl (guard_eq rfl hc2) rfl) ?_
      exact WL.nil ⟨Sub.cons' rfl (congrArg Value.bool (Option.some.inj hm)) (Sub.skip rfl (Sub.skip rfl (Sub.skip rfl (Sub.skip rfl (Sub.refl _))))), fun _ s => s⟩
    · skip
      replace hm := ite_f hc2 e1
      refine WL.quiet (Runs.yes rfl rfl rfl hc2) rfl rfl (OV.quiet (ov_move rfl rfl)) ?_
      obtain ⟨b1, e2, hm⟩ := bind_some hm
      refine WL.quiet (Runs.yes rfl rfl rfl hc2) rfl rfl (OV.quiet (ov_index_string Tryz.underlying9 rfl rfl rfl e2)) ?_
      refine WL.quiet (Runs.yes rfl rfl rfl hc2) rfl rfl (OV.quiet (ov_eql rfl rfl rfl)) ?_
      refine wq rfl rfl rfl (ov_pick_false rfl (guard_eq rfl hc2) rfl) ?_
      exact WL.nil ⟨Sub.cons' rfl (congrArg Value.bool (Option.some.inj hm)) (Sub.skip rfl (Sub.skip rfl (Sub.skip rfl (Sub.skip rfl (Sub.refl _))))), fun _ s => s⟩
  refine wq rfl rfl rfl (ov_move rfl rfl) ?_
  obtain ⟨c2, e3, hm⟩ := bind_some hm
  refine WL.cut_bool 4 22 (x := c2) ?_ ?_
  · rcases Bool.eq_false_or_eq_true c1 with hc3 | hc3
    · skip
      replace hm := ite_t hc3 e3
      refine WL.idle (Idle.no rfl rfl rfl hc3) rfl rfl ?_
      refine WL.idle (Idle.no rfl rfl rfl hc3) rfl rfl ?_
      refine WL.idle (Idle.no rfl rfl rfl hc3) rfl rfl ?_
      refine wq rfl rfl rfl (ov_pick_true rfl (guard_eq rfl hc3) rfl) ?_
      exact WL.nil ⟨Sub.cons' rfl (congrArg Value.bool (Option.some.inj hm)) (Sub.skip rfl (Sub.skip rfl (Sub.skip rfl (Sub.skip rfl (Sub.refl _))))), fun _ s => s⟩
    · skip
      replace hm := ite_f hc3 e3
      refine WL.quiet (Runs.yes rfl rfl rfl hc3) rfl rfl (OV.quiet (ov_move rfl rfl)) ?_
      obtain ⟨r1, e4, hm⟩ := bind_some hm
      refine WL.quiet (Runs.yes rfl rfl rfl hc3) rfl rfl (oq_con (r := (mkS r1)) Tryz.call61 rfl rfl (fun w' s => ⟨_, (trimS_con p_s [48, 49, 50, 51, 52, 53, 54, 55, 56, 57]  w' H s.hold hG r1 e4)⟩)) ?_
      refine WL.quiet (Runs.yes rfl rfl rfl hc3) rfl rfl (OV.quiet (ov_sneq rfl rfl rfl)) ?_
      refine wq rfl rfl rfl (ov_pick_false rfl (guard_eq rfl hc3) rfl) ?_
      exact WL.nil ⟨Sub.cons' rfl (congrArg Value.bool (Option.some.inj hm)) (Sub.skip rfl (Sub.skip rfl (Sub.skip rfl (Sub.skip rfl (Sub.refl _))))), fun _ s => s⟩
  refine WL.nil (then_normal ?_)
  refine WP.cond rfl (fun hc4 => ?_) (fun hc4 => ?_)
  · replace hm := ite_t hc4 hm
    refine WP.seq (WP.region ?_)
    refine wq rfl rfl rfl (ov_assign rfl rfl) ?_
    refine wq rfl rfl rfl (ov_assign rfl rfl) ?_
    refine WL.nil (then_normal (WP.ret (then_ret ?_)))
    obtain rfl := Option.some.inj hm
    refine retQ_ret Tryz.results50 (Res.tmp rfl (Res.tmp rfl Res.nil)) rfl (fun w' s => ⟨s.below, ?_⟩)
    exact rfl
  · replace hm := ite_f hc4 hm
    refine WP.skip (then_normal (WP.seq (WP.region ?_)))
    refine wq rfl rfl rfl (ov_move rfl rfl) ?_
    obtain ⟨r2, e5, hm⟩ := bind_some hm
    refine WL.quiet (Runs.free rfl) rfl rfl (oq_con (r := (.tuple #[(.int .i64 r2.1), .nilIface])) Tryz.call62 rfl rfl (fun w' s => ⟨_, (strconv_Atoi_con p_s  w' H s.hold hG r2 e5)⟩)) ?_
    refine wq rfl rfl rfl (ov_move rfl rfl) ?_
    refine wq rfl rfl rfl (ov_extract rfl rfl rfl) ?_
    refine wq rfl rfl rfl (ov_extract rfl rfl rfl) ?_
    refine wq rfl rfl rfl (ov_assign rfl rfl) ?_
    refine wq rfl rfl rfl (ov_assign rfl rfl) ?_
    refine WL.nil (then_normal (WP.seq ?_))
    refine WP.region_draws (by kernel_rfl) (by kernel_rfl) (fun _ s => s.drew) ?_
    refine QL.quiet (Runs.free rfl) rfl rfl (OV.quiet (ov_move rfl rfl)) ?_
    refine QL.quiet (Runs.free rfl) rfl rfl (OV.quiet (ov_move rfl rfl)) ?_
    refine QL.quiet (Runs.free rfl) rfl rfl (OV.quiet (ov_eql_nilI (by kernel_rfl) rfl rfl rfl)) ?_
    refine QL.quiet (Runs.free rfl) rfl rfl (OV.quiet (ov_assign rfl rfl)) ?_
    refine QL.quiet (Runs.free rfl) rfl rfl (OV.quiet (ov_assign rfl rfl)) ?_
    refine QL.nil ?_
    refine then_normal (WP.ret ?_)
    obtain rfl := Option.some.inj hm
    refine retQ_ret Tryz.results50 (Res.tmp rfl (Res.tmp rfl Res.nil)) rfl (fun w' s => ⟨s.below, ?_⟩)
    exact rfl

theorem stroke_step_con (p_s : (List UInt8)) (w : World) (H : Heap) (hH : Le H (hp w)) (hG : Glob H) (r : (Step × Int)) (hm : stroke_step p_s = some r) :
    Con Tryz.prog 30 [(mkS p_s)] w H (fun v H' => ∃ (ao1 : Option Addr) (cap1 : Nat), v = (.tuple #[(.agg #[(.slice ao1 r.1.strokes.length cap1), (.int .i64 r.1.wait)]), (.int .i64 r.2)]) ∧ SL H' encStroke ao1 r.1.strokes ∧ r.1.strokes.length ≤ cap1) := by
  unfold stroke_step at hm
  refine con_of hH Tryz.func30 rfl 58 Tryz.ntmps30 rfl ?_
  refine WP.seq (WP.region ?_)
  refine WL.step (Runs.free rfl) rfl rfl (os_box (cs := [(mkS p_s)]) rfl rfl rfl (fun b1 => ?_))
  refine WL.step (Runs.free rfl) rfl rfl (os_alloc (cs := [(.slice none 0 0), (.int .i64 0)]) Tryz.zeroValue26 rfl rfl (fun b2 => ?_))
  refine WL.step (Runs.free rfl) rfl rfl (os_alloc (cs := [(.int .i64 0)]) Tryz.zeroValue30 rfl rfl (fun b3 => ?_))
  refine WL.nil (then_normal (WP.seq (WP.region ?_)))
  refine WL.step (Runs.free rfl) rfl rfl (os_alloc (cs := [(.slice none 0 0), (.int .i64 0)]) Tryz.zeroValue26 rfl rfl (fun b4 => ?_))
  refine WL.nil (then_normal (WP.seq (WP.seq (WP.region ?_))))
  refine wq rfl rfl rfl (ov_load_box (i := 3) Tryz.isAgg9 rfl rfl rfl rfl) ?_
  refine WL.step (Runs.free rfl) rfl rfl (os_inline (cap := []) (vs := [(mkS p_s), (mkS [32])]) Tryz.call29 rfl rfl rfl Tryz.func29 rfl 6 Tryz.ntmps29 rfl (fun w' s => ?_))
  refine WP.seq (WP.region ?_)
  refine WL.step (Runs.free rfl) rfl rfl (os_box (cs := [(mkS p_s)]) rfl rfl rfl (fun b5 => ?_))
  refine WL.step (Runs.free rfl) rfl rfl (os_box (cs := [(mkS [32])]) rfl rfl rfl (fun b6 => ?_))
  refine wq rfl rfl rfl (ov_assign rfl rfl) ?_
  refine WL.nil (then_normal (WP.seq (WP.region ?_)))
  refine wq rfl rfl rfl (ov_makeFunc' (first := []) rfl rfl rfl) ?_
  refine wq rfl rfl rfl (ov_assign rfl rfl) ?_
  refine WL.nil (then_normal (WP.ret ?_))
  refine retQ_ret (v := (.func (.func 47) #[] #[(pB b5 0), (pB b6 0)])) Tryz.results29 (Res.tmp rfl Res.nil) rfl (fun w' s => ⟨_, ?_, s⟩)
  refine WL.nil (then_normal (WP.block ?_))
  refine WP.range (ps := [13, 14]) (cap := [(pB b5 0), (pB b6 0)]) Tryz.call47 rfl Tryz.func47 rfl 28 Tryz.ntmps47 rfl (fun l1 D1 R1 hr1 => ?_)
  refine WP.seq (WP.region ?_)
  refine wq rfl rfl rfl (ov_assign rfl rfl) ?_
  refine WL.nil (then_normal (WP.seq (WP.region ?_)))
  refine wq rfl rfl rfl (ov_load_box (i := 3) Tryz.isAgg9 rfl rfl rfl rfl) ?_
  refine wq rfl rfl rfl (ov_load_box (i := 2) Tryz.isAgg9 rfl rfl rfl rfl) ?_
  obtain ⟨r1, e1, hm⟩ := bind_some hm
  refine WL.step (Runs.free rfl) rfl rfl (os_con Tryz.call48 rfl rfl (fun w' s => (splitS_con p_s [32]  w' H s.hold hG r1 e1)) (fun rr1 H1 hle1 hR1 => ?_))
  replace hG := hG.mono hle1
  obtain ⟨ao2, cap2, rfl, h2, hc2⟩ := hR1
  refine wq rfl rfl rfl (ov_len_slice Tryz.underlying59 rfl rfl) ?_
  refine wq rfl rfl rfl (ov_move rfl rfl) ?_
  refine WL.nil (then_normal (WP.block ?_))
  have rl1 := RL.nil (α := Stroke) H1 encStroke
  refine WP.weaken (fun _ s => s.nilrow 53 (encStroke).size) ?_
  refine WP.loop (fun m1 g' S' => ∃ (i1 : Int) (i2 : Int) (i3 : Int) (l2 : (List Stroke)) (ao3 : Option Addr) (cap3 : Nat) (xs1 : List Value), RL H1 encStroke l2 xs1 ∧ Sub [(0, (.func (.yield l1) #[] #[])), (2, (pB b6 0)), (4, (.int .i64 i1)), (9, (.slice ao2 r1.length cap2)), (10, (.int .i64 (r1.length : Int))), (11, (.int .i64 i2)), (1000000007, (.bool false))] g' ∧ (∀ w', S' w' → St w H [.row 53 (encStroke).size l2.length (.slice ao3 l2.length cap3) xs1, .obj l1 (R1 .ready none), .obj D1 (.deferred (some [])), .blk b6 9 [(mkS [32])], .blk b5 9 [(mkS p_s)], .blk b4 26 [(.slice ao3 l2.length cap3), (.int .i64 i3)], .blk b3 30 [(.int .i64 0)], .blk b2 26 [(.slice none 0 0), (.int .i64 0)], .blk b1 9 [(mkS p_s)]] H1 w') ∧ stroke_step_loop1 p_s r1 m1 i1 i2 i3 l2 = some r) ((Int.toNat ((r1.length : Int) - 0) + 1)) ⟨0, 0, 0, ([] : List Stroke), none, 0, [], rl1, (Sub.cons rfl (Sub.cons rfl (Sub.cons rfl (Sub.cons rfl (Sub.cons rfl (Sub.cons rfl (Sub.cons rfl (Sub.nil _)))))))), fun w' s => s, hm⟩ ?_ ?_
  · rintro g' S' ⟨_, _, _, _, _, _, _, _, _, _, hm⟩
    exact none_some hm
  · rintro m1 g' S' ⟨i1, i2, i3, l2, ao3, cap3, xs1, rl2, hsub1, hS1, hm⟩
    refine WP.sub hsub1 (WP.weaken hS1 ?_)
    rw [stroke_step_loop1] at hm
    refine WP.seq (WP.region ?_)
    refine wq rfl rfl rfl (ov_lss rfl rfl rfl) ?_
    refine WL.nil (then_normal (WP.seq ?_))
    refine WP.cond rfl (fun hc3 => ?_) (fun hc3 => ?_)
    · replace hm := ite_t hc3 hm
      refine WP.skip (then_normal (WP.seq (WP.block (WP.seq (WP.region ?_)))))
      obtain ⟨x1, e2, hm⟩ := bind_some hm
      obtain ⟨h3, h4, h5, cs1, h6, h7⟩ := h2.get e2 (by decide)
      obtain rfl : cs1 = [(mkS x1)] := h6
      refine wq rfl rfl rfl (ov_indexAddr Tryz.underlying59 Tryz.sizeOf9 rfl rfl rfl h3 h4 h5) ?_
      refine wq rfl rfl rfl (ov_load_elem (v := (mkS x1)) Tryz.isAgg9 rfl rfl h7) ?_
      refine wq rfl rfl rfl (ov_assign rfl rfl) ?_
      refine WL.nil (then_normal (WP.seq (WP.seq (WP.region ?_))))
      refine wq rfl rfl rfl (ov_move rfl rfl) ?_
      refine wq rfl rfl rfl (ov_move rfl rfl) ?_
      refine wq rfl rfl rfl (ov_move rfl rfl) ?_
      refine WL.yield (i := 1) (vs := [(.int .i64 i1), (mkS x1)]) (Runs.free rfl) rfl rfl rfl rfl rfl hr1 rfl rfl rfl ?_
      refine WP.seq (WP.region ?_)
      refine wq rfl rfl rfl (ov_assign rfl rfl) ?_
      refine WL.nil (then_normal (WP.region ?_))
      refine wq rfl rfl rfl (ov_assign rfl rfl) ?_
      refine WL.nil (then_normal ?_)
      refine begin_of (i := 1) rfl ?_
      obtain ⟨k1, hk1, hm⟩ := joinK_some hm
      refine WP.join_normal (fun g' S' => ∃ (i4 : Int) (l4 : (List Stroke)) (ao5 : Option Addr) (cap5 : Nat) (xs2 : List Value), RL H1 encStroke l4 xs2 ∧ Sub [(1000000007, (.bool false))] g' ∧ (∀ w', S' w' → St w H [.row 53 (encStroke).size l4.length (.slice ao5 l4.length cap5) xs2, .obj l1 (R1 .busy none), .obj D1 (.deferred (some [])), .blk b6 9 [(mkS [32])], .blk b5 9 [(mkS p_s)], .blk b4 26 [(.slice ao5 l4.length cap5), (.int .i64 i4)], .blk b3 30 [(.int .i64 0)], .blk b2 26 [(.slice none 0 0), (.int .i64 0)], .blk b1 9 [(mkS p_s)]] H1 w') ∧ k1 i4 l4 = some r) ?_ ?_
      · skip
        refine WP.block (WP.seq (WP.seq (WP.region ?_)))
        refine wq rfl rfl rfl (ov_move rfl rfl) ?_
        obtain ⟨r2, e3, hm⟩ := bind_some hm
        refine WL.quiet (Runs.free rfl) rfl rfl (oq_con (r := (.tuple #[(.agg #[(.int .i64 r2.1.actuator), (.bool r2.1.out)]), (.bool r2.2)])) Tryz.call49 rfl rfl (fun w' s => ⟨_, (stroke_read_con x1  w' H1 s.hold hG r2 e3)⟩)) ?_
        refine wq rfl rfl rfl (ov_move rfl rfl) ?_
        refine wq rfl rfl rfl (ov_extract rfl rfl rfl) ?_
        refine wq rfl rfl rfl (ov_extract rfl rfl rfl) ?_
        refine WL.step (Runs.free rfl) rfl rfl (os_alloc (cs := [(.int .i64 0), (.bool false)]) Tryz.zeroValue53 rfl rfl (fun b7 => ?_))
        refine WL.step0 (Runs.free rfl) rfl (os_store (i := 0) (vs := [(.int .i64 r2.1.actuator), (.bool r2.1.out)]) (cs' := [(.int .i64 r2.1.actuator), (.bool r2.1.out)]) Tryz.sizeOf53 rfl rfl rfl rfl rfl rfl rfl rfl rfl ?_)
        refine wq rfl rfl rfl (ov_assign rfl rfl) ?_
        refine WL.nil (then_normal (WP.seq (WP.region ?_)))
        refine wq rfl rfl rfl (ov_move rfl rfl) ?_
        refine wq rfl rfl rfl (ov_move rfl rfl) ?_
        refine WL.cut_bool 4 25 (x := (r2.2 && (i3 == 0))) ?_ ?_
        · rcases Bool.eq_false_or_eq_true r2.2 with hc4 | hc4
          · skip
            refine WL.quiet (Runs.yes rfl rfl rfl hc4) rfl rfl (OV.quiet (ov_fieldAddr Tryz.underlying26 rfl rfl rfl Tryz.sizeOf3 rfl rfl)) ?_
            refine WL.quiet (Runs.yes rfl rfl rfl hc4) rfl rfl (OV.quiet (ov_load_box (i := 6) Tryz.isAgg3 rfl rfl rfl rfl)) ?_
            refine WL.quiet (Runs.yes rfl rfl rfl hc4) rfl rfl (OV.quiet (ov_eql rfl rfl rfl)) ?_
            refine wq rfl rfl rfl (ov_pick_true rfl (guard_eq rfl hc4) rfl) ?_
            exact WL.nil ⟨Sub.cons' rfl (congrArg Value.bool (andT hc4)) (Sub.skip rfl (Sub.skip rfl (Sub.skip rfl (Sub.skip rfl (Sub.refl _))))), fun _ s => s⟩
          · skip
            refine WL.idle (Idle.no rfl rfl rfl hc4) rfl rfl ?_
            refine WL.idle (Idle.no rfl rfl rfl hc4) rfl rfl ?_
            refine WL.idle (Idle.no rfl rfl rfl hc4) rfl rfl ?_
            refine wq rfl rfl rfl (ov_pick_false rfl (guard_eq rfl hc4) rfl) ?_
            exact WL.nil ⟨Sub.cons' rfl (congrArg Value.bool (andF hc4)) (Sub.skip rfl (Sub.skip rfl (Sub.skip rfl (Sub.skip rfl (Sub.refl _))))), fun _ s => s⟩
        refine WL.nil (then_normal ?_)
        refine WP.cond rfl (fun hc5 => ?_) (fun hc5 => ?_)
        · replace hm := ite_t hc5 hm
          refine WP.seq (WP.region ?_)
          refine wq rfl rfl rfl (ov_fieldAddr Tryz.underlying26 rfl rfl rfl Tryz.sizeOf24 rfl rfl) ?_
          refine wq rfl rfl rfl (ov_load_box (i := 6) Tryz.isAgg24 rfl rfl rfl rfl) ?_
          refine wq rfl rfl rfl (ov_load_whole (i := 0) Tryz.isAgg53 Tryz.sizeOf53 rfl rfl rfl rfl) ?_
          have rl3 : RL H1 encStroke ([r2.1] : List Stroke) [(.int .i64 r2.1.actuator), (.bool r2.1.out)] := RL.cons (cs := [(.int .i64 r2.1.actuator), (.bool r2.1.out)]) (xs := []) rfl (RL.nil _ _)
          refine WL.step (Runs.free rfl) rfl rfl (os_buildSlice (cs := [(.int .i64 r2.1.actuator), (.bool r2.1.out)]) (E := 53) (sz := 2) rfl rfl (fun _ => by kernel_rfl) rfl (by decide) (fun b8 => ?_))
          obtain ⟨l3, e4, hm⟩ := bind_some hm
          refine WL.step (Runs.free rfl) rfl rfl (os_app (i := 2) (j := 0) (En := encStroke) (xs := xs1) (ys := [(.int .i64 r2.1.actuator), (.bool r2.1.out)]) Tryz.underlying24 (by kernel_rfl : (Tryz.prog.info? 53).map (fun i => (i.zero, i.size, i.bytes)) = some (some (.agg #[(.int .i64 0), (.bool false)]), (encStroke).size, 16)) rfl (by decide) rfl rfl rfl rfl rfl rfl rl2 rl3 e4 (fun ao4 cap4 rl4 => ?_))
          refine wq rfl rfl rfl (ov_fieldAddr Tryz.underlying26 rfl rfl rfl Tryz.sizeOf24 rfl rfl) ?_
          refine WL.step0 (Runs.free rfl) rfl (os_store (i := 7) (vs := [(.slice ao4 (l2 ++ ([r2.1] : List Stroke)).length cap4)]) (cs' := [(.slice ao4 (l2 ++ ([r2.1] : List Stroke)).length cap4), (.int .i64 i3)]) Tryz.sizeOf24 rfl rfl rfl rfl rfl rfl rfl rfl rfl ?_)
          refine WL.nil (then_normal (WP.exit (then_exit (block_here (then_normal ?_)))))
          exact ⟨i3, (l2 ++ ([r2.1] : List Stroke)), ao4, cap4, (xs1 ++ [(.int .i64 r2.1.actuator), (.bool r2.1.out)]), rl4, (Sub.cons rfl (Sub.nil _)), fun w' s => (s.select [2, 3, 4, 5, 6, 7, 8, 9, 10] (by decide) rfl), hm⟩
        · replace hm := ite_f hc5 hm
          refine WP.skip (then_normal (WP.seq (WP.region ?_)))
          refine wq rfl rfl rfl (ov_move rfl rfl) ?_
          obtain ⟨r3, e5, hm⟩ := bind_some hm
          refine WL.quiet (Runs.free rfl) rfl rfl (oq_con (r := (.tuple #[(.int .i64 r3.1), (.bool r3.2)])) Tryz.call50 rfl rfl (fun w' s => ⟨_, (stroke_delay_con x1  w' H1 s.hold hG r3 e5)⟩)) ?_
          refine wq rfl rfl rfl (ov_move rfl rfl) ?_
          refine wq rfl rfl rfl (ov_extract rfl rfl rfl) ?_
          refine wq rfl rfl rfl (ov_extract rfl rfl rfl) ?_
          refine wq rfl rfl rfl (ov_assign rfl rfl) ?_
          refine wq rfl rfl rfl (ov_assign rfl rfl) ?_
          refine WL.nil (then_normal (WP.seq (WP.seq (WP.region ?_))))
          refine wq rfl rfl rfl (ov_move rfl rfl) ?_
          refine wq rfl rfl rfl (ov_not rfl rfl) ?_
          refine wq rfl rfl rfl (ov_move rfl rfl) ?_
          refine WL.cut_bool 3 42 (x := ((!r3.2) || (i1 == 0))) ?_ ?_
          · rcases Bool.eq_false_or_eq_true (!r3.2) with hc6 | hc6
            · skip
              refine WL.idle (Idle.no rfl rfl rfl hc6) rfl rfl ?_
              refine WL.idle (Idle.no rfl rfl rfl hc6) rfl rfl ?_
              refine wq rfl rfl rfl (ov_pick_true rfl (guard_eq rfl hc6) rfl) ?_
              exact WL.nil ⟨Sub.cons' rfl (congrArg Value.bool (orT hc6)) (Sub.skip rfl (Sub.skip rfl (Sub.skip rfl (Sub.refl _)))), fun _ s => s⟩
            · skip
              refine WL.quiet (Runs.yes rfl rfl rfl hc6) rfl rfl (OV.quiet (ov_move rfl rfl)) ?_
              refine WL.quiet (Runs.yes rfl rfl rfl hc6) rfl rfl (OV.quiet (ov_eql rfl rfl rfl)) ?_
              refine wq rfl rfl rfl (ov_pick_false rfl (guard_eq rfl hc6) rfl) ?_
              exact WL.nil ⟨Sub.cons' rfl (congrArg Value.bool (orF hc6)) (Sub.skip rfl (Sub.skip rfl (Sub.skip rfl (Sub.refl _)))), fun _ s => s⟩
          refine wq rfl rfl rfl (ov_move rfl rfl) ?_
          refine WL.cut_bool 8 51 (x := (((!r3.2) || (i1 == 0)) || (decide ((IntKind.wrap .i64 (i1 + (x1.length : Int))) < (p_s.length : Int))))) ?_ ?_
          · rcases Bool.eq_false_or_eq_true ((!r3.2) || (i1 == 0)) with hc7 | hc7
            · skip
              refine WL.idle (Idle.no rfl rfl rfl hc7) rfl rfl ?_
              refine WL.idle (Idle.no rfl rfl rfl hc7) rfl rfl ?_
              refine WL.idle (Idle.no rfl rfl rfl hc7) rfl rfl ?_
              refine WL.idle (Idle.no rfl rfl rfl hc7) rfl rfl ?_
              refine WL.idle (Idle.no rfl rfl rfl hc7) rfl rfl ?_
              refine WL.idle (Idle.no rfl rfl rfl hc7) rfl rfl ?_
              refine WL.idle (Idle.no rfl rfl rfl hc7) rfl rfl ?_
              refine wq rfl rfl rfl (ov_pick_true rfl (guard_eq rfl hc7) rfl) ?_
              exact WL.nil ⟨Sub.cons' rfl (congrArg Value.bool (orT hc7)) (Sub.skip rfl (Sub.skip rfl (Sub.skip rfl (Sub.skip rfl (Sub.skip rfl (Sub.skip rfl (Sub.skip rfl (Sub.skip rfl (Sub.refl _))))))))), fun _ s => s⟩
            · skip
              refine WL.quiet (Runs.yes rfl rfl rfl hc7) rfl rfl (OV.quiet (ov_move rfl rfl)) ?_
              refine WL.quiet (Runs.yes rfl rfl rfl hc7) rfl rfl (OV.quiet (ov_move rfl rfl)) ?_
              refine WL.quiet (Runs.yes rfl rfl rfl hc7) rfl rfl (OV.quiet (ov_len_string Tryz.underlying9 rfl rfl)) ?_
              refine WL.quiet (Runs.yes rfl rfl rfl hc7) rfl rfl (OV.quiet (ov_add rfl rfl rfl)) ?_
              refine WL.quiet (Runs.yes rfl rfl rfl hc7) rfl rfl (OV.quiet (ov_load_box (i := 9) Tryz.isAgg9 rfl rfl rfl rfl)) ?_
              refine WL.quiet (Runs.yes rfl rfl rfl hc7) rfl rfl (OV.quiet (ov_len_string Tryz.underlying9 rfl rfl)) ?_
              refine WL.quiet (Runs.yes rfl rfl rfl hc7) rfl rfl (OV.quiet (ov_lss rfl rfl rfl)) ?_
              refine wq rfl rfl rfl (ov_pick_false rfl (guard_eq rfl hc7) rfl) ?_
              exact WL.nil ⟨Sub.cons' rfl (congrArg Value.bool (orF hc7)) (Sub.skip rfl (Sub.skip rfl (Sub.skip rfl (Sub.skip rfl (Sub.skip rfl (Sub.skip rfl (Sub.skip rfl (Sub.skip rfl (Sub.refl _))))))))), fun _ s => s⟩
          refine WL.nil (then_normal ?_)
          refine WP.cond rfl (fun hc8 => ?_) (fun hc8 => ?_)
          · replace hm := ite_t hc8 hm
            refine WP.seq (WP.region ?_)
            refine wq rfl rfl rfl (ov_build (r := (.agg #[(.slice none 0 0), (.int .i64 0)])) rfl rfl (fun _ => by kernel_rfl)) ?_
            refine WL.step0 (Runs.free rfl) rfl (os_store (i := 8) (vs := [(.slice none 0 0), (.int .i64 0)]) (cs' := [(.slice none 0 0), (.int .i64 0)]) Tryz.sizeOf26 rfl rfl rfl rfl rfl rfl rfl rfl rfl ?_)
            refine WL.step0 (Runs.free rfl) rfl (os_store (i := 7) (vs := [(.int .i64 4)]) (cs' := [(.int .i64 4)]) Tryz.sizeOf30 rfl rfl rfl rfl rfl rfl rfl rfl rfl ?_)
            refine WL.nil (then_normal (WP.ret (then_ret (block_ret (then_ret ?_)))))
            refine round_ret (i := 2) rfl ?_
            refine wq rfl rfl rfl (ov_not rfl rfl) ?_
            refine WL.nil (then_normal (WP.cond_true rfl (WP.ret (then_ret (block_ret (then_ret (then_ret (block_ret ?_))))))))
            refine retQ_ret (v := (.tuple #[])) Tryz.results47 Res.nil rfl (fun w' s => ⟨St w H [.obj l1 (R1 .done (some .ret)), .obj D1 (.deferred (some [])), .blk b7 53 [(.int .i64 r2.1.actuator), (.bool r2.1.out)], .row 53 (encStroke).size l2.length (.slice ao3 l2.length cap3) xs1, .blk b6 9 [(mkS [32])], .blk b5 9 [(mkS p_s)], .blk b4 26 [(.slice ao3 l2.length cap3), (.int .i64 i3)], .blk b3 30 [(.int .i64 4)], .blk b2 26 [(.slice none 0 0), (.int .i64 0)], .blk b1 9 [(mkS p_s)]] H1, ?_, (s.select [2, 3, 0, 1, 4, 5, 6, 7, 8, 9] (by decide) rfl)⟩)
            refine after_ret ?_
            refine block_ret (then_ret ?_)
            obtain rfl := Option.some.inj hm
            refine retQ_retM (i := 0) rfl Tryz.results30 (Res.cell rfl (box_loads (i := 6) Tryz.isAgg26 Tryz.sizeOf26 rfl rfl) (Res.cell rfl (box_load (i := 5) Tryz.isAgg30 rfl) Res.nil)) rfl (fun w' s => ⟨s.below, ?_⟩)
            exact ⟨none, 0, rfl, SL.nil _ _ _, Nat.le_refl _⟩
          · replace hm := ite_f hc8 hm
            refine WP.skip (then_normal (WP.region ?_))
            refine wq rfl rfl rfl (ov_move rfl rfl) ?_
            refine wq rfl rfl rfl (ov_fieldAddr Tryz.underlying26 rfl rfl rfl Tryz.sizeOf3 rfl rfl) ?_
            refine WL.step0 (Runs.free rfl) rfl (os_store (i := 6) (vs := [(.int .i64 r3.1)]) (cs' := [(.slice ao3 l2.length cap3), (.int .i64 r3.1)]) Tryz.sizeOf3 rfl rfl rfl rfl rfl rfl rfl rfl rfl ?_)
            refine WL.nil (block_normal (then_normal ?_))
            exact ⟨r3.1, l2, ao3, cap3, xs1, rl2, (Sub.cons rfl (Sub.nil _)), fun w' s => (s.select [1, 2, 3, 4, 5, 6, 7, 8, 9] (by decide) rfl), hm⟩
      · rintro g' S' ⟨i4, l4, ao5, cap5, xs2, rl5, hsub2, hS2, hm⟩
        replace hm := (congrFun (congrFun hk1 i4) l4).symm.trans hm
        refine round_from (i := 1) hS2 rfl ?_
        refine wq rfl rfl rfl (ov_not rfl rfl) ?_
        refine WL.nil (then_normal (WP.cond_false rfl (WP.skip (then_normal (WP.region ?_)))))
        refine wq rfl rfl rfl (ov_move rfl rfl) ?_
        refine wq rfl rfl rfl (ov_move rfl rfl) ?_
        refine wq rfl rfl rfl (ov_len_string Tryz.underlying9 rfl rfl) ?_
        refine wq rfl rfl rfl (ov_load_box (i := 3) Tryz.isAgg9 rfl rfl rfl rfl) ?_
        refine wq rfl rfl rfl (ov_len_string Tryz.underlying9 rfl rfl) ?_
        refine wq rfl rfl rfl (ov_add rfl rfl rfl) ?_
        refine wq rfl rfl rfl (ov_add rfl rfl rfl) ?_
        refine wq rfl rfl rfl (ov_assign rfl rfl) ?_
        refine WL.nil (block_normal (then_normal (WP.region ?_)))
        refine wq rfl rfl rfl (ov_add rfl rfl rfl) ?_
        refine wq rfl rfl rfl (ov_move rfl rfl) ?_
        refine WL.nil (then_normal ?_)
        exact ⟨(IntKind.wrap .i64 (i1 + (IntKind.wrap .i64 ((x1.length : Int) + (([32] : List UInt8).length : Int))))), (IntKind.wrap .i64 (i2 + 1)), i4, l4, ao5, cap5, xs2, rl5, (Sub.cons rfl (Sub.cons rfl (Sub.cons rfl (Sub.cons rfl (Sub.cons rfl (Sub.cons rfl (Sub.cons rfl (Sub.nil _)))))))), fun w' s => s, hm⟩
    · replace hm := ite_f hc3 hm
      refine WP.exit (then_exit (then_exit (block_here ?_)))
      refine retQ_end (v := (.tuple #[])) Tryz.results47 Res.nil rfl (fun w' s => ⟨St w H [.obj l1 (R1 .ready none), .obj D1 (.deferred (some [])), .row 53 (encStroke).size l2.length (.slice ao3 l2.length cap3) xs1, .blk b6 9 [(mkS [32])], .blk b5 9 [(mkS p_s)], .blk b4 26 [(.slice ao3 l2.length cap3), (.int .i64 i3)], .blk b3 30 [(.int .i64 0)], .blk b2 26 [(.slice none 0 0), (.int .i64 0)], .blk b1 9 [(mkS p_s)]] H1, ?_, (s.select [1, 2, 0, 3, 4, 5, 6, 7, 8] (by decide) rfl)⟩)
      refine after_normal ?_
      refine block_normal (then_normal (WP.seq ?_))
      refine WP.region_any (S₀ := St w H [.obj D1 (.deferred (some [])), .row 53 (encStroke).size l2.length (.slice ao3 l2.length cap3) xs1, .blk b6 9 [(mkS [32])], .blk b5 9 [(mkS p_s)], .blk b4 26 [(.slice ao3 l2.length cap3), (.int .i64 i3)], .blk b1 9 [(mkS p_s)]] H1) 5 rfl (by kernel_rfl) (fun w' s => (s.select [0, 1, 2, 3, 4, 7] (by decide) rfl)) (fun _ s => s.drew) ?_
      refine tq (i := 0) rfl (by kernel_rfl) rfl rfl rfl (ov_load_whole (i := 4) Tryz.isAgg26 Tryz.sizeOf26 rfl rfl rfl rfl) ?_
      refine tq (i := 1) rfl (by kernel_rfl) rfl rfl rfl (ov_load_whole (i := 4) Tryz.isAgg26 Tryz.sizeOf26 rfl rfl rfl rfl) ?_
      refine AL.any (rs := [2]) (by kernel_rfl) (by decide) ?_
      refine ALs.cons (i := 2) rfl (Runs.free rfl) rfl rfl ?_ ?_
      · skip
        obtain ⟨r4, e6, hm⟩ := bind_some hm
        refine OQ.step (oq_con (r := (.int .i64 r4)) Tryz.call17 rfl rfl (fun w' s => ⟨_, (stroke_CheckStep_con (Step.mk l2 i3) ao3 cap3 w' (hp w') (Le.refl _) (s.row_arg (i := 1) rfl rl2).1 (s.row_arg (i := 1) rfl rl2).2 (hG.mono s.hold) r4 e6)⟩)) ?_
        refine ⟨fun w' s => (s.select [0, 1, 2, 3, 4, 7] (by decide) rfl), ?_⟩
        refine AL.any (rs := [3]) (by kernel_rfl) (by decide) ?_
        refine ALs.cons0 (i := 3) rfl (Runs.free rfl) rfl ?_ ?_
        · skip
          refine os_store (i := 6) (vs := [(.slice ao3 l2.length cap3), (.int .i64 i3)]) (cs' := [(.slice ao3 l2.length cap3), (.int .i64 i3)]) Tryz.sizeOf26 rfl rfl rfl rfl rfl rfl rfl rfl rfl ?_
          refine ⟨fun w' s => (s.select [0, 1, 2, 3, 4, 7] (by decide) rfl), ?_⟩
          refine AL.any (rs := [4]) (by kernel_rfl) (by decide) ?_
          refine ALs.cons0 (i := 4) rfl (Runs.free rfl) rfl ?_ ?_
          · skip
            refine os_store (i := 5) (vs := [(.int .i64 r4)]) (cs' := [(.int .i64 r4)]) Tryz.sizeOf30 rfl rfl rfl rfl rfl rfl rfl rfl rfl ?_
            refine ⟨fun w' s => (s.select [0, 1, 2, 3, 4, 7] (by decide) rfl), ?_⟩
            refine AL.done (by kernel_rfl) ?_
            refine then_normal (WP.ret ?_)
            obtain rfl := Option.some.inj hm
            refine retQ_retM (i := 0) rfl Tryz.results30 (Res.cell rfl (box_loads (i := 5) Tryz.isAgg26 Tryz.sizeOf26 rfl rfl) (Res.cell rfl (box_load (i := 4) Tryz.isAgg30 rfl) Res.nil)) rfl (fun w' s => ⟨s.below, ?_⟩)
            obtain ⟨h8, hc9⟩ := s.ret_row (i := 0) rfl rl2
            exact ⟨ao3, cap3, rfl, h8, hc9⟩
          exact ALs.nil
        exact ALs.nil
      exact ALs.nil

theorem stroke_Parse_con (p_s : (List UInt8)) (w : World) (H : Heap) (hH : Le H (hp w)) (hG : Glob H) (r : ((List Step) × Int × Int)) (hm : stroke_Parse p_s = some r) :
    Con Tryz.prog 12 [(mkS p_s)] w H (fun v H' => ∃ (ao1 : Option Addr) (cap1 : Nat), v = (.tuple #[(.slice ao1 r.1.length cap1), (.int .i64 r.2.1), (.int .i64 r.2.2)]) ∧ SL H' encStep ao1 r.1 ∧ r.1.length ≤ cap1) := by
  unfold stroke_Parse at hm
  refine con_of hH Tryz.func12 rfl 37 Tryz.ntmps12 rfl ?_
  refine WP.seq (WP.region ?_)
  refine WL.step (Runs.free rfl) rfl rfl (os_alloc (cs := [(.slice none 0 0)]) Tryz.zeroValue22 rfl rfl (fun b1 => ?_))
  refine WL.step (Runs.free rfl) rfl rfl (os_alloc (cs := [(.int .i64 0)]) Tryz.zeroValue3 rfl rfl (fun b2 => ?_))
  refine WL.step (Runs.free rfl) rfl rfl (os_alloc (cs := [(.int .i64 0)]) Tryz.zeroValue30 rfl rfl (fun b3 => ?_))
  refine WL.nil (then_normal (WP.seq (WP.seq (WP.region ?_))))
  refine wq rfl rfl rfl (ov_move rfl rfl) ?_
  refine wq rfl rfl rfl (ov_len_string Tryz.underlying9 rfl rfl) ?_
  refine wq rfl rfl rfl (ov_gtr rfl rfl rfl) ?_
  refine WL.nil (then_normal ?_)
  refine WP.cond rfl (fun hc2 => ?_) (fun hc2 => ?_)
  · replace hm := ite_t hc2 hm
    refine WP.seq (WP.region ?_)
    refine WL.step0 (Runs.free rfl) rfl (os_store (i := 2) (vs := [(.slice none 0 0)]) (cs' := [(.slice none 0 0)]) Tryz.sizeOf22 rfl rfl rfl rfl rfl rfl rfl rfl rfl ?_)
    refine WL.step0 (Runs.free rfl) rfl (os_store (i := 1) (vs := [(.int .i64 0)]) (cs' := [(.int .i64 0)]) Tryz.sizeOf3 rfl rfl rfl rfl rfl rfl rfl rfl rfl ?_)
    refine WL.step0 (Runs.free rfl) rfl (os_store (i := 0) (vs := [(.int .i64 17)]) (cs' := [(.int .i64 17)]) Tryz.sizeOf30 rfl rfl rfl rfl rfl rfl rfl rfl rfl ?_)
    refine WL.nil (then_normal (WP.ret (then_ret ?_)))
    obtain rfl := Option.some.inj hm
    refine retQ_ret Tryz.results12 (Res.cell rfl (box_load (i := 2) Tryz.isAgg22 rfl) (Res.cell rfl (box_load (i := 1) Tryz.isAgg3 rfl) (Res.cell rfl (box_load (i := 0) Tryz.isAgg30 rfl) Res.nil))) rfl (fun w' s => ⟨s.below, ?_⟩)
    exact ⟨none, 0, rfl, SL.nil _ _ _, Nat.le_refl _⟩
  · replace hm := ite_f hc2 hm
    refine WP.skip (then_normal (WP.seq (WP.seq (WP.region ?_))))
    refine wq rfl rfl rfl (ov_move rfl rfl) ?_
    refine wq rfl rfl rfl (ov_seql rfl rfl rfl) ?_
    refine WL.nil (then_normal ?_)
    refine WP.cond rfl (fun hc3 => ?_) (fun hc3 => ?_)
    · replace hm := ite_t hc3 hm
      refine WP.seq (WP.region ?_)
      refine WL.step0 (Runs.free rfl) rfl (os_store (i := 2) (vs := [(.slice none 0 0)]) (cs' := [(.slice none 0 0)]) Tryz.sizeOf22 rfl rfl rfl rfl rfl rfl rfl rfl rfl ?_)
      refine WL.step0 (Runs.free rfl) rfl (os_store (i := 1) (vs := [(.int .i64 0)]) (cs' := [(.int .i64 0)]) Tryz.sizeOf3 rfl rfl rfl rfl rfl rfl rfl rfl rfl ?_)
      refine WL.step0 (Runs.free rfl) rfl (os_store (i := 0) (vs := [(.int .i64 0)]) (cs' := [(.int .i64 0)]) Tryz.sizeOf30 rfl rfl rfl rfl rfl rfl rfl rfl rfl ?_)
      refine WL.nil (then_normal (WP.ret (then_ret ?_)))
      obtain rfl := Option.some.inj hm
      refine retQ_ret Tryz.results12 (Res.cell rfl (box_load (i := 2) Tryz.isAgg22 rfl) (Res.cell rfl (box_load (i := 1) Tryz.isAgg3 rfl) (Res.cell rfl (box_load (i := 0) Tryz.isAgg30 rfl) Res.nil))) rfl (fun w' s => ⟨s.below, ?_⟩)
      exact ⟨none, 0, rfl, SL.nil _ _ _, Nat.le_refl _⟩
    · replace hm := ite_f hc3 hm
      refine WP.skip (then_normal (WP.seq (WP.region ?_)))
      refine WL.step (Runs.free rfl) rfl rfl (os_alloc (cs := [(.slice none 0 0)]) Tryz.zeroValue22 rfl rfl (fun b4 => ?_))
      refine WL.nil (then_normal (WP.seq (WP.seq (WP.region ?_))))
      refine wq rfl rfl rfl (ov_move rfl rfl) ?_
      refine WL.step (Runs.free rfl) rfl rfl (os_inline (cap := []) (vs := [(mkS p_s), (mkS [59, 32])]) Tryz.call29 rfl rfl rfl Tryz.func29 rfl 6 Tryz.ntmps29 rfl (fun w' s => ?_))
      refine WP.seq (WP.region ?_)
      refine WL.step (Runs.free rfl) rfl rfl (os_box (cs := [(mkS p_s)]) rfl rfl rfl (fun b5 => ?_))
      refine WL.step (Runs.free rfl) rfl rfl (os_box (cs := [(mkS [59, 32])]) rfl rfl rfl (fun b6 => ?_))
      refine wq rfl rfl rfl (ov_assign rfl rfl) ?_
      refine WL.nil (then_normal (WP.seq (WP.region ?_)))
      refine wq rfl rfl rfl (ov_makeFunc' (first := []) rfl rfl rfl) ?_
      refine wq rfl rfl rfl (ov_assign rfl rfl) ?_
      refine WL.nil (then_normal (WP.ret ?_))
      refine retQ_ret (v := (.func (.func 47) #[] #[(pB b5 0), (pB b6 0)])) Tryz.results29 (Res.tmp rfl Res.nil) rfl (fun w' s => ⟨_, ?_, s⟩)
      refine WL.nil (then_normal (WP.block ?_))
      refine WP.range (ps := [17, 18]) (cap := [(pB b5 0), (pB b6 0)]) Tryz.call47 rfl Tryz.func47 rfl 28 Tryz.ntmps47 rfl (fun l1 D1 R1 hr1 => ?_)
      refine WP.seq (WP.region ?_)
      refine wq rfl rfl rfl (ov_assign rfl rfl) ?_
      refine WL.nil (then_normal (WP.seq (WP.region ?_)))
      refine wq rfl rfl rfl (ov_load_box (i := 3) Tryz.isAgg9 rfl rfl rfl rfl) ?_
      refine wq rfl rfl rfl (ov_load_box (i := 2) Tryz.isAgg9 rfl rfl rfl rfl) ?_
      obtain ⟨r1, e1, hm⟩ := bind_some hm
      refine WL.step (Runs.free rfl) rfl rfl (os_con Tryz.call48 rfl rfl (fun w' s => (splitS_con p_s [59, 32]  w' H s.hold hG r1 e1)) (fun rr1 H1 hle1 hR1 => ?_))
      replace hG := hG.mono hle1
      obtain ⟨ao2, cap2, rfl, h2, hc4⟩ := hR1
      refine wq rfl rfl rfl (ov_len_slice Tryz.underlying59 rfl rfl) ?_
      refine wq rfl rfl rfl (ov_move rfl rfl) ?_
      refine WL.nil (then_normal (WP.block ?_))
      have rl1 := RL.nil (α := Step) H1 encStep
      refine WP.weaken (fun _ s => s.nilrow 26 (encStep).size) ?_
      refine WP.loop (fun m1 g' S' => ∃ (H2 : Heap) (i1 : Int) (i2 : Int) (l2 : (List Step)) (ao3 : Option Addr) (cap3 : Nat) (xs1 : List Value), Le H1 H2 ∧ RL H2 encStep l2 xs1 ∧ Sub [(0, (.func (.yield l1) #[] #[])), (2, (pB b6 0)), (4, (.int .i64 i1)), (9, (.slice ao2 r1.length cap2)), (10, (.int .i64 (r1.length : Int))), (11, (.int .i64 i2)), (1000000007, (.bool false))] g' ∧ (∀ w', S' w' → St w H [.row 26 (encStep).size l2.length (.slice ao3 l2.length cap3) xs1, .obj l1 (R1 .ready none), .obj D1 (.deferred (some [])), .blk b6 9 [(mkS [59, 32])], .blk b5 9 [(mkS p_s)], .blk b4 22 [(.slice ao3 l2.length cap3)], .blk b3 30 [(.int .i64 0)], .blk b2 3 [(.int .i64 0)], .blk b1 22 [(.slice none 0 0)]] H2 w') ∧ stroke_Parse_loop1 r1 m1 i1 i2 l2 = some r) ((Int.toNat ((r1.length : Int) - 0) + 1)) ⟨H1, 0, 0, ([] : List Step), none, 0, [], (Le.refl _), rl1, (Sub.cons rfl (Sub.cons rfl (Sub.cons rfl (Sub.cons rfl (Sub.cons rfl (Sub.cons rfl (Sub.cons rfl (Sub.nil _)))))))), fun w' s => s, hm⟩ ?_ ?_
      · rintro g' S' ⟨_, _, _, _, _, _, _, _, _, _, _, hm⟩
        exact none_some hm
      · rintro m1 g' S' ⟨H2, i1, i2, l2, ao3, cap3, xs1, hle2, rl2, hsub1, hS1, hm⟩
        refine WP.sub hsub1 (WP.weaken hS1 ?_)
        rw [stroke_Parse_loop1] at hm
        replace h2 := h2.mono hle2
        replace hG := hG.mono hle2
        refine WP.seq (WP.region ?_)
        refine wq rfl rfl rfl (ov_lss rfl rfl rfl) ?_
        refine WL.nil (then_normal (WP.seq ?_))
        refine WP.cond rfl (fun hc5 => ?_) (fun hc5 => ?_)
        · replace hm := ite_t hc5 hm
          refine WP.skip (then_normal (WP.seq (WP.block (WP.seq (WP.region ?_)))))
          obtain ⟨x1, e2, hm⟩ := bind_some hm
          obtain ⟨h3, h4, h5, cs1, h6, h7⟩ := h2.get e2 (by decide)
          obtain rfl : cs1 = [(mkS x1)] := h6
          refine wq rfl rfl rfl (ov_indexAddr Tryz.underlying59 Tryz.sizeOf9 rfl rfl rfl h3 h4 h5) ?_
          refine wq rfl rfl rfl (ov_load_elem (v := (mkS x1)) Tryz.isAgg9 rfl rfl h7) ?_
          refine wq rfl rfl rfl (ov_assign rfl rfl) ?_
          refine WL.nil (then_normal (WP.seq (WP.seq (WP.region ?_))))
          refine wq rfl rfl rfl (ov_move rfl rfl) ?_
          refine wq rfl rfl rfl (ov_move rfl rfl) ?_
          refine wq rfl rfl rfl (ov_move rfl rfl) ?_
          refine WL.yield (i := 1) (vs := [(.int .i64 i1), (mkS x1)]) (Runs.free rfl) rfl rfl rfl rfl rfl hr1 rfl rfl rfl ?_
          refine WP.seq (WP.region ?_)
          refine wq rfl rfl rfl (ov_assign rfl rfl) ?_
          refine WL.nil (then_normal (WP.region ?_))
          refine wq rfl rfl rfl (ov_assign rfl rfl) ?_
          refine WL.nil (then_normal ?_)
          refine begin_of (i := 1) rfl ?_
          refine WP.block (WP.seq (WP.seq (WP.region ?_)))
          refine wq rfl rfl rfl (ov_load_box (i := 5) Tryz.isAgg22 rfl rfl rfl rfl) ?_
          refine wq rfl rfl rfl (ov_len_slice Tryz.underlying22 rfl rfl) ?_
          refine wq rfl rfl rfl (ov_eql rfl rfl rfl) ?_
          refine WL.nil (then_normal ?_)
          refine WP.cond rfl (fun hc6 => ?_) (fun hc6 => ?_)
          · replace hm := ite_t hc6 hm
            refine WP.seq (WP.region ?_)
            refine wq rfl rfl rfl (ov_move rfl rfl) ?_
            refine WL.step0 (Runs.free rfl) rfl (os_store (i := 8) (vs := [(.slice none 0 0)]) (cs' := [(.slice none 0 0)]) Tryz.sizeOf22 rfl rfl rfl rfl rfl rfl rfl rfl rfl ?_)
            refine WL.step0 (Runs.free rfl) rfl (os_store (i := 7) (vs := [(.int .i64 i1)]) (cs' := [(.int .i64 i1)]) Tryz.sizeOf3 rfl rfl rfl rfl rfl rfl rfl rfl rfl ?_)
            refine WL.step0 (Runs.free rfl) rfl (os_store (i := 6) (vs := [(.int .i64 5)]) (cs' := [(.int .i64 5)]) Tryz.sizeOf30 rfl rfl rfl rfl rfl rfl rfl rfl rfl ?_)
            refine WL.nil (then_normal (WP.ret (then_ret (block_ret ?_))))
            refine round_ret (i := 1) rfl ?_
            refine wq rfl rfl rfl (ov_not rfl rfl) ?_
            refine WL.nil (then_normal (WP.cond_true rfl (WP.ret (then_ret (block_ret (then_ret (then_ret (block_ret ?_))))))))
            refine retQ_ret (v := (.tuple #[])) Tryz.results47 Res.nil rfl (fun w' s => ⟨St w H [.obj l1 (R1 .done (some .ret)), .obj D1 (.deferred (some [])), .row 26 (encStep).size l2.length (.slice ao3 l2.length cap3) xs1, .blk b6 9 [(mkS [59, 32])], .blk b5 9 [(mkS p_s)], .blk b4 22 [(.slice ao3 l2.length cap3)], .blk b3 30 [(.int .i64 5)], .blk b2 3 [(.int .i64 i1)], .blk b1 22 [(.slice none 0 0)]] H2, ?_, (s.select [1, 2, 0, 3, 4, 5, 6, 7, 8] (by decide) rfl)⟩)
            refine after_ret ?_
            refine block_ret (then_ret ?_)
            obtain rfl := Option.some.inj hm
            refine retQ_retM (i := 0) rfl Tryz.results12 (Res.cell rfl (box_load (i := 6) Tryz.isAgg22 rfl) (Res.cell rfl (box_load (i := 5) Tryz.isAgg3 rfl) (Res.cell rfl (box_load (i := 4) Tryz.isAgg30 rfl) Res.nil))) rfl (fun w' s => ⟨s.below, ?_⟩)
            exact ⟨none, 0, rfl, SL.nil _ _ _, Nat.le_refl _⟩
          · replace hm := ite_f hc6 hm
            refine WP.skip (then_normal (WP.seq (WP.region ?_)))
            refine wq rfl rfl rfl (ov_move rfl rfl) ?_
            obtain ⟨r2, e3, hm⟩ := bind_some hm
            refine WL.step (Runs.free rfl) rfl rfl (os_con Tryz.call30 rfl rfl (fun w' s => (stroke_step_con x1  w' H2 s.hold hG r2 e3)) (fun rr2 H3 hle3 hR2 => ?_))
            replace h2 := h2.mono hle3
            replace h7 := h7.mono hle3
            replace rl2 := rl2.mono hle3
            replace hG := hG.mono hle3
            obtain ⟨ao4, cap4, rfl, h8, hc7⟩ := hR2
            refine wq rfl rfl rfl (ov_move rfl rfl) ?_
            refine wq rfl rfl rfl (ov_extract rfl rfl rfl) ?_
            refine wq rfl rfl rfl (ov_extract rfl rfl rfl) ?_
            refine WL.step (Runs.free rfl) rfl rfl (os_alloc (cs := [(.slice none 0 0), (.int .i64 0)]) Tryz.zeroValue26 rfl rfl (fun b7 => ?_))
            refine WL.step0 (Runs.free rfl) rfl (os_store (i := 0) (vs := [(.slice ao4 r2.1.strokes.length cap4), (.int .i64 r2.1.wait)]) (cs' := [(.slice ao4 r2.1.strokes.length cap4), (.int .i64 r2.1.wait)]) Tryz.sizeOf26 rfl rfl rfl rfl rfl rfl rfl rfl rfl ?_)
            refine wq rfl rfl rfl (ov_assign rfl rfl) ?_
            refine WL.nil (then_normal (WP.seq (WP.seq (WP.region ?_))))
            refine wq rfl rfl rfl (ov_move rfl rfl) ?_
            refine wq rfl rfl rfl (ov_neq rfl rfl rfl) ?_
            refine WL.nil (then_normal ?_)
            refine WP.cond rfl (fun hc8 => ?_) (fun hc8 => ?_)
            · replace hm := ite_t hc8 hm
              refine WP.seq (WP.region ?_)
              refine wq rfl rfl rfl (ov_move rfl rfl) ?_
              refine wq rfl rfl rfl (ov_move rfl rfl) ?_
              refine WL.step0 (Runs.free rfl) rfl (os_store (i := 9) (vs := [(.slice none 0 0)]) (cs' := [(.slice none 0 0)]) Tryz.sizeOf22 rfl rfl rfl rfl rfl rfl rfl rfl rfl ?_)
              refine WL.step0 (Runs.free rfl) rfl (os_store (i := 8) (vs := [(.int .i64 i1)]) (cs' := [(.int .i64 i1)]) Tryz.sizeOf3 rfl rfl rfl rfl rfl rfl rfl rfl rfl ?_)
              refine WL.step0 (Runs.free rfl) rfl (os_store (i := 7) (vs := [(.int .i64 r2.2)]) (cs' := [(.int .i64 r2.2)]) Tryz.sizeOf30 rfl rfl rfl rfl rfl rfl rfl rfl rfl ?_)
              refine WL.nil (then_normal (WP.ret (then_ret (block_ret ?_))))
              refine round_ret (i := 2) rfl ?_
              refine wq rfl rfl rfl (ov_not rfl rfl) ?_
              refine WL.nil (then_normal (WP.cond_true rfl (WP.ret (then_ret (block_ret (then_ret (then_ret (block_ret ?_))))))))
              refine retQ_ret (v := (.tuple #[])) Tryz.results47 Res.nil rfl (fun w' s => ⟨St w H [.obj l1 (R1 .done (some .ret)), .obj D1 (.deferred (some [])), .blk b7 26 [(.slice ao4 r2.1.strokes.length cap4), (.int .i64 r2.1.wait)], .row 26 (encStep).size l2.length (.slice ao3 l2.length cap3) xs1, .blk b6 9 [(mkS [59, 32])], .blk b5 9 [(mkS p_s)], .blk b4 22 [(.slice ao3 l2.length cap3)], .blk b3 30 [(.int .i64 r2.2)], .blk b2 3 [(.int .i64 i1)], .blk b1 22 [(.slice none 0 0)]] H3, ?_, (s.select [2, 3, 0, 1, 4, 5, 6, 7, 8, 9] (by decide) rfl)⟩)
              refine after_ret ?_
              refine block_ret (then_ret ?_)
              obtain rfl := Option.some.inj hm
              refine retQ_retM (i := 0) rfl Tryz.results12 (Res.cell rfl (box_load (i := 7) Tryz.isAgg22 rfl) (Res.cell rfl (box_load (i := 6) Tryz.isAgg3 rfl) (Res.cell rfl (box_load (i := 5) Tryz.isAgg30 rfl) Res.nil))) rfl (fun w' s => ⟨s.below, ?_⟩)
              exact ⟨none, 0, rfl, SL.nil _ _ _, Nat.le_refl _⟩
            · replace hm := ite_f hc8 hm
              refine WP.skip (then_normal (WP.region ?_))
              refine wq rfl rfl rfl (ov_load_box (i := 6) Tryz.isAgg22 rfl rfl rfl rfl) ?_
              refine wq rfl rfl rfl (ov_load_whole (i := 0) Tryz.isAgg26 Tryz.sizeOf26 rfl rfl rfl rfl) ?_
              have rl3 : RL H3 encStep ([r2.1] : List Step) [(.slice ao4 r2.1.strokes.length cap4), (.int .i64 r2.1.wait)] := RL.cons (cs := [(.slice ao4 r2.1.strokes.length cap4), (.int .i64 r2.1.wait)]) (xs := []) ⟨ao4, cap4, rfl, h8, hc7⟩ (RL.nil _ _)
              refine WL.step (Runs.free rfl) rfl rfl (os_buildSlice (cs := [(.slice ao4 r2.1.strokes.length cap4), (.int .i64 r2.1.wait)]) (E := 26) (sz := 2) rfl rfl (fun _ => by kernel_rfl) rfl (by decide) (fun b8 => ?_))
              obtain ⟨l3, e4, hm⟩ := bind_some hm
              refine WL.step (Runs.free rfl) rfl rfl (os_app (i := 2) (j := 0) (En := encStep) (xs := xs1) (ys := [(.slice ao4 r2.1.strokes.length cap4), (.int .i64 r2.1.wait)]) Tryz.underlying22 (by kernel_rfl : (Tryz.prog.info? 26).map (fun i => (i.zero, i.size, i.bytes)) = some (some (.agg #[(.slice none 0 0), (.int .i64 0)]), (encStep).size, 32)) rfl (by decide) rfl rfl rfl rfl rfl rfl rl2 rl3 e4 (fun ao5 cap5 rl4 => ?_))
              refine WL.step0 (Runs.free rfl) rfl (os_store (i := 7) (vs := [(.slice ao5 (l2 ++ ([r2.1] : List Step)).length cap5)]) (cs' := [(.slice ao5 (l2 ++ ([r2.1] : List Step)).length cap5)]) Tryz.sizeOf22 rfl rfl rfl rfl rfl rfl rfl rfl rfl ?_)
              refine WL.nil (block_normal ?_)
              refine round_normal (i := 3) rfl ?_
              refine wq rfl rfl rfl (ov_not rfl rfl) ?_
              refine WL.nil (then_normal (WP.cond_false rfl (WP.skip (then_normal (WP.region ?_)))))
              refine wq rfl rfl rfl (ov_move rfl rfl) ?_
              refine wq rfl rfl rfl (ov_move rfl rfl) ?_
              refine wq rfl rfl rfl (ov_len_string Tryz.underlying9 rfl rfl) ?_
              refine wq rfl rfl rfl (ov_load_box (i := 5) Tryz.isAgg9 rfl rfl rfl rfl) ?_
              refine wq rfl rfl rfl (ov_len_string Tryz.underlying9 rfl rfl) ?_
              refine wq rfl rfl rfl (ov_add rfl rfl rfl) ?_
              refine wq rfl rfl rfl (ov_add rfl rfl rfl) ?_
              refine wq rfl rfl rfl (ov_assign rfl rfl) ?_
              refine WL.nil (block_normal (then_normal (WP.region ?_)))
              refine wq rfl rfl rfl (ov_add rfl rfl rfl) ?_
              refine wq rfl rfl rfl (ov_move rfl rfl) ?_
              refine WL.nil (then_normal ?_)
              exact ⟨H3, (IntKind.wrap .i64 (i1 + (IntKind.wrap .i64 ((x1.length : Int) + (([59, 32] : List UInt8).length : Int))))), (IntKind.wrap .i64 (i2 + 1)), (l2 ++ ([r2.1] : List Step)), ao5, cap5, (xs1 ++ [(.slice ao4 r2.1.strokes.length cap4), (.int .i64 r2.1.wait)]), (hle2.trans hle3), rl4, (Sub.cons rfl (Sub.cons rfl (Sub.cons rfl (Sub.cons rfl (Sub.cons rfl (Sub.cons rfl (Sub.cons rfl (Sub.nil _)))))))), fun w' s => (s.select [2, 3, 4, 5, 6, 7, 8, 9, 10] (by decide) rfl), hm⟩
        · replace hm := ite_f hc5 hm
          refine WP.exit (then_exit (then_exit (block_here ?_)))
          refine retQ_end (v := (.tuple #[])) Tryz.results47 Res.nil rfl (fun w' s => ⟨St w H [.obj l1 (R1 .ready none), .obj D1 (.deferred (some [])), .row 26 (encStep).size l2.length (.slice ao3 l2.length cap3) xs1, .blk b6 9 [(mkS [59, 32])], .blk b5 9 [(mkS p_s)], .blk b4 22 [(.slice ao3 l2.length cap3)], .blk b3 30 [(.int .i64 0)], .blk b2 3 [(.int .i64 0)], .blk b1 22 [(.slice none 0 0)]] H2, ?_, (s.select [1, 2, 0, 3, 4, 5, 6, 7, 8] (by decide) rfl)⟩)
          refine after_normal ?_
          refine block_normal (then_normal (WP.seq (WP.region ?_)))
          refine wq rfl rfl rfl (ov_load_box (i := 4) Tryz.isAgg22 rfl rfl rfl rfl) ?_
          refine WL.step0 (Runs.free rfl) rfl (os_store (i := 7) (vs := [(.slice ao3 l2.length cap3)]) (cs' := [(.slice ao3 l2.length cap3)]) Tryz.sizeOf22 rfl rfl rfl rfl rfl rfl rfl rfl rfl ?_)
          refine WL.step0 (Runs.free rfl) rfl (os_store (i := 6) (vs := [(.int .i64 0)]) (cs' := [(.int .i64 0)]) Tryz.sizeOf3 rfl rfl rfl rfl rfl rfl rfl rfl rfl ?_)
          refine WL.step0 (Runs.free rfl) rfl (os_store (i := 5) (vs := [(.int .i64 0)]) (cs' := [(.int .i64 0)]) Tryz.sizeOf30 rfl rfl rfl rfl rfl rfl rfl rfl rfl ?_)
          refine WL.nil (then_normal (WP.ret ?_))
          obtain rfl := Option.some.inj hm
          refine retQ_retM (i := 0) rfl Tryz.results12 (Res.cell rfl (box_load (i := 6) Tryz.isAgg22 rfl) (Res.cell rfl (box_load (i := 5) Tryz.isAgg3 rfl) (Res.cell rfl (box_load (i := 4) Tryz.isAgg30 rfl) Res.nil))) rfl (fun w' s => ⟨s.below, ?_⟩)
          obtain ⟨h9, hc9⟩ := s.ret_row (i := 0) rfl rl2
          exact ⟨ao3, cap3, rfl, h9, hc9⟩

theorem stroke_given_con (p_x : Step) (p_ends : (List Bool)) (ao1 : Option Addr) (cap1 : Nat) (ao2 : Option Addr) (cap2 : Nat) (w : World) (H : Heap) (hH : Le H (hp w)) (h1 : SL H encStroke ao1 p_x.strokes) (hc1 : p_x.strokes.length ≤ cap1) (h2 : SL H encBool ao2 p_ends) (hc2 : p_ends.length ≤ cap2) (hG : Glob H) (r : Int) (hm : stroke_given p_x p_ends = some r) :
    Con Tryz.prog 39 [(.agg #[(.slice ao1 p_x.strokes.length cap1), (.int .i64 p_x.wait)]), (.slice ao2 p_ends.length cap2)] w H (fun v _ => v = (.int .i64 r)) := by
  unfold stroke_given at hm
  refine con_of hH Tryz.func39 rfl 14 Tryz.ntmps39 rfl ?_
  refine WP.seq (WP.region ?_)
  refine WL.step (Runs.free rfl) rfl rfl (os_box (cs := [(.slice ao1 p_x.strokes.length cap1), (.int .i64 p_x.wait)]) rfl rfl rfl (fun b1 => ?_))
  refine wq rfl rfl rfl (ov_assign rfl rfl) ?_
  refine WL.nil (then_normal (WP.seq (WP.seq (WP.region ?_))))
  refine wq rfl rfl rfl (ov_load_whole (i := 0) Tryz.isAgg26 Tryz.sizeOf26 rfl rfl rfl rfl) ?_
  obtain ⟨r1, e1, hm⟩ := bind_some hm
  refine WL.quiet (Runs.free rfl) rfl rfl (oq_con (r := (.int .i64 r1)) Tryz.call17 rfl rfl (fun w' s => ⟨_, (stroke_CheckStep_con p_x ao1 cap1  w' H s.hold h1 hc1 hG r1 e1)⟩)) ?_
  refine wq rfl rfl rfl (ov_assign rfl rfl) ?_
  refine WL.nil (then_normal (WP.seq (WP.region ?_)))
  refine wq rfl rfl rfl (ov_move rfl rfl) ?_
  refine wq rfl rfl rfl (ov_neq rfl rfl rfl) ?_
  refine WL.nil (then_normal ?_)
  refine WP.cond rfl (fun hc3 => ?_) (fun hc3 => ?_)
  · replace hm := ite_t hc3 hm
    refine WP.seq (WP.region ?_)
    refine wq rfl rfl rfl (ov_move rfl rfl) ?_
    refine wq rfl rfl rfl (ov_assign rfl rfl) ?_
    refine WL.nil (then_normal (WP.ret (then_ret ?_)))
    obtain rfl := Option.some.inj hm
    refine retQ_ret Tryz.results39 (Res.tmp rfl Res.nil) rfl (fun w' s => ⟨s.below, ?_⟩)
    exact rfl
  · replace hm := ite_f hc3 hm
    refine WP.skip (then_normal (WP.seq (WP.seq (WP.region ?_))))
    refine wq rfl rfl rfl (ov_move rfl rfl) ?_
    refine wq rfl rfl rfl (ov_len_slice Tryz.underlying51 rfl rfl) ?_
    refine wq rfl rfl rfl (ov_gtr rfl rfl rfl) ?_
    refine WL.nil (then_normal ?_)
    refine WP.cond rfl (fun hc4 => ?_) (fun hc4 => ?_)
    · replace hm := ite_t hc4 hm
      refine WP.seq (WP.region ?_)
      refine wq rfl rfl rfl (ov_assign rfl rfl) ?_
      refine WL.nil (then_normal (WP.ret (then_ret ?_)))
      obtain rfl := Option.some.inj hm
      refine retQ_ret Tryz.results39 (Res.tmp rfl Res.nil) rfl (fun w' s => ⟨s.below, ?_⟩)
      exact rfl
    · replace hm := ite_f hc4 hm
      refine WP.skip (then_normal (WP.seq (WP.region ?_)))
      refine wq rfl rfl rfl (ov_assign rfl rfl) ?_
      refine WL.nil (then_normal (WP.ret ?_))
      obtain rfl := Option.some.inj hm
      refine retQ_ret Tryz.results39 (Res.tmp rfl Res.nil) rfl (fun w' s => ⟨s.below, ?_⟩)
      exact rfl

theorem stroke_fits_con (p_x : Step) (p_ends : (List Bool)) (ao1 : Option Addr) (cap1 : Nat) (ao2 : Option Addr) (cap2 : Nat) (w : World) (H : Heap) (hH : Le H (hp w)) (h1 : SL H encStroke ao1 p_x.strokes) (hc1 : p_x.strokes.length ≤ cap1) (h2 : SL H encBool ao2 p_ends) (hc2 : p_ends.length ≤ cap2) (hG : Glob H) (r : Bool) (hm : stroke_fits p_x p_ends = some r) :
    Con Tryz.prog 40 [(.agg #[(.slice ao1 p_x.strokes.length cap1), (.int .i64 p_x.wait)]), (.slice ao2 p_ends.length cap2)] w H (fun v _ => v = (.bool r)) := by
  unfold stroke_fits at hm
  refine con_of hH Tryz.func40 rfl 10 Tryz.ntmps40 rfl ?_
  refine WP.seq (WP.region ?_)
  refine WL.step (Runs.free rfl) rfl rfl (os_box (cs := [(.slice ao1 p_x.strokes.length cap1), (.int .i64 p_x.wait)]) rfl rfl rfl (fun b1 => ?_))
  refine WL.step (Runs.free rfl) rfl rfl (os_box (cs := [(.slice ao2 p_ends.length cap2)]) rfl rfl rfl (fun b2 => ?_))
  refine wq rfl rfl rfl (ov_assign rfl rfl) ?_
  refine WL.nil (then_normal (WP.seq (WP.region ?_)))
  refine wq rfl rfl rfl (ov_fieldAddr Tryz.underlying26 rfl rfl rfl Tryz.sizeOf24 rfl rfl) ?_
  refine wq rfl rfl rfl (ov_load_box (i := 1) Tryz.isAgg24 rfl rfl rfl rfl) ?_
  refine wq rfl rfl rfl (ov_makeFunc' (first := []) rfl rfl rfl) ?_
  refine WL.step (Runs.free rfl) rfl rfl (os_inline (cap := []) (vs := [(.slice ao1 p_x.strokes.length cap1), (.func (.func 54) #[] #[(pB b2 0)])]) Tryz.call53 rfl rfl rfl Tryz.func53 rfl 9 Tryz.ntmps53 rfl (fun w' s => ?_))
  refine WP.seq (WP.region ?_)
  refine wq rfl rfl rfl (ov_assign rfl rfl) ?_
  refine WL.nil (then_normal (WP.seq (WP.region ?_)))
  refine wq rfl rfl rfl (ov_move rfl rfl) ?_
  refine wq rfl rfl rfl (ov_move rfl rfl) ?_
  refine WL.step (Runs.free rfl) rfl rfl (os_inline (cap := []) (vs := [(.slice ao1 p_x.strokes.length cap1), (.func (.func 54) #[] #[(pB b2 0)])]) Tryz.call63 rfl rfl rfl Tryz.func63 rfl 19 Tryz.ntmps63 rfl (fun w' s => ?_))
  refine WP.seq (WP.region ?_)
  refine wq rfl rfl rfl (ov_assign rfl rfl) ?_
  refine WL.nil (then_normal ?_)
  obtain ⟨k1, hk1, hm⟩ := joinK_some hm
  refine WP.seq_join (fun g' S' => Sub [(1000000007, (.bool false))] g' ∧ (∀ w', S' w' → St w H [.blk b2 51 [(.slice ao2 p_ends.length cap2)], .blk b1 26 [(.slice ao1 p_x.strokes.length cap1), (.int .i64 p_x.wait)]] H w') ∧ k1 = some r) ?_ ?_
  · skip
    refine WP.seq (WP.region ?_)
    refine wq rfl rfl rfl (ov_move rfl rfl) ?_
    refine wq rfl rfl rfl (ov_len_slice Tryz.underlying24 rfl rfl) ?_
    refine wq rfl rfl rfl (ov_move rfl rfl) ?_
    refine WL.nil (then_normal (WP.block ?_))
    refine WP.loop (fun m1 g' S' => ∃ (i1 : Int), Sub [(0, (.slice ao1 p_x.strokes.length cap1)), (1, (.func (.func 54) #[] #[(pB b2 0)])), (7, (.int .i64 (p_x.strokes.length : Int))), (8, (.int .i64 i1)), (1000000007, (.bool false))] g' ∧ (∀ w', S' w' → St w H [.blk b2 51 [(.slice ao2 p_ends.length cap2)], .blk b1 26 [(.slice ao1 p_x.strokes.length cap1), (.int .i64 p_x.wait)]] H w') ∧ stroke_fits_loop1 p_x p_ends k1 m1 i1 = some r) ((Int.toNat ((p_x.strokes.length : Int) - 0) + 1)) ⟨0, (Sub.cons rfl (Sub.cons rfl (Sub.cons rfl (Sub.cons rfl (Sub.cons rfl (Sub.nil _)))))), fun w' s => s, hm⟩ ?_ ?_
    · rintro g' S' ⟨_, _, _, hm⟩
      exact none_some hm
    · rintro m1 g' S' ⟨i1, hsub1, hS1, hm⟩
      refine WP.sub hsub1 (WP.weaken hS1 ?_)
      rw [stroke_fits_loop1] at hm
      refine WP.seq (WP.region ?_)
      refine wq rfl rfl rfl (ov_lss rfl rfl rfl) ?_
      refine WL.nil (then_normal (WP.seq ?_))
      refine WP.cond rfl (fun hc3 => ?_) (fun hc3 => ?_)
      · replace hm := ite_t hc3 hm
        refine WP.skip (then_normal (WP.seq (WP.block (WP.seq (WP.region ?_)))))
        refine wq rfl rfl rfl (ov_move rfl rfl) ?_
        refine wq rfl rfl rfl (ov_assign rfl rfl) ?_
        refine WL.nil (then_normal (WP.seq (WP.region ?_)))
        refine wq rfl rfl rfl (ov_move rfl rfl) ?_
        refine wq rfl rfl rfl (ov_move rfl rfl) ?_
        refine wq rfl rfl rfl (ov_move rfl rfl) ?_
        obtain ⟨x1, e1, hm⟩ := bind_some hm
        obtain ⟨h3, h4, h5, cs1, h6, h7⟩ := h1.get e1 (by decide)
        obtain rfl : cs1 = [(.int .i64 x1.actuator), (.bool x1.out)] := h6
        refine wq rfl rfl rfl (ov_indexAddr Tryz.underlying24 Tryz.sizeOf53 rfl rfl rfl h3 h4 h5) ?_
        refine wq rfl rfl rfl (ov_load_elems (vs := [(.int .i64 x1.actuator), (.bool x1.out)]) Tryz.isAgg53 Tryz.sizeOf53 rfl rfl rfl h7 h5) ?_
        refine WL.step (Runs.free rfl) rfl rfl (os_inline (cap := [(pB b2 0)]) (vs := [(.agg #[(.int .i64 x1.actuator), (.bool x1.out)])]) Tryz.call54 rfl rfl rfl Tryz.func54 rfl 19 Tryz.ntmps54 rfl (fun w' s => ?_))
        refine WP.seq (WP.region ?_)
        refine WL.step (Runs.free rfl) rfl rfl (os_box (cs := [(.int .i64 x1.actuator), (.bool x1.out)]) rfl rfl rfl (fun b3 => ?_))
        refine wq rfl rfl rfl (ov_assign rfl rfl) ?_
        refine WL.nil (then_normal (WP.seq ?_))
        refine WP.region_draws (by kernel_rfl) (by kernel_rfl) (fun _ s => s.drew) ?_
        refine QL.quiet (Runs.free rfl) rfl rfl (OV.quiet (ov_fieldAddr Tryz.underlying53 rfl rfl rfl Tryz.sizeOf3 rfl rfl)) ?_
        refine QL.quiet (Runs.free rfl) rfl rfl (OV.quiet (ov_load_box (i := 0) Tryz.isAgg3 rfl rfl rfl rfl)) ?_
        refine QL.quiet (Runs.free rfl) rfl rfl (OV.quiet (ov_load_box (i := 1) Tryz.isAgg51 rfl rfl rfl rfl)) ?_
        refine QL.quiet (Runs.free rfl) rfl rfl (OV.quiet (ov_len_slice Tryz.underlying51 rfl rfl)) ?_
        refine QL.quiet (Runs.free rfl) rfl rfl (OV.quiet (ov_geq rfl rfl rfl)) ?_
        refine QL.quiet (Runs.free rfl) rfl rfl (OV.quiet (ov_move rfl rfl)) ?_
        obtain ⟨c1, e2, hm⟩ := bind_some hm
        refine QL.part_bool 9 18 (x := c1) ?_ ?_
        · rcases Bool.eq_false_or_eq_true (decide (x1.actuator ≥ (p_ends.length : Int))) with hc4 | hc4
          · skip
            replace hm := ite_t hc4 e2
            refine QL.idle (Idle.no rfl rfl rfl hc4) rfl rfl ?_
            refine QL.idle (Idle.no rfl rfl rfl hc4) rfl rfl ?_
            refine QL.idle (Idle.no rfl rfl rfl hc4) rfl rfl ?_
            refine QL.idle (Idle.no rfl rfl rfl hc4) rfl rfl ?_
            refine QL.idle (Idle.no rfl rfl rfl hc4) rfl rfl ?_
            refine QL.idle (Idle.no rfl rfl rfl hc4) rfl rfl ?_
            refine QL.idle (Idle.no rfl rfl rfl hc4) rfl rfl ?_
            refine QL.idle (Idle.no rfl rfl rfl hc4) rfl rfl ?_
            refine QL.quiet (Runs.free rfl) rfl rfl (OV.quiet (ov_pick_true rfl (guard_eq rfl hc4) rfl)) ?_
            exact QL.nil (Sub.cons' rfl (congrArg Value.bool (Option.some.inj hm)) (Sub.skip rfl (Sub.skip rfl (Sub.skip rfl (Sub.skip rfl (Sub.skip rfl (Sub.skip rfl (Sub.skip rfl (Sub.skip rfl (Sub.skip rfl (Sub.refl _)))))))))))
          · skip
            replace hm := ite_f hc4 e2
            refine QL.quiet (Runs.yes rfl rfl rfl hc4) rfl rfl (OV.quiet (ov_load_box (i := 1) Tryz.isAgg51 rfl rfl rfl rfl)) ?_
            refine QL.quiet (Runs.yes rfl rfl rfl hc4) rfl rfl (OV.quiet (ov_fieldAddr Tryz.underlying53 rfl rfl rfl Tryz.sizeOf3 rfl rfl)) ?_
            refine QL.quiet (Runs.yes rfl rfl rfl hc4) rfl rfl (OV.quiet (ov_load_box (i := 0) Tryz.isAgg3 rfl rfl rfl rfl)) ?_
            obtain ⟨x2, e3, hm⟩ := bind_some hm
            obtain ⟨h8, h9, h10, cs2, h11, h12⟩ := h2.get e3 (by decide)
            obtain rfl : cs2 = [(.bool x2)] := h11
            refine QL.quiet (Runs.yes rfl rfl rfl hc4) rfl rfl (OV.quiet (ov_indexAddr Tryz.underlying51 Tryz.sizeOf4 rfl rfl rfl h8 h9 h10)) ?_
            refine QL.quiet (Runs.yes rfl rfl rfl hc4) rfl rfl (OV.quiet (ov_load_elem (v := (.bool x2)) Tryz.isAgg4 rfl rfl h12)) ?_
            refine QL.quiet (Runs.yes rfl rfl rfl hc4) rfl rfl (OV.quiet (ov_fieldAddr Tryz.underlying53 rfl rfl rfl Tryz.sizeOf4 rfl rfl)) ?_
            refine QL.quiet (Runs.yes rfl rfl rfl hc4) rfl rfl (OV.quiet (ov_load_box (i := 0) Tryz.isAgg4 rfl rfl rfl rfl)) ?_
            refine QL.quiet (Runs.yes rfl rfl rfl hc4) rfl rfl (OV.quiet (ov_beql Tryz.underlying4 rfl rfl rfl)) ?_
            refine QL.quiet (Runs.free rfl) rfl rfl (OV.quiet (ov_pick_false rfl (guard_eq rfl hc4) rfl)) ?_
            exact QL.nil (Sub.cons' rfl (congrArg Value.bool (Option.some.inj hm)) (Sub.skip rfl (Sub.skip rfl (Sub.skip rfl (Sub.skip rfl (Sub.skip rfl (Sub.skip rfl (Sub.skip rfl (Sub.skip rfl (Sub.skip rfl (Sub.refl _)))))))))))
        refine QL.quiet (Runs.free rfl) rfl rfl (OV.quiet (ov_assign rfl rfl)) ?_
        refine QL.nil ?_
        refine then_normal (WP.ret ?_)
        refine retQ_ret (v := (.bool c1)) Tryz.results54 (Res.tmp rfl Res.nil) rfl (fun w' s => ⟨_, ?_, s⟩)
        refine WL.nil (then_normal ?_)
        refine WP.cond rfl (fun hc5 => ?_) (fun hc5 => ?_)
        · replace hm := ite_t hc5 hm
          refine WP.seq (WP.region ?_)
          refine wq rfl rfl rfl (ov_move rfl rfl) ?_
          refine wq rfl rfl rfl (ov_assign rfl rfl) ?_
          refine WL.nil (then_normal (WP.ret (block_ret (then_ret (then_ret (block_ret (then_ret ?_)))))))
          refine retQ_ret (v := (.int .i64 i1)) Tryz.results63 (Res.tmp rfl Res.nil) rfl (fun w' s => ⟨_, ?_, s⟩)
          refine wq rfl rfl rfl (ov_geq rfl rfl rfl) ?_
          refine wq rfl rfl rfl (ov_assign rfl rfl) ?_
          refine WL.nil (then_normal (WP.ret ?_))
          refine retQ_ret (v := (.bool (decide (i1 ≥ 0)))) Tryz.results53 (Res.tmp rfl Res.nil) rfl (fun w' s => ⟨_, ?_, s⟩)
          refine wq rfl rfl rfl (ov_not rfl rfl) ?_
          refine wq rfl rfl rfl (ov_assign rfl rfl) ?_
          refine WL.nil (then_normal (WP.ret ?_))
          obtain rfl := Option.some.inj hm
          refine retQ_ret Tryz.results40 (Res.tmp rfl Res.nil) rfl (fun w' s => ⟨s.below, ?_⟩)
          exact rfl
        · replace hm := ite_f hc5 hm
          refine WP.skip (block_normal (then_normal (WP.region ?_)))
          refine wq rfl rfl rfl (ov_add rfl rfl rfl) ?_
          refine wq rfl rfl rfl (ov_move rfl rfl) ?_
          refine WL.nil (then_normal ?_)
          exact ⟨(IntKind.wrap .i64 (i1 + 1)), (Sub.cons rfl (Sub.cons rfl (Sub.cons rfl (Sub.cons rfl (Sub.cons rfl (Sub.nil _)))))), fun w' s => (s.select [1, 2] (by decide) rfl), hm⟩
      · replace hm := ite_f hc3 hm
        refine WP.exit (then_exit (then_exit (block_here (then_normal ?_))))
        exact ⟨(Sub.cons rfl (Sub.nil _)), fun w' s => s, hm⟩
  · rintro g' S' ⟨hsub2, hS2, hm⟩
    refine WP.sub hsub2 (WP.weaken hS2 ?_)
    replace hm := hk1.symm.trans hm
    refine WP.seq (WP.region ?_)
    refine wq rfl rfl rfl (ov_assign rfl rfl) ?_
    refine WL.nil (then_normal (WP.ret ?_))
    refine retQ_ret (v := (.int .i64 (-1))) Tryz.results63 (Res.tmp rfl Res.nil) rfl (fun w' s => ⟨_, ?_, s⟩)
    refine wq rfl rfl rfl (ov_geq rfl rfl rfl) ?_
    refine wq rfl rfl rfl (ov_assign rfl rfl) ?_
    refine WL.nil (then_normal (WP.ret ?_))
    refine retQ_ret (v := (.bool (decide (((-1) : Int) ≥ 0)))) Tryz.results53 (Res.tmp rfl Res.nil) rfl (fun w' s => ⟨_, ?_, s⟩)
    refine wq rfl rfl rfl (ov_not rfl rfl) ?_
    refine wq rfl rfl rfl (ov_assign rfl rfl) ?_
    refine WL.nil (then_normal (WP.ret ?_))
    obtain rfl := Option.some.inj hm
    refine retQ_ret Tryz.results40 (Res.tmp rfl Res.nil) rfl (fun w' s => ⟨s.below, ?_⟩)
    exact rfl

theorem stroke_Apply_con (p_x : Step) (p_ends : (List Bool)) (ao1 : Option Addr) (cap1 : Nat) (ao2 : Option Addr) (cap2 : Nat) (w : World) (H : Heap) (hH : Le H (hp w)) (h1 : SL H encStroke ao1 p_x.strokes) (hc1 : p_x.strokes.length ≤ cap1) (h2 : SL H encBool ao2 p_ends) (hc2 : p_ends.length ≤ cap2) (hG : Glob H) (r : ((List Bool) × Int)) (hm : stroke_Apply p_x p_ends = some r) :
    Con Tryz.prog 22 [(.agg #[(.slice ao1 p_x.strokes.length cap1), (.int .i64 p_x.wait)]), (.slice ao2 p_ends.length cap2)] w H (fun v H' => ∃ (ao3 : Option Addr) (cap3 : Nat), v = (.tuple #[(.slice ao3 r.1.length cap3), (.int .i64 r.2)]) ∧ SL H' encBool ao3 r.1 ∧ r.1.length ≤ cap3) := by
  unfold stroke_Apply at hm
  refine con_of hH Tryz.func22 rfl 37 Tryz.ntmps22 rfl ?_
  refine WP.seq (WP.region ?_)
  refine WL.step (Runs.free rfl) rfl rfl (os_box (cs := [(.slice ao1 p_x.strokes.length cap1), (.int .i64 p_x.wait)]) rfl rfl rfl (fun b1 => ?_))
  refine wq rfl rfl rfl (ov_assign rfl rfl) ?_
  refine wq rfl rfl rfl (ov_assign rfl rfl) ?_
  refine WL.nil (then_normal (WP.seq (WP.seq (WP.region ?_))))
  refine wq rfl rfl rfl (ov_load_whole (i := 0) Tryz.isAgg26 Tryz.sizeOf26 rfl rfl rfl rfl) ?_
  refine wq rfl rfl rfl (ov_move rfl rfl) ?_
  obtain ⟨r1, e1, hm⟩ := bind_some hm
  refine WL.quiet (Runs.free rfl) rfl rfl (oq_con (r := (.int .i64 r1)) Tryz.call39 rfl rfl (fun w' s => ⟨_, (stroke_given_con p_x p_ends ao1 cap1 ao2 cap2  w' H s.hold h1 hc1 h2 hc2 hG r1 e1)⟩)) ?_
  refine wq rfl rfl rfl (ov_assign rfl rfl) ?_
  refine WL.nil (then_normal (WP.seq (WP.region ?_)))
  refine wq rfl rfl rfl (ov_move rfl rfl) ?_
  refine wq rfl rfl rfl (ov_neq rfl rfl rfl) ?_
  refine WL.nil (then_normal ?_)
  refine WP.cond rfl (fun hc4 => ?_) (fun hc4 => ?_)
  · replace hm := ite_t hc4 hm
    refine WP.seq (WP.region ?_)
    refine wq rfl rfl rfl (ov_move rfl rfl) ?_
    refine wq rfl rfl rfl (ov_assign rfl rfl) ?_
    refine wq rfl rfl rfl (ov_assign rfl rfl) ?_
    refine WL.nil (then_normal (WP.ret (then_ret ?_)))
    obtain rfl := Option.some.inj hm
    refine retQ_ret Tryz.results22 (Res.tmp rfl (Res.tmp rfl Res.nil)) rfl (fun w' s => ⟨s.below, ?_⟩)
    exact ⟨none, 0, rfl, SL.nil _ _ _, Nat.le_refl _⟩
  · replace hm := ite_f hc4 hm
    refine WP.skip (then_normal (WP.seq (WP.seq (WP.region ?_))))
    refine wq rfl rfl rfl (ov_load_whole (i := 0) Tryz.isAgg26 Tryz.sizeOf26 rfl rfl rfl rfl) ?_
    refine wq rfl rfl rfl (ov_move rfl rfl) ?_
    obtain ⟨r2, e2, hm⟩ := bind_some hm
    refine WL.quiet (Runs.free rfl) rfl rfl (oq_con (r := (.bool r2)) Tryz.call40 rfl rfl (fun w' s => ⟨_, (stroke_fits_con p_x p_ends ao1 cap1 ao2 cap2  w' H s.hold h1 hc1 h2 hc2 hG r2 e2)⟩)) ?_
    refine wq rfl rfl rfl (ov_not rfl rfl) ?_
    refine WL.nil (then_normal ?_)
    refine WP.cond rfl (fun hc5 => ?_) (fun hc5 => ?_)
    · replace hm := ite_t hc5 hm
      refine WP.seq (WP.region ?_)
      refine wq rfl rfl rfl (ov_assign rfl rfl) ?_
      refine wq rfl rfl rfl (ov_assign rfl rfl) ?_
      refine WL.nil (then_normal (WP.ret (then_ret ?_)))
      obtain rfl := Option.some.inj hm
      refine retQ_ret Tryz.results22 (Res.tmp rfl (Res.tmp rfl Res.nil)) rfl (fun w' s => ⟨s.below, ?_⟩)
      exact ⟨none, 0, rfl, SL.nil _ _ _, Nat.le_refl _⟩
    · replace hm := ite_f hc5 hm
      refine WP.skip (then_normal (WP.seq (WP.region ?_)))
      refine wq rfl rfl rfl (ov_move rfl rfl) ?_
      obtain ⟨l1, e3, hm⟩ := bind_some hm
      refine WL.step (Runs.free rfl) rfl rfl (os_cloneB rfl rfl h2 hc2 e3 (fun ao4 cap4 xs1 rl1 => ?_))
      refine wq rfl rfl rfl (ov_assign rfl rfl) ?_
      refine WL.nil (then_normal ?_)
      obtain ⟨k1, hk1, hm⟩ := joinK_some hm
      refine WP.seq_join (fun g' S' => ∃ (l3 : (List Bool)) (ao6 : Option Addr) (cap6 : Nat) (xs3 : List Value), RL H encBool l3 xs3 ∧ Sub [(7, (.slice ao6 l3.length cap6)), (1000000007, (.bool false))] g' ∧ (∀ w', S' w' → St w H [.row 4 (encBool).size l3.length (.slice ao6 l3.length cap6) xs3] H w') ∧ k1 l3 = some r) ?_ ?_
      · skip
        refine WP.seq (WP.region ?_)
        refine wq rfl rfl rfl (ov_fieldAddr Tryz.underlying26 rfl rfl rfl Tryz.sizeOf24 rfl rfl) ?_
        refine wq rfl rfl rfl (ov_load_box (i := 1) Tryz.isAgg24 rfl rfl rfl rfl) ?_
        refine wq rfl rfl rfl (ov_len_slice Tryz.underlying24 rfl rfl) ?_
        refine wq rfl rfl rfl (ov_move rfl rfl) ?_
        refine WL.nil (then_normal (WP.block ?_))
        refine WP.loop (fun m1 g' S' => ∃ (i1 : Int) (l2 : (List Bool)) (ao5 : Option Addr) (cap5 : Nat) (xs2 : List Value), RL H encBool l2 xs2 ∧ Sub [(7, (.slice ao5 l2.length cap5)), (23, (.slice ao1 p_x.strokes.length cap1)), (24, (.int .i64 (p_x.strokes.length : Int))), (25, (.int .i64 i1)), (1000000007, (.bool false))] g' ∧ (∀ w', S' w' → St w H [.row 4 (encBool).size l2.length (.slice ao5 l2.length cap5) xs2] H w') ∧ stroke_Apply_loop1 p_x k1 m1 i1 l2 = some r) ((Int.toNat ((p_x.strokes.length : Int) - 0) + 1)) ⟨0, p_ends, ao4, cap4, xs1, rl1, (Sub.cons rfl (Sub.cons rfl (Sub.cons rfl (Sub.cons rfl (Sub.cons rfl (Sub.nil _)))))), fun w' s => (s.select [0] (by decide) rfl), hm⟩ ?_ ?_
        · rintro g' S' ⟨_, _, _, _, _, _, _, _, hm⟩
          exact none_some hm
        · rintro m1 g' S' ⟨i1, l2, ao5, cap5, xs2, rl2, hsub1, hS1, hm⟩
          refine WP.sub hsub1 (WP.weaken hS1 ?_)
          rw [stroke_Apply_loop1] at hm
          refine WP.seq (WP.region ?_)
          refine wq rfl rfl rfl (ov_lss rfl rfl rfl) ?_
          refine WL.nil (then_normal (WP.seq ?_))
          refine WP.cond rfl (fun hc6 => ?_) (fun hc6 => ?_)
          · replace hm := ite_t hc6 hm
            refine WP.skip (then_normal (WP.seq (WP.block (WP.seq (WP.region ?_)))))
            obtain ⟨x1, e4, hm⟩ := bind_some hm
            obtain ⟨h4, h5, h6, cs1, h7, h8⟩ := h1.get e4 (by decide)
            obtain rfl : cs1 = [(.int .i64 x1.actuator), (.bool x1.out)] := h7
            refine wq rfl rfl rfl (ov_indexAddr Tryz.underlying24 Tryz.sizeOf53 rfl rfl rfl h4 h5 h6) ?_
            refine wq rfl rfl rfl (ov_load_elems (vs := [(.int .i64 x1.actuator), (.bool x1.out)]) Tryz.isAgg53 Tryz.sizeOf53 rfl rfl rfl h8 h6) ?_
            refine WL.step (Runs.free rfl) rfl rfl (os_alloc (cs := [(.int .i64 0), (.bool false)]) Tryz.zeroValue53 rfl rfl (fun b2 => ?_))
            refine WL.step0 (Runs.free rfl) rfl (os_store (i := 0) (vs := [(.int .i64 x1.actuator), (.bool x1.out)]) (cs' := [(.int .i64 x1.actuator), (.bool x1.out)]) Tryz.sizeOf53 rfl rfl rfl rfl rfl rfl rfl rfl rfl ?_)
            refine WL.nil (then_normal (WP.region ?_))
            refine wq rfl rfl rfl (ov_move rfl rfl) ?_
            refine wq rfl rfl rfl (ov_fieldAddr Tryz.underlying53 rfl rfl rfl Tryz.sizeOf3 rfl rfl) ?_
            refine wq rfl rfl rfl (ov_load_box (i := 0) Tryz.isAgg3 rfl rfl rfl rfl) ?_
            refine wq rfl rfl rfl (ov_fieldAddr Tryz.underlying53 rfl rfl rfl Tryz.sizeOf4 rfl rfl) ?_
            refine wq rfl rfl rfl (ov_load_box (i := 0) Tryz.isAgg4 rfl rfl rfl rfl) ?_
            obtain ⟨x2, e5, hm⟩ := bind_some hm
            obtain ⟨h9, h10, h11, cs2, h12, h13⟩ := RL.get rl2 e5
            obtain rfl : cs2 = [(.bool x2)] := h12
            refine wq rfl rfl rfl (ov_indexAddr_own (i := 1) Tryz.underlying51 Tryz.sizeOf4 rfl rfl rfl rfl h9 h10) ?_
            have rl3 := RL.set rl2 (y := x1.out) (off := 0) (vs := [(.bool x1.out)]) e5 h13 rfl (Nat.le_of_ble_eq_true rfl)
            have e6 := at?_set (y := x1.out) e5
            refine WL.step0 (Runs.free rfl) rfl (os_store_own (i := 1) (vs := [(.bool x1.out)]) Tryz.sizeOf4 rfl rfl rfl rfl (own_pos h9 h10) rfl rfl (elem_le (off := 0) h11 (Nat.le_of_ble_eq_true rfl)) rfl ?_)
            rw [show l2.length = (List.set l2 (Int.toNat x1.actuator) x1.out).length from List.length_set.symm]
            obtain ⟨h14, h15, h16, cs3, h17, h18⟩ := rl3.get e6
            obtain rfl : cs3 = [(.bool x1.out)] := h17
            refine WL.nil (block_normal (then_normal (WP.region ?_)))
            refine wq rfl rfl rfl (ov_add rfl rfl rfl) ?_
            refine wq rfl rfl rfl (ov_move rfl rfl) ?_
            refine WL.nil (then_normal ?_)
            exact ⟨(IntKind.wrap .i64 (i1 + 1)), (List.set l2 (Int.toNat x1.actuator) x1.out), ao5, cap5, (spl xs2 (Int.toNat x1.actuator * encBool.size + 0) [(.bool x1.out)]), rl3, (Sub.cons rfl (Sub.cons rfl (Sub.cons rfl (Sub.cons rfl (Sub.cons rfl (Sub.nil _)))))), fun w' s => (s.select [1] (by decide) rfl), hm⟩
          · replace hm := ite_f hc6 hm
            refine WP.exit (then_exit (then_exit (block_here (then_normal ?_))))
            exact ⟨l2, ao5, cap5, xs2, rl2, (Sub.cons rfl (Sub.cons rfl (Sub.nil _))), fun w' s => s, hm⟩
      · rintro g' S' ⟨l3, ao6, cap6, xs3, rl4, hsub2, hS2, hm⟩
        refine WP.sub hsub2 (WP.weaken hS2 ?_)
        replace hm := (congrFun hk1 l3).symm.trans hm
        refine WP.seq (WP.region ?_)
        refine wq rfl rfl rfl (ov_move rfl rfl) ?_
        refine wq rfl rfl rfl (ov_assign rfl rfl) ?_
        refine wq rfl rfl rfl (ov_assign rfl rfl) ?_
        refine WL.nil (then_normal (WP.ret ?_))
        obtain rfl := Option.some.inj hm
        refine retQ_ret Tryz.results22 (Res.tmp rfl (Res.tmp rfl Res.nil)) rfl (fun w' s => ⟨s.below, ?_⟩)
        obtain ⟨h19, hc7⟩ := s.ret_row (i := 0) rfl rl4
        exact ⟨ao6, cap6, rfl, h19, hc7⟩

end Go.Proofs.YtbiifgojhljkjaaGreatDoor.W
