/- The walks. Written by our own program gen.py; Lean checks it. -/
import Derived.Test.YtbiifgojhljkjaaGreatDoorPlain
import Derived.Test.YtbiifgojhljkjaaGreatDoorEqs
import Derived.Test.YtbiifgojhljkjaaGreatDoorProg
import Derived.Test.YtbiifgojhljkjaaGreatDoorExt
import Derived.Test.YtbiifgojhljkjaaGreatDoorClone
import Derived.Test.YtbiifgojhljkjaaGreatDoorWalk1
set_option linter.unusedVariables false
set_option maxRecDepth 100000
set_option maxHeartbeats 4000000
namespace Go.Proofs.YtbiifgojhljkjaaGreatDoor.W
open Go Go.RowKit
theorem slices_Equal_boolbool_con (p_s1 : (List Bool)) (p_s2 : (List Bool)) (ao1 : Option Addr) (cap1 : Nat) (ao2 : Option Addr) (cap2 : Nat) (w : World) (H : Heap) (hH : Le H (hp w)) (h1 : SL H encBool ao1 p_s1) (hc1 : p_s1.length ≤ cap1) (h2 : SL H encBool ao2 p_s2) (hc2 : p_s2.length ≤ cap2) (hG : Glob H) (r : Bool) (hm : slices_Equal_boolbool p_s1 p_s2 = some r) :
    Con Tryz.prog 23 [(.slice ao1 p_s1.length cap1), (.slice ao2 p_s2.length cap2)] w H (fun v _ => v = (.bool r)) := by
  unfold slices_Equal_boolbool at hm
  refine con_of hH Tryz.func23 rfl 26 Tryz.ntmps23 rfl ?_
  refine WP.seq (WP.region ?_)
  refine wq rfl rfl rfl (ov_assign rfl rfl) ?_
  refine WL.nil (then_normal (WP.seq (WP.seq (WP.region ?_))))
  refine wq rfl rfl rfl (ov_move rfl rfl) ?_
  refine wq rfl rfl rfl (ov_len_slice Tryz.underlying51 rfl rfl) ?_
  refine wq rfl rfl rfl (ov_move rfl rfl) ?_
  refine wq rfl rfl rfl (ov_len_slice Tryz.underlying51 rfl rfl) ?_
  refine wq rfl rfl rfl (ov_neq rfl rfl rfl) ?_
  refine WL.nil (then_normal ?_)
  refine WP.cond rfl (fun hc3 => ?_) (fun hc3 => ?_)
  · replace hm := ite_t hc3 hm
    refine WP.seq (WP.region ?_)
    refine wq rfl rfl rfl (ov_assign rfl rfl) ?_
    refine WL.nil (then_normal (WP.ret (then_ret ?_)))
    obtain rfl := Option.some.inj hm
    refine retQ_ret Tryz.results23 (Res.tmp rfl Res.nil) rfl (fun w' s => ⟨s.below, ?_⟩)
    exact rfl
  · replace hm := ite_f hc3 hm
    refine WP.skip (then_normal ?_)
    obtain ⟨k1, hk1, hm⟩ := joinK_some hm
    refine WP.seq_join (fun g' S' => Sub [(1000000007, (.bool false))] g' ∧ (∀ w', S' w' → St w H [] H w') ∧ k1 = some r) ?_ ?_
    · skip
      refine WP.seq (WP.region ?_)
      refine wq rfl rfl rfl (ov_move rfl rfl) ?_
      refine wq rfl rfl rfl (ov_len_slice Tryz.underlying51 rfl rfl) ?_
      refine wq rfl rfl rfl (ov_move rfl rfl) ?_
      refine WL.nil (then_normal (WP.block ?_))
      refine WP.loop (fun m1 g' S' => ∃ (i1 : Int), Sub [(0, (.slice ao1 p_s1.length cap1)), (1, (.slice ao2 p_s2.length cap2)), (12, (.int .i64 (p_s1.length : Int))), (13, (.int .i64 i1)), (1000000007, (.bool false))] g' ∧ (∀ w', S' w' → St w H [] H w') ∧ slices_Equal_boolbool_loop1 p_s1 p_s2 k1 m1 i1 = some r) ((Int.toNat ((p_s1.length : Int) - 0) + 1)) ⟨0, (Sub.cons rfl (Sub.cons rfl (Sub.cons rfl (Sub.cons rfl (Sub.cons rfl (Sub.nil _)))))), fun w' s => s, hm⟩ ?_ ?_
      · rintro g' S' ⟨_, _, _, hm⟩
        exact none_some hm
      · rintro m1 g' S' ⟨i1, hsub1, hS1, hm⟩
        refine WP.sub hsub1 (WP.weaken hS1 ?_)
        rw [slices_Equal_boolbool_loop1] at hm
        refine WP.seq (WP.region ?_)
        refine wq rfl rfl rfl (ov_lss rfl rfl rfl) ?_
        refine WL.nil (then_normal (WP.seq ?_))
        refine WP.cond rfl (fun hc4 => ?_) (fun hc4 => ?_)
        · replace hm := ite_t hc4 hm
          refine WP.skip (then_normal (WP.seq (WP.block (WP.seq (WP.region ?_)))))
          refine wq rfl rfl rfl (ov_move rfl rfl) ?_
          refine wq rfl rfl rfl (ov_assign rfl rfl) ?_
          refine WL.nil (then_normal (WP.seq ?_))
          refine WP.region_draws (by kernel_rfl) (by kernel_rfl) (fun _ s => s.drew) ?_
          refine QL.quiet (Runs.free rfl) rfl rfl (OV.quiet (ov_move rfl rfl)) ?_
          refine QL.quiet (Runs.free rfl) rfl rfl (OV.quiet (ov_move rfl rfl)) ?_
          obtain ⟨x1, e1, hm⟩ := bind_some hm
          obtain ⟨h3, h4, h5, cs1, h6, h7⟩ := h1.get e1 (by decide)
          obtain rfl : cs1 = [(.bool x1)] := h6
          refine QL.quiet (Runs.free rfl) rfl rfl (OV.quiet (ov_indexAddr Tryz.underlying51 Tryz.sizeOf4 rfl rfl rfl h3 h4 h5)) ?_
          refine QL.quiet (Runs.free rfl) rfl rfl (OV.quiet (ov_load_elem (v := (.bool x1)) Tryz.isAgg4 rfl rfl h7)) ?_
          refine QL.quiet (Runs.free rfl) rfl rfl (OV.quiet (ov_move rfl rfl)) ?_
          refine QL.quiet (Runs.free rfl) rfl rfl (OV.quiet (ov_move rfl rfl)) ?_
          obtain ⟨x2, e2, hm⟩ := bind_some hm
          obtain ⟨h8, h9, h10, cs2, h11, h12⟩ := h2.get e2 (by decide)
          obtain rfl : cs2 = [(.bool x2)] := h11
          refine QL.quiet (Runs.free rfl) rfl rfl (OV.quiet (ov_indexAddr Tryz.underlying51 Tryz.sizeOf4 rfl rfl rfl h8 h9 h10)) ?_
          refine QL.quiet (Runs.free rfl) rfl rfl (OV.quiet (ov_load_elem (v := (.bool x2)) Tryz.isAgg4 rfl rfl h12)) ?_
          refine QL.quiet (Runs.free rfl) rfl rfl (OV.quiet (ov_bneq Tryz.underlying4 rfl rfl rfl)) ?_
          refine QL.nil ?_
          refine then_normal ?_
          refine WP.cond rfl (fun hc5 => ?_) (fun hc5 => ?_)
          · replace hm := ite_t hc5 hm
            refine WP.seq (WP.region ?_)
            refine wq rfl rfl rfl (ov_assign rfl rfl) ?_
            refine WL.nil (then_normal (WP.ret (block_ret (then_ret (then_ret (block_ret (then_ret ?_)))))))
            obtain rfl := Option.some.inj hm
            refine retQ_ret Tryz.results23 (Res.tmp rfl Res.nil) rfl (fun w' s => ⟨s.below, ?_⟩)
            exact rfl
          · replace hm := ite_f hc5 hm
            refine WP.skip (block_normal (then_normal (WP.region ?_)))
            refine wq rfl rfl rfl (ov_add rfl rfl rfl) ?_
            refine wq rfl rfl rfl (ov_move rfl rfl) ?_
            refine WL.nil (then_normal ?_)
            exact ⟨(IntKind.wrap .i64 (i1 + 1)), (Sub.cons rfl (Sub.cons rfl (Sub.cons rfl (Sub.cons rfl (Sub.cons rfl (Sub.nil _)))))), fun w' s => s, hm⟩
        · replace hm := ite_f hc4 hm
          refine WP.exit (then_exit (then_exit (block_here (then_normal ?_))))
          exact ⟨(Sub.cons rfl (Sub.nil _)), fun w' s => s, hm⟩
    · rintro g' S' ⟨hsub2, hS2, hm⟩
      refine WP.sub hsub2 (WP.weaken hS2 ?_)
      replace hm := hk1.symm.trans hm
      refine WP.seq (WP.region ?_)
      refine wq rfl rfl rfl (ov_assign rfl rfl) ?_
      refine WL.nil (then_normal (WP.ret ?_))
      obtain rfl := Option.some.inj hm
      refine retQ_ret Tryz.results23 (Res.tmp rfl Res.nil) rfl (fun w' s => ⟨s.below, ?_⟩)
      exact rfl

theorem law13_awake_con  (w : World) (H : Heap) (hH : Le H (hp w)) (hG : Glob H) (r : Bool) (hm : law13_awake  = some r) :
    Con Tryz.prog 9 [] w H (fun v _ => v = (.bool r)) := by
  unfold law13_awake at hm
  refine con_of hH Tryz.func9 rfl 86 Tryz.ntmps9 rfl ?_
  refine WP.seq (WP.region ?_)
  refine wq rfl rfl rfl (ov_assign rfl rfl) ?_
  refine WL.nil (then_normal (WP.seq (WP.region ?_)))
  refine wq rfl rfl rfl (ov_build (r := (.agg #[(.int .i64 0), (.bool true)])) rfl rfl (fun _ => by kernel_rfl)) ?_
  refine wq rfl rfl rfl (ov_build (r := (.agg #[(.int .i64 1), (.bool false)])) rfl rfl (fun _ => by kernel_rfl)) ?_
  have rl1 : RL H encStroke ([(Stroke.mk 0 true), (Stroke.mk 1 false)] : List Stroke) [(.int .i64 0), (.bool true), (.int .i64 1), (.bool false)] := RL.cons (cs := [(.int .i64 0), (.bool true)]) (xs := [(.int .i64 1), (.bool false)]) rfl (RL.cons (cs := [(.int .i64 1), (.bool false)]) (xs := []) rfl (RL.nil _ _))
  refine WL.step (Runs.free rfl) rfl rfl (os_buildSlice (cs := [(.int .i64 0), (.bool true), (.int .i64 1), (.bool false)]) (E := 53) (sz := 2) rfl rfl (fun _ => by kernel_rfl) rfl (by decide) (fun b1 => ?_))
  refine WL.held rl1 (fun H1 hc1 hle1 h1 => ?_)
  replace hG := hG.mono hle1
  refine wq rfl rfl rfl (ov_build (r := (.agg #[(.slice (some ⟨b1, 0, none⟩) ([(Stroke.mk 0 true), (Stroke.mk 1 false)] : List Stroke).length 2), (.int .i64 200)])) rfl rfl (fun _ => by kernel_rfl)) ?_
  refine WL.step (Runs.free rfl) rfl rfl (os_alloc (cs := [(.slice none 0 0), (.int .i64 0)]) Tryz.zeroValue26 rfl rfl (fun b2 => ?_))
  refine WL.step0 (Runs.free rfl) rfl (os_store (i := 0) (vs := [(.slice (some ⟨b1, 0, none⟩) ([(Stroke.mk 0 true), (Stroke.mk 1 false)] : List Stroke).length 2), (.int .i64 200)]) (cs' := [(.slice (some ⟨b1, 0, none⟩) ([(Stroke.mk 0 true), (Stroke.mk 1 false)] : List Stroke).length 2), (.int .i64 200)]) Tryz.sizeOf26 rfl rfl rfl rfl rfl rfl rfl rfl rfl ?_)
  refine WL.nil (then_normal (WP.seq (WP.region ?_)))
  refine wq rfl rfl rfl (ov_load_whole (i := 0) Tryz.isAgg26 Tryz.sizeOf26 rfl rfl rfl rfl) ?_
  have rl2 : RL H1 encStep ([(Step.mk ([(Stroke.mk 0 true), (Stroke.mk 1 false)] : List Stroke) 200)] : List Step) [(.slice (some ⟨b1, 0, none⟩) ([(Stroke.mk 0 true), (Stroke.mk 1 false)] : List Stroke).length 2), (.int .i64 200)] := RL.cons (cs := [(.slice (some ⟨b1, 0, none⟩) ([(Stroke.mk 0 true), (Stroke.mk 1 false)] : List Stroke).length 2), (.int .i64 200)]) (xs := []) ⟨(some ⟨b1, 0, none⟩), 2, rfl, h1, hc1⟩ (RL.nil _ _)
  refine WL.step (Runs.free rfl) rfl rfl (os_buildSlice (cs := [(.slice (some ⟨b1, 0, none⟩) ([(Stroke.mk 0 true), (Stroke.mk 1 false)] : List Stroke).length 2), (.int .i64 200)]) (E := 26) (sz := 2) rfl rfl (fun _ => by kernel_rfl) rfl (by decide) (fun b3 => ?_))
  refine WL.held rl2 (fun H2 hc2 hle2 h2 => ?_)
  replace h1 := h1.mono hle2
  replace hG := hG.mono hle2
  obtain ⟨r1, e1, hm⟩ := bind_some hm
  refine WL.quiet (Runs.free rfl) rfl rfl (oq_con (r := (.tuple #[(mkS r1.1), (.int .i64 r1.2)])) Tryz.call10 rfl rfl (fun w' s => ⟨_, (stroke_Format_con ([(Step.mk ([(Stroke.mk 0 true), (Stroke.mk 1 false)] : List Stroke) 200)] : List Step) (some ⟨b3, 0, none⟩) 1  w' H2 s.hold h2 hc2 hG r1 e1)⟩)) ?_
  refine wq rfl rfl rfl (ov_move rfl rfl) ?_
  refine wq rfl rfl rfl (ov_extract rfl rfl rfl) ?_
  refine wq rfl rfl rfl (ov_extract rfl rfl rfl) ?_
  refine wq rfl rfl rfl (ov_assign rfl rfl) ?_
  refine wq rfl rfl rfl (ov_assign rfl rfl) ?_
  refine WL.nil (then_normal (WP.seq (WP.region ?_)))
  refine wq rfl rfl rfl (ov_load_whole (i := 0) Tryz.isAgg26 Tryz.sizeOf26 rfl rfl rfl rfl) ?_
  have rl3 : RL H2 encBool ([false, true] : List Bool) [(.bool false), (.bool true)] := RL.cons (cs := [(.bool false)]) (xs := [(.bool true)]) rfl (RL.cons (cs := [(.bool true)]) (xs := []) rfl (RL.nil _ _))
  refine WL.step (Runs.free rfl) rfl rfl (os_buildSlice (cs := [(.bool false), (.bool true)]) (E := 4) (sz := 1) rfl rfl (fun _ => by kernel_rfl) rfl (by decide) (fun b4 => ?_))
  refine WL.held rl3 (fun H3 hc3 hle3 h3 => ?_)
  replace h1 := h1.mono hle3
  replace h2 := h2.mono hle3
  replace hG := hG.mono hle3
  obtain ⟨r2, e2, hm⟩ := bind_some hm
  refine WL.step (Runs.free rfl) rfl rfl (os_con Tryz.call22 rfl rfl (fun w' s => (stroke_Apply_con (Step.mk ([(Stroke.mk 0 true), (Stroke.mk 1 false)] : List Stroke) 200) ([false, true] : List Bool) (some ⟨b1, 0, none⟩) 2 (some ⟨b4, 0, none⟩) 2  w' H3 s.hold h1 hc1 h3 hc3 hG r2 e2)) (fun rr1 H4 hle4 hR1 => ?_))
  replace h1 := h1.mono hle4
  replace h2 := h2.mono hle4
  replace h3 := h3.mono hle4
  replace hG := hG.mono hle4
  obtain ⟨ao1, cap1, rfl, h4, hc4⟩ := hR1
  refine wq rfl rfl rfl (ov_move rfl rfl) ?_
  refine wq rfl rfl rfl (ov_extract rfl rfl rfl) ?_
  refine wq rfl rfl rfl (ov_extract rfl rfl rfl) ?_
  refine wq rfl rfl rfl (ov_assign rfl rfl) ?_
  refine wq rfl rfl rfl (ov_assign rfl rfl) ?_
  refine WL.nil (then_normal (WP.seq (WP.region ?_)))
  obtain ⟨r3, e3, hm⟩ := bind_some hm
  refine WL.step (Runs.free rfl) rfl rfl (os_con Tryz.call12 rfl rfl (fun w' s => (stroke_Parse_con [65, 43, 59, 32, 66, 43, 32, 67, 43, 59, 32, 65, 45]  w' H4 s.hold hG r3 e3)) (fun rr2 H5 hle5 hR2 => ?_))
  replace h1 := h1.mono hle5
  replace h2 := h2.mono hle5
  replace h3 := h3.mono hle5
  replace h4 := h4.mono hle5
  replace hG := hG.mono hle5
  obtain ⟨ao2, cap2, rfl, h5, hc5⟩ := hR2
  refine wq rfl rfl rfl (ov_move rfl rfl) ?_
  refine wq rfl rfl rfl (ov_extract rfl rfl rfl) ?_
  refine wq rfl rfl rfl (ov_extract rfl rfl rfl) ?_
  refine wq rfl rfl rfl (ov_extract rfl rfl rfl) ?_
  refine wq rfl rfl rfl (ov_assign rfl rfl) ?_
  refine wq rfl rfl rfl (ov_assign rfl rfl) ?_
  refine wq rfl rfl rfl (ov_assign rfl rfl) ?_
  refine WL.nil (then_normal (WP.seq (WP.seq (WP.region ?_))))
  refine wq rfl rfl rfl (ov_move rfl rfl) ?_
  refine wq rfl rfl rfl (ov_move rfl rfl) ?_
  refine wq rfl rfl rfl (ov_add rfl rfl rfl) ?_
  refine wq rfl rfl rfl (ov_move rfl rfl) ?_
  refine wq rfl rfl rfl (ov_add rfl rfl rfl) ?_
  refine wq rfl rfl rfl (ov_neq rfl rfl rfl) ?_
  refine wq rfl rfl rfl (ov_move rfl rfl) ?_
  refine WL.cut_bool 3 44 (x := (((IntKind.wrap .i64 ((IntKind.wrap .i64 (r1.2 + r2.2)) + r3.2.2)) != 0) || (!(r1.1 == [65, 43, 32, 66, 45, 32, 50, 48, 48])))) ?_ ?_
  · rcases Bool.eq_false_or_eq_true ((IntKind.wrap .i64 ((IntKind.wrap .i64 (r1.2 + r2.2)) + r3.2.2)) != 0) with hc6 | hc6
    · skip
      refine WL.idle (Idle.no rfl rfl rfl hc6) rfl rfl ?_
      refine WL.idle (Idle.no rfl rfl rfl hc6) rfl rfl ?_
      refine wq rfl rfl rfl (ov_pick_true rfl (guard_eq rfl hc6) rfl) ?_
      exact WL.nil ⟨Sub.cons' rfl (congrArg Value.bool (orT hc6)) (Sub.skip rfl (Sub.skip rfl (Sub.skip rfl (Sub.refl _)))), fun _ s => s⟩
    · skip
      refine WL.quiet (Runs.yes rfl rfl rfl hc6) rfl rfl (OV.quiet (ov_move rfl rfl)) ?_
      refine WL.quiet (Runs.yes rfl rfl rfl hc6) rfl rfl (OV.quiet (ov_sneq rfl rfl rfl)) ?_
      refine wq rfl rfl rfl (ov_pick_false rfl (guard_eq rfl hc6) rfl) ?_
      exact WL.nil ⟨Sub.cons' rfl (congrArg Value.bool (orF hc6)) (Sub.skip rfl (Sub.skip rfl (Sub.skip rfl (Sub.refl _)))), fun _ s => s⟩
  refine wq rfl rfl rfl (ov_move rfl rfl) ?_
  obtain ⟨c1, e4, hm⟩ := bind_some hm
  refine WL.cut_bool 5 50 (x := c1) ?_ ?_
  · rcases Bool.eq_false_or_eq_true (((IntKind.wrap .i64 ((IntKind.wrap .i64 (r1.2 + r2.2)) + r3.2.2)) != 0) || (!(r1.1 == [65, 43, 32, 66, 45, 32, 50, 48, 48]))) with hc7 | hc7
    · skip
      replace hm := ite_t hc7 e4
      refine WL.idle (Idle.no rfl rfl rfl hc7) rfl rfl ?_
      refine WL.idle (Idle.no rfl rfl rfl hc7) rfl rfl ?_
      refine WL.idle (Idle.no rfl rfl rfl hc7) rfl rfl ?_
      refine WL.idle (Idle.no rfl rfl rfl hc7) rfl rfl ?_
      refine wq rfl rfl rfl (ov_pick_true rfl (guard_eq rfl hc7) rfl) ?_
      exact WL.nil ⟨Sub.cons' rfl (congrArg Value.bool (Option.some.inj hm)) (Sub.skip rfl (Sub.skip rfl (Sub.skip rfl (Sub.skip rfl (Sub.skip rfl (Sub.refl _)))))), fun _ s => s⟩
    · skip
      replace hm := ite_f hc7 e4
      refine WL.quiet (Runs.yes rfl rfl rfl hc7) rfl rfl (OV.quiet (ov_move rfl rfl)) ?_
      have rl4 : RL H5 encBool ([true, false] : List Bool) [(.bool true), (.bool false)] := RL.cons (cs := [(.bool true)]) (xs := [(.bool false)]) rfl (RL.cons (cs := [(.bool false)]) (xs := []) rfl (RL.nil _ _))
      refine WL.step (Runs.yes rfl rfl rfl hc7) rfl rfl (os_buildSlice (cs := [(.bool true), (.bool false)]) (E := 4) (sz := 1) rfl rfl (fun _ => by kernel_rfl) rfl (by decide) (fun b5 => ?_))
      refine WL.held rl4 (fun H6 hc8 hle6 h6 => ?_)
      replace h1 := h1.mono hle6
      replace h2 := h2.mono hle6
      replace h3 := h3.mono hle6
      replace h4 := h4.mono hle6
      replace h5 := h5.mono hle6
      replace hG := hG.mono hle6
      obtain ⟨r4, e5, hm⟩ := bind_some hm
      refine WL.quiet (Runs.yes rfl rfl rfl hc7) rfl rfl (oq_con (r := (.bool r4)) Tryz.call23 rfl rfl (fun w' s => ⟨_, (slices_Equal_boolbool_con r2.1 ([true, false] : List Bool) ao1 cap1 (some ⟨b5, 0, none⟩) 2  w' H6 s.hold h4 hc4 h6 hc8 hG r4 e5)⟩)) ?_
      refine WL.quiet (Runs.yes rfl rfl rfl hc7) rfl rfl (OV.quiet (ov_not rfl rfl)) ?_
      refine wq rfl rfl rfl (ov_pick_false rfl (guard_eq rfl hc7) rfl) ?_
      exact WL.nil ⟨Sub.cons' rfl (congrArg Value.bool (Option.some.inj hm)) (Sub.skip rfl (Sub.skip rfl (Sub.skip rfl (Sub.skip rfl (Sub.skip rfl (Sub.refl _)))))), fun _ s => (s.heap hle6)⟩
  refine wq rfl rfl rfl (ov_move rfl rfl) ?_
  refine WL.cut_bool 4 55 (x := (c1 || ((r3.1.length : Int) != 3))) ?_ ?_
  · rcases Bool.eq_false_or_eq_true c1 with hc9 | hc9
    · skip
      refine WL.idle (Idle.no rfl rfl rfl hc9) rfl rfl ?_
      refine WL.idle (Idle.no rfl rfl rfl hc9) rfl rfl ?_
      refine WL.idle (Idle.no rfl rfl rfl hc9) rfl rfl ?_
      refine wq rfl rfl rfl (ov_pick_true rfl (guard_eq rfl hc9) rfl) ?_
      exact WL.nil ⟨Sub.cons' rfl (congrArg Value.bool (orT hc9)) (Sub.skip rfl (Sub.skip rfl (Sub.skip rfl (Sub.skip rfl (Sub.refl _))))), fun _ s => s⟩
    · skip
      refine WL.quiet (Runs.yes rfl rfl rfl hc9) rfl rfl (OV.quiet (ov_move rfl rfl)) ?_
      refine WL.quiet (Runs.yes rfl rfl rfl hc9) rfl rfl (OV.quiet (ov_len_slice Tryz.underlying22 rfl rfl)) ?_
      refine WL.quiet (Runs.yes rfl rfl rfl hc9) rfl rfl (OV.quiet (ov_neq rfl rfl rfl)) ?_
      refine wq rfl rfl rfl (ov_pick_false rfl (guard_eq rfl hc9) rfl) ?_
      exact WL.nil ⟨Sub.cons' rfl (congrArg Value.bool (orF hc9)) (Sub.skip rfl (Sub.skip rfl (Sub.skip rfl (Sub.skip rfl (Sub.refl _))))), fun _ s => s⟩
  refine WL.nil (then_normal ?_)
  refine WP.cond rfl (fun hc10 => ?_) (fun hc10 => ?_)
  · replace hm := ite_t hc10 hm
    refine WP.seq (WP.region ?_)
    refine wq rfl rfl rfl (ov_assign rfl rfl) ?_
    refine WL.nil (then_normal (WP.ret (then_ret ?_)))
    obtain rfl := Option.some.inj hm
    refine retQ_ret Tryz.results9 (Res.tmp rfl Res.nil) rfl (fun w' s => ⟨s.below, ?_⟩)
    exact rfl
  · replace hm := ite_f hc10 hm
    refine WP.skip (then_normal ?_)
    obtain ⟨k1, hk1, hm⟩ := joinK_some hm
    refine WP.seq_join (fun g' S' => ∃ (H10 : Heap), Le H5 H10 ∧ Sub [(1000000007, (.bool false))] g' ∧ (∀ w', S' w' → St w H [] H10 w') ∧ k1 = some r) ?_ ?_
    · skip
      refine WP.seq (WP.region ?_)
      refine wq rfl rfl rfl (ov_build (r := (.agg #[(mkS [65, 43, 59, 32, 66, 43, 32, 65, 43]), (.int .i64 4), (.int .i64 9)])) rfl rfl (fun _ => by kernel_rfl)) ?_
      refine wq rfl rfl rfl (ov_build (r := (.agg #[(mkS [65, 43, 32, 65, 45]), (.int .i64 0), (.int .i64 7)])) rfl rfl (fun _ => by kernel_rfl)) ?_
      refine wq rfl rfl rfl (ov_build (r := (.agg #[(mkS [65, 43, 59, 66, 43]), (.int .i64 0), (.int .i64 4)])) rfl rfl (fun _ => by kernel_rfl)) ?_
      refine wq rfl rfl rfl (ov_build (r := (.agg #[(mkS [65, 43, 59, 32]), (.int .i64 4), (.int .i64 4)])) rfl rfl (fun _ => by kernel_rfl)) ?_
      refine wq rfl rfl rfl (ov_build (r := (.agg #[(mkS [65, 43, 32, 48]), (.int .i64 0), (.int .i64 4)])) rfl rfl (fun _ => by kernel_rfl)) ?_
      refine wq rfl rfl rfl (ov_build (r := (.agg #[(mkS [71, 43]), (.int .i64 0), (.int .i64 4)])) rfl rfl (fun _ => by kernel_rfl)) ?_
      have rl5 : RL H5 encCase ([(Case.mk [65, 43, 59, 32, 66, 43, 32, 65, 43] 4 9), (Case.mk [65, 43, 32, 65, 45] 0 7), (Case.mk [65, 43, 59, 66, 43] 0 4), (Case.mk [65, 43, 59, 32] 4 4), (Case.mk [65, 43, 32, 48] 0 4), (Case.mk [71, 43] 0 4)] : List Case) [(mkS [65, 43, 59, 32, 66, 43, 32, 65, 43]), (.int .i64 4), (.int .i64 9), (mkS [65, 43, 32, 65, 45]), (.int .i64 0), (.int .i64 7), (mkS [65, 43, 59, 66, 43]), (.int .i64 0), (.int .i64 4), (mkS [65, 43, 59, 32]), (.int .i64 4), (.int .i64 4), (mkS [65, 43, 32, 48]), (.int .i64 0), (.int .i64 4), (mkS [71, 43]), (.int .i64 0), (.int .i64 4)] := RL.cons (cs := [(mkS [65, 43, 59, 32, 66, 43, 32, 65, 43]), (.int .i64 4), (.int .i64 9)]) (xs := [(mkS [65, 43, 32, 65, 45]), (.int .i64 0), (.int .i64 7), (mkS [65, 43, 59, 66, 43]), (.int .i64 0), (.int .i64 4), (mkS [65, 43, 59, 32]), (.int .i64 4), (.int .i64 4), (mkS [65, 43, 32, 48]), (.int .i64 0), (.int .i64 4), (mkS [71, 43]), (.int .i64 0), (.int .i64 4)]) rfl (RL.cons (cs := [(mkS [65, 43, 32, 65, 45]), (.int .i64 0), (.int .i64 7)]) (xs := [(mkS [65, 43, 59, 66, 43]), (.int .i64 0), (.int .i64 4), (mkS [65, 43, 59, 32]), (.int .i64 4), (.int .i64 4), (mkS [65, 43, 32, 48]), (.int .i64 0), (.int .i64 4), (mkS [71, 43]), (.int .i64 0), (.int .i64 4)]) rfl (RL.cons (cs := [(mkS [65, 43, 59, 66, 43]), (.int .i64 0), (.int .i64 4)]) (xs := [(mkS [65, 43, 59, 32]), (.int .i64 4), (.int .i64 4), (mkS [65, 43, 32, 48]), (.int .i64 0), (.int .i64 4), (mkS [71, 43]), (.int .i64 0), (.int .i64 4)]) rfl (RL.cons (cs := [(mkS [65, 43, 59, 32]), (.int .i64 4), (.int .i64 4)]) (xs := [(mkS [65, 43, 32, 48]), (.int .i64 0), (.int .i64 4), (mkS [71, 43]), (.int .i64 0), (.int .i64 4)]) rfl (RL.cons (cs := [(mkS [65, 43, 32, 48]), (.int .i64 0), (.int .i64 4)]) (xs := [(mkS [71, 43]), (.int .i64 0), (.int .i64 4)]) rfl (RL.cons (cs := [(mkS [71, 43]), (.int .i64 0), (.int .i64 4)]) (xs := []) rfl (RL.nil _ _))))))
      refine WL.step (Runs.free rfl) rfl rfl (os_buildSlice (cs := [(mkS [65, 43, 59, 32, 66, 43, 32, 65, 43]), (.int .i64 4), (.int .i64 9), (mkS [65, 43, 32, 65, 45]), (.int .i64 0), (.int .i64 7), (mkS [65, 43, 59, 66, 43]), (.int .i64 0), (.int .i64 4), (mkS [65, 43, 59, 32]), (.int .i64 4), (.int .i64 4), (mkS [65, 43, 32, 48]), (.int .i64 0), (.int .i64 4), (mkS [71, 43]), (.int .i64 0), (.int .i64 4)]) (E := 57) (sz := 3) rfl rfl (fun _ => by kernel_rfl) rfl (by decide) (fun b6 => ?_))
      refine WL.held rl5 (fun H7 hc11 hle7 h7 => ?_)
      replace h1 := h1.mono hle7
      replace h2 := h2.mono hle7
      replace h3 := h3.mono hle7
      replace h4 := h4.mono hle7
      replace h5 := h5.mono hle7
      replace hG := hG.mono hle7
      refine wq rfl rfl rfl (ov_len_slice Tryz.underlying58 rfl rfl) ?_
      refine wq rfl rfl rfl (ov_move rfl rfl) ?_
      refine WL.nil (then_normal (WP.block ?_))
      refine WP.loop (fun m1 g' S' => ∃ (H8 : Heap) (i1 : Int), Le H7 H8 ∧ Sub [(62, (.slice (some ⟨b6, 0, none⟩) ([(Case.mk [65, 43, 59, 32, 66, 43, 32, 65, 43] 4 9), (Case.mk [65, 43, 32, 65, 45] 0 7), (Case.mk [65, 43, 59, 66, 43] 0 4), (Case.mk [65, 43, 59, 32] 4 4), (Case.mk [65, 43, 32, 48] 0 4), (Case.mk [71, 43] 0 4)] : List Case).length 6)), (63, (.int .i64 (([(Case.mk [65, 43, 59, 32, 66, 43, 32, 65, 43] 4 9), (Case.mk [65, 43, 32, 65, 45] 0 7), (Case.mk [65, 43, 59, 66, 43] 0 4), (Case.mk [65, 43, 59, 32] 4 4), (Case.mk [65, 43, 32, 48] 0 4), (Case.mk [71, 43] 0 4)] : List Case).length : Int))), (64, (.int .i64 i1)), (1000000007, (.bool false))] g' ∧ (∀ w', S' w' → St w H [] H8 w') ∧ law13_awake_loop1 k1 m1 i1 = some r) ((Int.toNat ((([(Case.mk [65, 43, 59, 32, 66, 43, 32, 65, 43] 4 9), (Case.mk [65, 43, 32, 65, 45] 0 7), (Case.mk [65, 43, 59, 66, 43] 0 4), (Case.mk [65, 43, 59, 32] 4 4), (Case.mk [65, 43, 32, 48] 0 4), (Case.mk [71, 43] 0 4)] : List Case).length : Int) - 0) + 1)) ⟨H7, 0, (Le.refl _), (Sub.cons rfl (Sub.cons rfl (Sub.cons rfl (Sub.cons rfl (Sub.nil _))))), fun w' s => (s.select [] (by decide) rfl), hm⟩ ?_ ?_
      · rintro g' S' ⟨_, _, _, _, _, hm⟩
        exact none_some hm
      · rintro m1 g' S' ⟨H8, i1, hle8, hsub1, hS1, hm⟩
        refine WP.sub hsub1 (WP.weaken hS1 ?_)
        rw [law13_awake_loop1] at hm
        replace h7 := h7.mono hle8
        replace hG := hG.mono hle8
        refine WP.seq (WP.region ?_)
        refine wq rfl rfl rfl (ov_lss rfl rfl rfl) ?_
        refine WL.nil (then_normal (WP.seq ?_))
        refine WP.cond rfl (fun hc12 => ?_) (fun hc12 => ?_)
        · replace hm := ite_t hc12 hm
          refine WP.skip (then_normal (WP.seq (WP.block (WP.seq (WP.region ?_)))))
          obtain ⟨x1, e6, hm⟩ := bind_some hm
          obtain ⟨h8, h9, h10, cs1, h11, h12⟩ := h7.get e6 (by decide)
          obtain rfl : cs1 = [(mkS x1.s), (.int .i64 x1.at_), (.int .i64 x1.e)] := h11
          refine wq rfl rfl rfl (ov_indexAddr Tryz.underlying58 Tryz.sizeOf57 rfl rfl rfl h8 h9 h10) ?_
          refine wq rfl rfl rfl (ov_load_elems (vs := [(mkS x1.s), (.int .i64 x1.at_), (.int .i64 x1.e)]) Tryz.isAgg57 Tryz.sizeOf57 rfl rfl rfl h12 h10) ?_
          refine WL.step (Runs.free rfl) rfl rfl (os_alloc (cs := [(mkS []), (.int .i64 0), (.int .i64 0)]) Tryz.zeroValue57 rfl rfl (fun b7 => ?_))
          refine WL.step0 (Runs.free rfl) rfl (os_store (i := 0) (vs := [(mkS x1.s), (.int .i64 x1.at_), (.int .i64 x1.e)]) (cs' := [(mkS x1.s), (.int .i64 x1.at_), (.int .i64 x1.e)]) Tryz.sizeOf57 rfl rfl rfl rfl rfl rfl rfl rfl rfl ?_)
          refine WL.nil (then_normal (WP.seq (WP.region ?_)))
          refine wq rfl rfl rfl (ov_fieldAddr Tryz.underlying57 rfl rfl rfl Tryz.sizeOf9 rfl rfl) ?_
          refine wq rfl rfl rfl (ov_load_box (i := 0) Tryz.isAgg9 rfl rfl rfl rfl) ?_
          obtain ⟨r5, e7, hm⟩ := bind_some hm
          refine WL.step (Runs.free rfl) rfl rfl (os_con Tryz.call12 rfl rfl (fun w' s => (stroke_Parse_con x1.s  w' H8 s.hold hG r5 e7)) (fun rr3 H9 hle9 hR3 => ?_))
          replace h7 := h7.mono hle9
          replace h12 := h12.mono hle9
          replace hG := hG.mono hle9
          obtain ⟨ao3, cap3, rfl, h13, hc13⟩ := hR3
          refine wq rfl rfl rfl (ov_move rfl rfl) ?_
          refine wq rfl rfl rfl (ov_extract rfl rfl rfl) ?_
          refine wq rfl rfl rfl (ov_extract rfl rfl rfl) ?_
          refine wq rfl rfl rfl (ov_extract rfl rfl rfl) ?_
          refine wq rfl rfl rfl (ov_assign rfl rfl) ?_
          refine wq rfl rfl rfl (ov_assign rfl rfl) ?_
          refine wq rfl rfl rfl (ov_assign rfl rfl) ?_
          refine WL.nil (then_normal (WP.seq (WP.region ?_)))
          refine wq rfl rfl rfl (ov_move rfl rfl) ?_
          refine wq rfl rfl rfl (ov_fieldAddr Tryz.underlying57 rfl rfl rfl Tryz.sizeOf3 rfl rfl) ?_
          refine wq rfl rfl rfl (ov_load_box (i := 0) Tryz.isAgg3 rfl rfl rfl rfl) ?_
          refine wq rfl rfl rfl (ov_neq rfl rfl rfl) ?_
          refine wq rfl rfl rfl (ov_move rfl rfl) ?_
          refine WL.cut_bool 5 84 (x := ((r5.2.1 != x1.at_) || (r5.2.2 != x1.e))) ?_ ?_
          · rcases Bool.eq_false_or_eq_true (r5.2.1 != x1.at_) with hc14 | hc14
            · skip
              refine WL.idle (Idle.no rfl rfl rfl hc14) rfl rfl ?_
              refine WL.idle (Idle.no rfl rfl rfl hc14) rfl rfl ?_
              refine WL.idle (Idle.no rfl rfl rfl hc14) rfl rfl ?_
              refine WL.idle (Idle.no rfl rfl rfl hc14) rfl rfl ?_
              refine wq rfl rfl rfl (ov_pick_true rfl (guard_eq rfl hc14) rfl) ?_
              exact WL.nil ⟨Sub.cons' rfl (congrArg Value.bool (orT hc14)) (Sub.skip rfl (Sub.skip rfl (Sub.skip rfl (Sub.skip rfl (Sub.skip rfl (Sub.refl _)))))), fun _ s => s⟩
            · skip
              refine WL.quiet (Runs.yes rfl rfl rfl hc14) rfl rfl (OV.quiet (ov_move rfl rfl)) ?_
              refine WL.quiet (Runs.yes rfl rfl rfl hc14) rfl rfl (OV.quiet (ov_fieldAddr Tryz.underlying57 rfl rfl rfl Tryz.sizeOf30 rfl rfl)) ?_
              refine WL.quiet (Runs.yes rfl rfl rfl hc14) rfl rfl (OV.quiet (ov_load_box (i := 0) Tryz.isAgg30 rfl rfl rfl rfl)) ?_
              refine WL.quiet (Runs.yes rfl rfl rfl hc14) rfl rfl (OV.quiet (ov_neq rfl rfl rfl)) ?_
              refine wq rfl rfl rfl (ov_pick_false rfl (guard_eq rfl hc14) rfl) ?_
              exact WL.nil ⟨Sub.cons' rfl (congrArg Value.bool (orF hc14)) (Sub.skip rfl (Sub.skip rfl (Sub.skip rfl (Sub.skip rfl (Sub.skip rfl (Sub.refl _)))))), fun _ s => s⟩
          refine WL.nil (then_normal ?_)
          refine WP.cond rfl (fun hc15 => ?_) (fun hc15 => ?_)
          · replace hm := ite_t hc15 hm
            refine WP.seq (WP.region ?_)
            refine wq rfl rfl rfl (ov_assign rfl rfl) ?_
            refine WL.nil (then_normal (WP.ret (block_ret (then_ret (then_ret (block_ret (then_ret ?_)))))))
            obtain rfl := Option.some.inj hm
            refine retQ_ret Tryz.results9 (Res.tmp rfl Res.nil) rfl (fun w' s => ⟨s.below, ?_⟩)
            exact rfl
          · replace hm := ite_f hc15 hm
            refine WP.skip (block_normal (then_normal (WP.region ?_)))
            refine wq rfl rfl rfl (ov_add rfl rfl rfl) ?_
            refine wq rfl rfl rfl (ov_move rfl rfl) ?_
            refine WL.nil (then_normal ?_)
            exact ⟨H9, (IntKind.wrap .i64 (i1 + 1)), (hle8.trans hle9), (Sub.cons rfl (Sub.cons rfl (Sub.cons rfl (Sub.cons rfl (Sub.nil _))))), fun w' s => (s.select [] (by decide) rfl), hm⟩
        · replace hm := ite_f hc12 hm
          refine WP.exit (then_exit (then_exit (block_here (then_normal ?_))))
          exact ⟨H8, (hle7.trans hle8), (Sub.cons rfl (Sub.nil _)), fun w' s => s, hm⟩
    · rintro g' S' ⟨H10, hle10, hsub2, hS2, hm⟩
      refine WP.sub hsub2 (WP.weaken hS2 ?_)
      replace hm := hk1.symm.trans hm
      replace hG := hG.mono hle10
      refine WP.seq (WP.region ?_)
      refine wq rfl rfl rfl (ov_assign rfl rfl) ?_
      refine WL.nil (then_normal (WP.ret ?_))
      obtain rfl := Option.some.inj hm
      refine retQ_ret Tryz.results9 (Res.tmp rfl Res.nil) rfl (fun w' s => ⟨s.below, ?_⟩)
      exact rfl

theorem ref13_Actuator_con (p_n : Int) (w : World) (H : Heap) (hH : Le H (hp w)) (hG : Glob H) (r : Bool) (hm : ref13_Actuator p_n = some r) :
    Con Tryz.prog 34 [(.int .i64 p_n)] w H (fun v _ => v = (.bool r)) := by
  unfold ref13_Actuator at hm
  refine con_of hH Tryz.func34 rfl 9 Tryz.ntmps34 rfl ?_
  refine WP.seq (WP.region ?_)
  refine wq rfl rfl rfl (ov_assign rfl rfl) ?_
  refine WL.nil (then_normal (WP.seq (WP.region ?_)))
  refine wq rfl rfl rfl (ov_move rfl rfl) ?_
  refine wq rfl rfl rfl (ov_geq rfl rfl rfl) ?_
  refine wq rfl rfl rfl (ov_move rfl rfl) ?_
  refine WL.cut_bool 3 8 (x := ((decide (p_n ≥ 0)) && (decide (p_n < 6)))) ?_ ?_
  · rcases Bool.eq_false_or_eq_true (decide (p_n ≥ 0)) with hc1 | hc1
    · skip
      refine WL.quiet (Runs.yes rfl rfl rfl hc1) rfl rfl (OV.quiet (ov_move rfl rfl)) ?_
      refine WL.quiet (Runs.yes rfl rfl rfl hc1) rfl rfl (OV.quiet (ov_lss rfl rfl rfl)) ?_
      refine wq rfl rfl rfl (ov_pick_true rfl (guard_eq rfl hc1) rfl) ?_
      exact WL.nil ⟨Sub.cons' rfl (congrArg Value.bool (andT hc1)) (Sub.skip rfl (Sub.skip rfl (Sub.skip rfl (Sub.refl _)))), fun _ s => s⟩
    · skip
      refine WL.idle (Idle.no rfl rfl rfl hc1) rfl rfl ?_
      refine WL.idle (Idle.no rfl rfl rfl hc1) rfl rfl ?_
      refine wq rfl rfl rfl (ov_pick_false rfl (guard_eq rfl hc1) rfl) ?_
      exact WL.nil ⟨Sub.cons' rfl (congrArg Value.bool (andF hc1)) (Sub.skip rfl (Sub.skip rfl (Sub.skip rfl (Sub.refl _)))), fun _ s => s⟩
  refine wq rfl rfl rfl (ov_assign rfl rfl) ?_
  refine WL.nil (then_normal (WP.ret ?_))
  obtain rfl := Option.some.inj hm
  refine retQ_ret Tryz.results34 (Res.tmp rfl Res.nil) rfl (fun w' s => ⟨s.below, ?_⟩)
  exact rfl

theorem ref03_Time_con (p_n : Int) (w : World) (H : Heap) (hH : Le H (hp w)) (hG : Glob H) (r : Bool) (hm : ref03_Time p_n = some r) :
    Con Tryz.prog 36 [(.int .i64 p_n)] w H (fun v _ => v = (.bool r)) := by
  unfold ref03_Time at hm
  refine con_of hH Tryz.func36 rfl 9 Tryz.ntmps36 rfl ?_
  refine WP.seq (WP.region ?_)
  refine wq rfl rfl rfl (ov_assign rfl rfl) ?_
  refine WL.nil (then_normal (WP.seq (WP.region ?_)))
  refine wq rfl rfl rfl (ov_move rfl rfl) ?_
  refine wq rfl rfl rfl (ov_geq rfl rfl rfl) ?_
  refine wq rfl rfl rfl (ov_move rfl rfl) ?_
  refine WL.cut_bool 3 8 (x := ((decide (p_n ≥ 0)) && (decide (p_n ≤ 1000000)))) ?_ ?_
  · rcases Bool.eq_false_or_eq_true (decide (p_n ≥ 0)) with hc1 | hc1
    · skip
      refine WL.quiet (Runs.yes rfl rfl rfl hc1) rfl rfl (OV.quiet (ov_move rfl rfl)) ?_
      refine WL.quiet (Runs.yes rfl rfl rfl hc1) rfl rfl (OV.quiet (ov_leq rfl rfl rfl)) ?_
      refine wq rfl rfl rfl (ov_pick_true rfl (guard_eq rfl hc1) rfl) ?_
      exact WL.nil ⟨Sub.cons' rfl (congrArg Value.bool (andT hc1)) (Sub.skip rfl (Sub.skip rfl (Sub.skip rfl (Sub.refl _)))), fun _ s => s⟩
    · skip
      refine WL.idle (Idle.no rfl rfl rfl hc1) rfl rfl ?_
      refine WL.idle (Idle.no rfl rfl rfl hc1) rfl rfl ?_
      refine wq rfl rfl rfl (ov_pick_false rfl (guard_eq rfl hc1) rfl) ?_
      exact WL.nil ⟨Sub.cons' rfl (congrArg Value.bool (andF hc1)) (Sub.skip rfl (Sub.skip rfl (Sub.skip rfl (Sub.refl _)))), fun _ s => s⟩
  refine wq rfl rfl rfl (ov_assign rfl rfl) ?_
  refine WL.nil (then_normal (WP.ret ?_))
  obtain rfl := Option.some.inj hm
  refine retQ_ret Tryz.results36 (Res.tmp rfl Res.nil) rfl (fun w' s => ⟨s.below, ?_⟩)
  exact rfl

theorem ref13_CheckStep_con (p_x : Step) (ao1 : Option Addr) (cap1 : Nat) (w : World) (H : Heap) (hH : Le H (hp w)) (h1 : SL H encStroke ao1 p_x.strokes) (hc1 : p_x.strokes.length ≤ cap1) (hG : Glob H) (r : Int) (hm : ref13_CheckStep p_x = some r) :
    Con Tryz.prog 18 [(.agg #[(.slice ao1 p_x.strokes.length cap1), (.int .i64 p_x.wait)])] w H (fun v _ => v = (.int .i64 r)) := by
  unfold ref13_CheckStep at hm
  refine con_of hH Tryz.func18 rfl 67 Tryz.ntmps18 rfl ?_
  refine WP.seq (WP.region ?_)
  refine WL.step (Runs.free rfl) rfl rfl (os_box (cs := [(.slice ao1 p_x.strokes.length cap1), (.int .i64 p_x.wait)]) rfl rfl rfl (fun b1 => ?_))
  refine wq rfl rfl rfl (ov_assign rfl rfl) ?_
  refine WL.nil (then_normal (WP.seq (WP.seq (WP.region ?_))))
  refine wq rfl rfl rfl (ov_fieldAddr Tryz.underlying26 rfl rfl rfl Tryz.sizeOf24 rfl rfl) ?_
  refine wq rfl rfl rfl (ov_load_box (i := 0) Tryz.isAgg24 rfl rfl rfl rfl) ?_
  refine wq rfl rfl rfl (ov_len_slice Tryz.underlying24 rfl rfl) ?_
  refine wq rfl rfl rfl (ov_eql rfl rfl rfl) ?_
  refine WL.nil (then_normal ?_)
  refine WP.cond rfl (fun hc2 => ?_) (fun hc2 => ?_)
  · replace hm := ite_t hc2 hm
    refine WP.seq (WP.region ?_)
    refine wq rfl rfl rfl (ov_assign rfl rfl) ?_
    refine WL.nil (then_normal (WP.ret (then_ret ?_)))
    obtain rfl := Option.some.inj hm
    refine retQ_ret Tryz.results18 (Res.tmp rfl Res.nil) rfl (fun w' s => ⟨s.below, ?_⟩)
    exact rfl
  · replace hm := ite_f hc2 hm
    refine WP.skip (then_normal (WP.seq (WP.seq (WP.region ?_))))
    refine wq rfl rfl rfl (ov_fieldAddr Tryz.underlying26 rfl rfl rfl Tryz.sizeOf24 rfl rfl) ?_
    refine wq rfl rfl rfl (ov_load_box (i := 0) Tryz.isAgg24 rfl rfl rfl rfl) ?_
    refine wq rfl rfl rfl (ov_len_slice Tryz.underlying24 rfl rfl) ?_
    refine wq rfl rfl rfl (ov_gtr rfl rfl rfl) ?_
    refine WL.nil (then_normal ?_)
    refine WP.cond rfl (fun hc3 => ?_) (fun hc3 => ?_)
    · replace hm := ite_t hc3 hm
      refine WP.seq (WP.region ?_)
      refine wq rfl rfl rfl (ov_assign rfl rfl) ?_
      refine WL.nil (then_normal (WP.ret (then_ret ?_)))
      obtain rfl := Option.some.inj hm
      refine retQ_ret Tryz.results18 (Res.tmp rfl Res.nil) rfl (fun w' s => ⟨s.below, ?_⟩)
      exact rfl
    · replace hm := ite_f hc3 hm
      refine WP.skip (then_normal ?_)
      obtain ⟨k1, hk1, hm⟩ := joinK_some hm
      refine WP.seq_join (fun g' S' => Sub [(1, (pB b1 0)), (1000000007, (.bool false))] g' ∧ (∀ w', S' w' → St w H [.blk b1 26 [(.slice ao1 p_x.strokes.length cap1), (.int .i64 p_x.wait)]] H w') ∧ k1 = some r) ?_ ?_
      · skip
        refine WP.seq (WP.region ?_)
        refine wq rfl rfl rfl (ov_assign rfl rfl) ?_
        refine WL.nil (then_normal (WP.block ?_))
        refine WP.loop (fun m1 g' S' => ∃ (i1 : Int), Sub [(1, (pB b1 0)), (3, (.int .i64 i1)), (1000000007, (.bool false))] g' ∧ (∀ w', S' w' → St w H [.blk b1 26 [(.slice ao1 p_x.strokes.length cap1), (.int .i64 p_x.wait)]] H w') ∧ ref13_CheckStep_loop1 p_x k1 m1 i1 = some r) ((Int.toNat ((p_x.strokes.length : Int) - 0) + 1)) ⟨0, (Sub.cons rfl (Sub.cons rfl (Sub.cons rfl (Sub.nil _)))), fun w' s => s, hm⟩ ?_ ?_
        · rintro g' S' ⟨_, _, _, hm⟩
          exact none_some hm
        · rintro m1 g' S' ⟨i1, hsub1, hS1, hm⟩
          refine WP.sub hsub1 (WP.weaken hS1 ?_)
          rw [ref13_CheckStep_loop1] at hm
          refine WP.seq (WP.seq (WP.region ?_))
          refine wq rfl rfl rfl (ov_move rfl rfl) ?_
          refine wq rfl rfl rfl (ov_fieldAddr Tryz.underlying26 rfl rfl rfl Tryz.sizeOf24 rfl rfl) ?_
          refine wq rfl rfl rfl (ov_load_box (i := 0) Tryz.isAgg24 rfl rfl rfl rfl) ?_
          refine wq rfl rfl rfl (ov_len_slice Tryz.underlying24 rfl rfl) ?_
          refine wq rfl rfl rfl (ov_lss rfl rfl rfl) ?_
          refine WL.nil (then_normal ?_)
          refine WP.cond rfl (fun hc4 => ?_) (fun hc4 => ?_)
          · replace hm := ite_t hc4 hm
            refine WP.skip (then_normal (WP.seq (WP.block (WP.seq (WP.seq (WP.region ?_))))))
            refine wq rfl rfl rfl (ov_fieldAddr Tryz.underlying26 rfl rfl rfl Tryz.sizeOf24 rfl rfl) ?_
            refine wq rfl rfl rfl (ov_load_box (i := 0) Tryz.isAgg24 rfl rfl rfl rfl) ?_
            refine wq rfl rfl rfl (ov_move rfl rfl) ?_
            obtain ⟨x1, e1, hm⟩ := bind_some hm
            obtain ⟨h2, h3, h4, cs1, h5, h6⟩ := h1.get e1 (by decide)
            obtain rfl : cs1 = [(.int .i64 x1.actuator), (.bool x1.out)] := h5
            refine wq rfl rfl rfl (ov_indexAddr Tryz.underlying24 Tryz.sizeOf53 rfl rfl rfl h2 h3 h4) ?_
            refine wq rfl rfl rfl (ov_fieldAddrE Tryz.underlying53 rfl rfl rfl Tryz.sizeOf3 rfl rfl) ?_
            refine wq rfl rfl rfl (ov_load_elem (v := (.int .i64 x1.actuator)) Tryz.isAgg3 rfl rfl (h6.one (off := 0) rfl)) ?_
            obtain ⟨r1, e2, hm⟩ := bind_some hm
            refine WL.quiet (Runs.free rfl) rfl rfl (oq_con (r := (.bool r1)) Tryz.call34 rfl rfl (fun w' s => ⟨_, (ref13_Actuator_con x1.actuator  w' H s.hold hG r1 e2)⟩)) ?_
            refine wq rfl rfl rfl (ov_not rfl rfl) ?_
            refine WL.nil (then_normal ?_)
            refine WP.cond rfl (fun hc5 => ?_) (fun hc5 => ?_)
            · replace hm := ite_t hc5 hm
              refine WP.seq (WP.region ?_)
              refine wq rfl rfl rfl (ov_assign rfl rfl) ?_
              refine WL.nil (then_normal (WP.ret (then_ret (block_ret (then_ret (then_ret (block_ret (then_ret ?_))))))))
              obtain rfl := Option.some.inj hm
              refine retQ_ret Tryz.results18 (Res.tmp rfl Res.nil) rfl (fun w' s => ⟨s.below, ?_⟩)
              exact rfl
            · replace hm := ite_f hc5 hm
              refine WP.skip (then_normal (WP.seq (WP.seq ?_)))
              refine WP.region_draws (by kernel_rfl) (by kernel_rfl) (fun _ s => s.drew) ?_
              refine QL.quiet (Runs.free rfl) rfl rfl (OV.quiet (ov_move rfl rfl)) ?_
              refine QL.quiet (Runs.free rfl) rfl rfl (OV.quiet (ov_gtr rfl rfl rfl)) ?_
              refine QL.quiet (Runs.free rfl) rfl rfl (OV.quiet (ov_move rfl rfl)) ?_
              obtain ⟨c1, e3, hm⟩ := bind_some hm
              refine QL.part_bool 15 44 (x := c1) ?_ ?_
              · rcases Bool.eq_false_or_eq_true (decide (i1 > 0)) with hc6 | hc6
                · skip
                  replace hm := ite_t hc6 e3
                  refine QL.quiet (Runs.yes rfl rfl rfl hc6) rfl rfl (OV.quiet (ov_fieldAddr Tryz.underlying26 rfl rfl rfl Tryz.sizeOf24 rfl rfl)) ?_
                  refine QL.quiet (Runs.yes rfl rfl rfl hc6) rfl rfl (OV.quiet (ov_load_box (i := 0) Tryz.isAgg24 rfl rfl rfl rfl)) ?_
                  refine QL.quiet (Runs.yes rfl rfl rfl hc6) rfl rfl (OV.quiet (ov_move rfl rfl)) ?_
                  obtain ⟨x2, e4, hm⟩ := bind_some hm
                  obtain ⟨h7, h8, h9, cs2, h10, h11⟩ := h1.get e4 (by decide)
                  obtain rfl : cs2 = [(.int .i64 x2.actuator), (.bool x2.out)] := h10
                  refine QL.quiet (Runs.yes rfl rfl rfl hc6) rfl rfl (OV.quiet (ov_indexAddr Tryz.underlying24 Tryz.sizeOf53 rfl rfl rfl h7 h8 h9)) ?_
                  refine QL.quiet (Runs.yes rfl rfl rfl hc6) rfl rfl (OV.quiet (ov_fieldAddrE Tryz.underlying53 rfl rfl rfl Tryz.sizeOf3 rfl rfl)) ?_
                  refine QL.quiet (Runs.yes rfl rfl rfl hc6) rfl rfl (OV.quiet (ov_load_elem (v := (.int .i64 x2.actuator)) Tryz.isAgg3 rfl rfl (h11.one (off := 0) rfl))) ?_
                  refine QL.quiet (Runs.yes rfl rfl rfl hc6) rfl rfl (OV.quiet (ov_fieldAddr Tryz.underlying26 rfl rfl rfl Tryz.sizeOf24 rfl rfl)) ?_
                  refine QL.quiet (Runs.yes rfl rfl rfl hc6) rfl rfl (OV.quiet (ov_load_box (i := 0) Tryz.isAgg24 rfl rfl rfl rfl)) ?_
                  refine QL.quiet (Runs.yes rfl rfl rfl hc6) rfl rfl (OV.quiet (ov_move rfl rfl)) ?_
                  refine QL.quiet (Runs.yes rfl rfl rfl hc6) rfl rfl (OV.quiet (ov_sub rfl rfl rfl)) ?_
                  obtain ⟨x3, e5, hm⟩ := bind_some hm
                  obtain ⟨h12, h13, h14, cs3, h15, h16⟩ := h1.get e5 (by decide)
                  obtain rfl : cs3 = [(.int .i64 x3.actuator), (.bool x3.out)] := h15
                  refine QL.quiet (Runs.yes rfl rfl rfl hc6) rfl rfl (OV.quiet (ov_indexAddr Tryz.underlying24 Tryz.sizeOf53 rfl rfl rfl h12 h13 h14)) ?_
                  refine QL.quiet (Runs.yes rfl rfl rfl hc6) rfl rfl (OV.quiet (ov_fieldAddrE Tryz.underlying53 rfl rfl rfl Tryz.sizeOf3 rfl rfl)) ?_
                  refine QL.quiet (Runs.yes rfl rfl rfl hc6) rfl rfl (OV.quiet (ov_load_elem (v := (.int .i64 x3.actuator)) Tryz.isAgg3 rfl rfl (h16.one (off := 0) rfl))) ?_
                  refine QL.quiet (Runs.yes rfl rfl rfl hc6) rfl rfl (OV.quiet (ov_eql rfl rfl rfl)) ?_
                  refine QL.quiet (Runs.free rfl) rfl rfl (OV.quiet (ov_pick_true rfl (guard_eq rfl hc6) rfl)) ?_
                  exact QL.nil (Sub.cons' rfl (congrArg Value.bool (Option.some.inj hm)) (Sub.skip rfl (Sub.skip rfl (Sub.skip rfl (Sub.skip rfl (Sub.skip rfl (Sub.skip rfl (Sub.skip rfl (Sub.skip rfl (Sub.skip rfl (Sub.skip rfl (Sub.skip rfl (Sub.skip rfl (Sub.skip rfl (Sub.skip rfl (Sub.skip rfl (Sub.refl _)))))))))))))))))
                · skip
                  replace hm := ite_f hc6 e3
                  refine QL.idle (Idle.no rfl rfl rfl hc6) rfl rfl ?_
                  refine QL.idle (Idle.no rfl rfl rfl hc6) rfl rfl ?_
                  refine QL.idle (Idle.no rfl rfl rfl hc6) rfl rfl ?_
                  refine QL.idle (Idle.no rfl rfl rfl hc6) rfl rfl ?_
                  refine QL.idle (Idle.no rfl rfl rfl hc6) rfl rfl ?_
                  refine QL.idle (Idle.no rfl rfl rfl hc6) rfl rfl ?_
                  refine QL.idle (Idle.no rfl rfl rfl hc6) rfl rfl ?_
                  refine QL.idle (Idle.no rfl rfl rfl hc6) rfl rfl ?_
                  refine QL.idle (Idle.no rfl rfl rfl hc6) rfl rfl ?_
                  refine QL.idle (Idle.no rfl rfl rfl hc6) rfl rfl ?_
                  refine QL.idle (Idle.no rfl rfl rfl hc6) rfl rfl ?_
                  refine QL.idle (Idle.no rfl rfl rfl hc6) rfl rfl ?_
                  refine QL.idle (Idle.no rfl rfl rfl hc6) rfl rfl ?_
                  refine QL.idle (Idle.no rfl rfl rfl hc6) rfl rfl ?_
                  refine QL.quiet (Runs.free rfl) rfl rfl (OV.quiet (ov_pick_false rfl (guard_eq rfl hc6) rfl)) ?_
                  exact QL.nil (Sub.cons' rfl (congrArg Value.bool (Option.some.inj hm)) (Sub.skip rfl (Sub.skip rfl (Sub.skip rfl (Sub.skip rfl (Sub.skip rfl (Sub.skip rfl (Sub.skip rfl (Sub.skip rfl (Sub.skip rfl (Sub.skip rfl (Sub.skip rfl (Sub.skip rfl (Sub.skip rfl (Sub.skip rfl (Sub.skip rfl (Sub.refl _)))))))))))))))))
              refine QL.nil ?_
              refine then_normal ?_
              refine WP.cond rfl (fun hc7 => ?_) (fun hc7 => ?_)
              · replace hm := ite_t hc7 hm
                refine WP.seq (WP.region ?_)
                refine wq rfl rfl rfl (ov_assign rfl rfl) ?_
                refine WL.nil (then_normal (WP.ret (then_ret (block_ret (then_ret (then_ret (block_ret (then_ret ?_))))))))
                obtain rfl := Option.some.inj hm
                refine retQ_ret Tryz.results18 (Res.tmp rfl Res.nil) rfl (fun w' s => ⟨s.below, ?_⟩)
                exact rfl
              · replace hm := ite_f hc7 hm
                refine WP.skip (then_normal (WP.seq ?_))
                refine WP.region_draws (by kernel_rfl) (by kernel_rfl) (fun _ s => s.drew) ?_
                refine QL.quiet (Runs.free rfl) rfl rfl (OV.quiet (ov_move rfl rfl)) ?_
                refine QL.quiet (Runs.free rfl) rfl rfl (OV.quiet (ov_gtr rfl rfl rfl)) ?_
                refine QL.quiet (Runs.free rfl) rfl rfl (OV.quiet (ov_move rfl rfl)) ?_
                obtain ⟨c2, e6, hm⟩ := bind_some hm
                refine QL.part_bool 15 62 (x := c2) ?_ ?_
                · rcases Bool.eq_false_or_eq_true (decide (i1 > 0)) with hc8 | hc8
                  · skip
                    replace hm := ite_t hc8 e6
                    refine QL.quiet (Runs.yes rfl rfl rfl hc8) rfl rfl (OV.quiet (ov_fieldAddr Tryz.underlying26 rfl rfl rfl Tryz.sizeOf24 rfl rfl)) ?_
                    refine QL.quiet (Runs.yes rfl rfl rfl hc8) rfl rfl (OV.quiet (ov_load_box (i := 0) Tryz.isAgg24 rfl rfl rfl rfl)) ?_
                    refine QL.quiet (Runs.yes rfl rfl rfl hc8) rfl rfl (OV.quiet (ov_move rfl rfl)) ?_
                    obtain ⟨x4, e7, hm⟩ := bind_some hm
                    obtain ⟨h17, h18, h19, cs4, h20, h21⟩ := h1.get e7 (by decide)
                    obtain rfl : cs4 = [(.int .i64 x4.actuator), (.bool x4.out)] := h20
                    refine QL.quiet (Runs.yes rfl rfl rfl hc8) rfl rfl (OV.quiet (ov_indexAddr Tryz.underlying24 Tryz.sizeOf53 rfl rfl rfl h17 h18 h19)) ?_
                    refine QL.quiet (Runs.yes rfl rfl rfl hc8) rfl rfl (OV.quiet (ov_fieldAddrE Tryz.underlying53 rfl rfl rfl Tryz.sizeOf3 rfl rfl)) ?_
                    refine QL.quiet (Runs.yes rfl rfl rfl hc8) rfl rfl (OV.quiet (ov_load_elem (v := (.int .i64 x4.actuator)) Tryz.isAgg3 rfl rfl (h21.one (off := 0) rfl))) ?_
                    refine QL.quiet (Runs.yes rfl rfl rfl hc8) rfl rfl (OV.quiet (ov_fieldAddr Tryz.underlying26 rfl rfl rfl Tryz.sizeOf24 rfl rfl)) ?_
                    refine QL.quiet (Runs.yes rfl rfl rfl hc8) rfl rfl (OV.quiet (ov_load_box (i := 0) Tryz.isAgg24 rfl rfl rfl rfl)) ?_
                    refine QL.quiet (Runs.yes rfl rfl rfl hc8) rfl rfl (OV.quiet (ov_move rfl rfl)) ?_
                    refine QL.quiet (Runs.yes rfl rfl rfl hc8) rfl rfl (OV.quiet (ov_sub rfl rfl rfl)) ?_
                    obtain ⟨x5, e8, hm⟩ := bind_some hm
                    obtain ⟨h22, h23, h24, cs5, h25, h26⟩ := h1.get e8 (by decide)
                    obtain rfl : cs5 = [(.int .i64 x5.actuator), (.bool x5.out)] := h25
                    refine QL.quiet (Runs.yes rfl rfl rfl hc8) rfl rfl (OV.quiet (ov_indexAddr Tryz.underlying24 Tryz.sizeOf53 rfl rfl rfl h22 h23 h24)) ?_
                    refine QL.quiet (Runs.yes rfl rfl rfl hc8) rfl rfl (OV.quiet (ov_fieldAddrE Tryz.underlying53 rfl rfl rfl Tryz.sizeOf3 rfl rfl)) ?_
                    refine QL.quiet (Runs.yes rfl rfl rfl hc8) rfl rfl (OV.quiet (ov_load_elem (v := (.int .i64 x5.actuator)) Tryz.isAgg3 rfl rfl (h26.one (off := 0) rfl))) ?_
                    refine QL.quiet (Runs.yes rfl rfl rfl hc8) rfl rfl (OV.quiet (ov_lss rfl rfl rfl)) ?_
                    refine QL.quiet (Runs.free rfl) rfl rfl (OV.quiet (ov_pick_true rfl (guard_eq rfl hc8) rfl)) ?_
                    exact QL.nil (Sub.cons' rfl (congrArg Value.bool (Option.some.inj hm)) (Sub.skip rfl (Sub.skip rfl (Sub.skip rfl (Sub.skip rfl (Sub.skip rfl (Sub.skip rfl (Sub.skip rfl (Sub.skip rfl (Sub.skip rfl (Sub.skip rfl (Sub.skip rfl (Sub.skip rfl (Sub.skip rfl (Sub.skip rfl (Sub.skip rfl (Sub.refl _)))))))))))))))))
                  · skip
                    replace hm := ite_f hc8 e6
                    refine QL.idle (Idle.no rfl rfl rfl hc8) rfl rfl ?_
                    refine QL.idle (Idle.no rfl rfl rfl hc8) rfl rfl ?_
                    refine QL.idle (Idle.no rfl rfl rfl hc8) rfl rfl ?_
                    refine QL.idle (Idle.no rfl rfl rfl hc8) rfl rfl ?_
                    refine QL.idle (Idle.no rfl rfl rfl hc8) rfl rfl ?_
                    refine QL.idle (Idle.no rfl rfl rfl hc8) rfl rfl ?_
                    refine QL.idle (Idle.no rfl rfl rfl hc8) rfl rfl ?_
                    refine QL.idle (Idle.no rfl rfl rfl hc8) rfl rfl ?_
                    refine QL.idle (Idle.no rfl rfl rfl hc8) rfl rfl ?_
                    refine QL.idle (Idle.no rfl rfl rfl hc8) rfl rfl ?_
                    refine QL.idle (Idle.no rfl rfl rfl hc8) rfl rfl ?_
                    refine QL.idle (Idle.no rfl rfl rfl hc8) rfl rfl ?_
                    refine QL.idle (Idle.no rfl rfl rfl hc8) rfl rfl ?_
                    refine QL.idle (Idle.no rfl rfl rfl hc8) rfl rfl ?_
                    refine QL.quiet (Runs.free rfl) rfl rfl (OV.quiet (ov_pick_false rfl (guard_eq rfl hc8) rfl)) ?_
                    exact QL.nil (Sub.cons' rfl (congrArg Value.bool (Option.some.inj hm)) (Sub.skip rfl (Sub.skip rfl (Sub.skip rfl (Sub.skip rfl (Sub.skip rfl (Sub.skip rfl (Sub.skip rfl (Sub.skip rfl (Sub.skip rfl (Sub.skip rfl (Sub.skip rfl (Sub.skip rfl (Sub.skip rfl (Sub.skip rfl (Sub.skip rfl (Sub.refl _)))))))))))))))))
                refine QL.nil ?_
                refine then_normal ?_
                refine WP.cond rfl (fun hc9 => ?_) (fun hc9 => ?_)
                · replace hm := ite_t hc9 hm
                  refine WP.seq (WP.region ?_)
                  refine wq rfl rfl rfl (ov_assign rfl rfl) ?_
                  refine WL.nil (then_normal (WP.ret (block_ret (then_ret (then_ret (block_ret (then_ret ?_)))))))
                  obtain rfl := Option.some.inj hm
                  refine retQ_ret Tryz.results18 (Res.tmp rfl Res.nil) rfl (fun w' s => ⟨s.below, ?_⟩)
                  exact rfl
                · replace hm := ite_f hc9 hm
                  refine WP.skip (block_normal (then_normal (WP.region ?_)))
                  refine wq rfl rfl rfl (ov_move rfl rfl) ?_
                  refine wq rfl rfl rfl (ov_add rfl rfl rfl) ?_
                  refine wq rfl rfl rfl (ov_assign rfl rfl) ?_
                  refine WL.nil (then_normal ?_)
                  exact ⟨(IntKind.wrap .i64 (i1 + 1)), (Sub.cons rfl (Sub.cons rfl (Sub.cons rfl (Sub.nil _)))), fun w' s => s, hm⟩
          · replace hm := ite_f hc4 hm
            refine WP.exit (then_exit (then_exit (block_here (then_normal ?_))))
            exact ⟨(Sub.cons rfl (Sub.cons rfl (Sub.nil _))), fun w' s => s, hm⟩
      · rintro g' S' ⟨hsub2, hS2, hm⟩
        refine WP.sub hsub2 (WP.weaken hS2 ?_)
        replace hm := hk1.symm.trans hm
        refine WP.seq (WP.seq (WP.region ?_))
        refine wq rfl rfl rfl (ov_fieldAddr Tryz.underlying26 rfl rfl rfl Tryz.sizeOf3 rfl rfl) ?_
        refine wq rfl rfl rfl (ov_load_box (i := 0) Tryz.isAgg3 rfl rfl rfl rfl) ?_
        obtain ⟨r2, e9, hm⟩ := bind_some hm
        refine WL.quiet (Runs.free rfl) rfl rfl (oq_con (r := (.bool r2)) Tryz.call36 rfl rfl (fun w' s => ⟨_, (ref03_Time_con p_x.wait  w' H s.hold hG r2 e9)⟩)) ?_
        refine wq rfl rfl rfl (ov_not rfl rfl) ?_
        refine WL.nil (then_normal ?_)
        refine WP.cond rfl (fun hc10 => ?_) (fun hc10 => ?_)
        · replace hm := ite_t hc10 hm
          refine WP.seq (WP.region ?_)
          refine wq rfl rfl rfl (ov_assign rfl rfl) ?_
          refine WL.nil (then_normal (WP.ret (then_ret ?_)))
          obtain rfl := Option.some.inj hm
          refine retQ_ret Tryz.results18 (Res.tmp rfl Res.nil) rfl (fun w' s => ⟨s.below, ?_⟩)
          exact rfl
        · replace hm := ite_f hc10 hm
          refine WP.skip (then_normal (WP.seq (WP.region ?_)))
          refine wq rfl rfl rfl (ov_assign rfl rfl) ?_
          refine WL.nil (then_normal (WP.ret ?_))
          obtain rfl := Option.some.inj hm
          refine retQ_ret Tryz.results18 (Res.tmp rfl Res.nil) rfl (fun w' s => ⟨s.below, ?_⟩)
          exact rfl

theorem ref13_steps_con (p_l : (List Step)) (ao1 : Option Addr) (cap1 : Nat) (w : World) (H : Heap) (hH : Le H (hp w)) (h1 : SL H encStep ao1 p_l) (hc1 : p_l.length ≤ cap1) (hG : Glob H) (r : Int) (hm : ref13_steps p_l = some r) :
    Con Tryz.prog 27 [(.slice ao1 p_l.length cap1)] w H (fun v _ => v = (.int .i64 r)) := by
  unfold ref13_steps at hm
  refine con_of hH Tryz.func27 rfl 22 Tryz.ntmps27 rfl ?_
  refine WP.seq (WP.region ?_)
  refine wq rfl rfl rfl (ov_assign rfl rfl) ?_
  refine WL.nil (then_normal (WP.seq (WP.seq (WP.region ?_))))
  refine wq rfl rfl rfl (ov_move rfl rfl) ?_
  refine wq rfl rfl rfl (ov_len_slice Tryz.underlying22 rfl rfl) ?_
  refine wq rfl rfl rfl (ov_gtr rfl rfl rfl) ?_
  refine WL.nil (then_normal ?_)
  refine WP.cond rfl (fun hc2 => ?_) (fun hc2 => ?_)
  · replace hm := ite_t hc2 hm
    refine WP.seq (WP.region ?_)
    refine wq rfl rfl rfl (ov_assign rfl rfl) ?_
    refine WL.nil (then_normal (WP.ret (then_ret ?_)))
    obtain rfl := Option.some.inj hm
    refine retQ_ret Tryz.results27 (Res.tmp rfl Res.nil) rfl (fun w' s => ⟨s.below, ?_⟩)
    exact rfl
  · replace hm := ite_f hc2 hm
    refine WP.skip (then_normal ?_)
    obtain ⟨k1, hk1, hm⟩ := joinK_some hm
    refine WP.seq_join (fun g' S' => Sub [(1000000007, (.bool false))] g' ∧ (∀ w', S' w' → St w H [] H w') ∧ k1 = some r) ?_ ?_
    · skip
      refine WP.seq (WP.region ?_)
      refine wq rfl rfl rfl (ov_assign rfl rfl) ?_
      refine WL.nil (then_normal (WP.block ?_))
      refine WP.loop (fun m1 g' S' => ∃ (i1 : Int), Sub [(0, (.slice ao1 p_l.length cap1)), (3, (.int .i64 i1)), (1000000007, (.bool false))] g' ∧ (∀ w', S' w' → St w H [] H w') ∧ ref13_steps_loop1 p_l k1 m1 i1 = some r) ((Int.toNat ((p_l.length : Int) - 0) + 1)) ⟨0, (Sub.cons rfl (Sub.cons rfl (Sub.cons rfl (Sub.nil _)))), fun w' s => s, hm⟩ ?_ ?_
      · rintro g' S' ⟨_, _, _, hm⟩
        exact none_some hm
      · rintro m1 g' S' ⟨i1, hsub1, hS1, hm⟩
        refine WP.sub hsub1 (WP.weaken hS1 ?_)
        rw [ref13_steps_loop1] at hm
        refine WP.seq (WP.seq (WP.region ?_))
        refine wq rfl rfl rfl (ov_move rfl rfl) ?_
        refine wq rfl rfl rfl (ov_move rfl rfl) ?_
        refine wq rfl rfl rfl (ov_len_slice Tryz.underlying22 rfl rfl) ?_
        refine wq rfl rfl rfl (ov_lss rfl rfl rfl) ?_
        refine WL.nil (then_normal ?_)
        refine WP.cond rfl (fun hc3 => ?_) (fun hc3 => ?_)
        · replace hm := ite_t hc3 hm
          refine WP.skip (then_normal (WP.seq (WP.block (WP.seq (WP.region ?_)))))
          refine wq rfl rfl rfl (ov_move rfl rfl) ?_
          refine wq rfl rfl rfl (ov_move rfl rfl) ?_
          obtain ⟨x1, e1, hm⟩ := bind_some hm
          obtain ⟨h3, h4, h5, cs1, h6, h7⟩ := h1.get e1 (by decide)
          obtain ⟨ao2, cap2, rfl, h2, hc4⟩ := h6
          refine wq rfl rfl rfl (ov_indexAddr Tryz.underlying22 Tryz.sizeOf26 rfl rfl rfl h3 h4 h5) ?_
          refine wq rfl rfl rfl (ov_load_elems (vs := [(.slice ao2 x1.strokes.length cap2), (.int .i64 x1.wait)]) Tryz.isAgg26 Tryz.sizeOf26 rfl rfl rfl h7 h5) ?_
          obtain ⟨r1, e2, hm⟩ := bind_some hm
          refine WL.quiet (Runs.free rfl) rfl rfl (oq_con (r := (.int .i64 r1)) Tryz.call18 rfl rfl (fun w' s => ⟨_, (ref13_CheckStep_con x1 ao2 cap2  w' H s.hold h2 hc4 hG r1 e2)⟩)) ?_
          refine wq rfl rfl rfl (ov_assign rfl rfl) ?_
          refine WL.nil (then_normal (WP.seq (WP.region ?_)))
          refine wq rfl rfl rfl (ov_move rfl rfl) ?_
          refine wq rfl rfl rfl (ov_neq rfl rfl rfl) ?_
          refine WL.nil (then_normal ?_)
          refine WP.cond rfl (fun hc5 => ?_) (fun hc5 => ?_)
          · replace hm := ite_t hc5 hm
            refine WP.seq (WP.region ?_)
            refine wq rfl rfl rfl (ov_move rfl rfl) ?_
            refine wq rfl rfl rfl (ov_assign rfl rfl) ?_
            refine WL.nil (then_normal (WP.ret (block_ret (then_ret (then_ret (block_ret (then_ret ?_)))))))
            obtain rfl := Option.some.inj hm
            refine retQ_ret Tryz.results27 (Res.tmp rfl Res.nil) rfl (fun w' s => ⟨s.below, ?_⟩)
            exact rfl
          · replace hm := ite_f hc5 hm
            refine WP.skip (block_normal (then_normal (WP.region ?_)))
            refine wq rfl rfl rfl (ov_move rfl rfl) ?_
            refine wq rfl rfl rfl (ov_add rfl rfl rfl) ?_
            refine wq rfl rfl rfl (ov_assign rfl rfl) ?_
            refine WL.nil (then_normal ?_)
            exact ⟨(IntKind.wrap .i64 (i1 + 1)), (Sub.cons rfl (Sub.cons rfl (Sub.cons rfl (Sub.nil _)))), fun w' s => s, hm⟩
        · replace hm := ite_f hc3 hm
          refine WP.exit (then_exit (then_exit (block_here (then_normal ?_))))
          exact ⟨(Sub.cons rfl (Sub.nil _)), fun w' s => s, hm⟩
    · rintro g' S' ⟨hsub2, hS2, hm⟩
      refine WP.sub hsub2 (WP.weaken hS2 ?_)
      replace hm := hk1.symm.trans hm
      refine WP.seq (WP.region ?_)
      refine wq rfl rfl rfl (ov_assign rfl rfl) ?_
      refine WL.nil (then_normal (WP.ret ?_))
      obtain rfl := Option.some.inj hm
      refine retQ_ret Tryz.results27 (Res.tmp rfl Res.nil) rfl (fun w' s => ⟨s.below, ?_⟩)
      exact rfl

theorem ref13_Written_con (p_x : Stroke) (w : World) (H : Heap) (hH : Le H (hp w)) (hG : Glob H) (r : (List UInt8)) (hm : ref13_Written p_x = some r) :
    Con Tryz.prog 58 [(.agg #[(.int .i64 p_x.actuator), (.bool p_x.out)])] w H (fun v _ => v = (mkS r)) := by
  unfold ref13_Written at hm
  refine con_of hH Tryz.func58 rfl 16 Tryz.ntmps58 rfl ?_
  refine WP.seq (WP.region ?_)
  refine WL.step (Runs.free rfl) rfl rfl (os_box (cs := [(.int .i64 p_x.actuator), (.bool p_x.out)]) rfl rfl rfl (fun b1 => ?_))
  refine wq rfl rfl rfl (ov_assign rfl rfl) ?_
  refine WL.nil (then_normal (WP.seq (WP.region ?_)))
  refine wq rfl rfl rfl (ov_fieldAddr Tryz.underlying53 rfl rfl rfl Tryz.sizeOf3 rfl rfl) ?_
  refine wq rfl rfl rfl (ov_load_box (i := 0) Tryz.isAgg3 rfl rfl rfl rfl) ?_
  refine wq rfl rfl rfl (ov_fieldAddr Tryz.underlying53 rfl rfl rfl Tryz.sizeOf3 rfl rfl) ?_
  refine wq rfl rfl rfl (ov_load_box (i := 0) Tryz.isAgg3 rfl rfl rfl rfl) ?_
  refine wq rfl rfl rfl (ov_add rfl rfl rfl) ?_
  obtain ⟨s1, e1, hm⟩ := bind_some hm
  refine wq rfl rfl rfl (ov_slice_string Tryz.underlying9 rfl rfl rfl rfl e1) ?_
  refine wq rfl rfl rfl (ov_assign rfl rfl) ?_
  refine WL.nil (then_normal (WP.seq (WP.seq (WP.region ?_))))
  refine wq rfl rfl rfl (ov_fieldAddr Tryz.underlying53 rfl rfl rfl Tryz.sizeOf4 rfl rfl) ?_
  refine wq rfl rfl rfl (ov_load_box (i := 0) Tryz.isAgg4 rfl rfl rfl rfl) ?_
  refine WL.nil (then_normal ?_)
  refine WP.cond rfl (fun hc1 => ?_) (fun hc1 => ?_)
  · replace hm := ite_t hc1 hm
    refine WP.seq (WP.region ?_)
    refine wq rfl rfl rfl (ov_move rfl rfl) ?_
    obtain ⟨s2, e2, hm⟩ := bind_some hm
    refine wq rfl rfl rfl (ov_sadd' e2 rfl rfl rfl) ?_
    refine wq rfl rfl rfl (ov_assign rfl rfl) ?_
    refine WL.nil (then_normal (WP.ret (then_ret ?_)))
    obtain rfl := Option.some.inj hm
    refine retQ_ret Tryz.results58 (Res.tmp rfl Res.nil) rfl (fun w' s => ⟨s.below, ?_⟩)
    exact rfl
  · replace hm := ite_f hc1 hm
    refine WP.skip (then_normal (WP.seq (WP.region ?_)))
    refine wq rfl rfl rfl (ov_move rfl rfl) ?_
    obtain ⟨s3, e3, hm⟩ := bind_some hm
    refine wq rfl rfl rfl (ov_sadd' e3 rfl rfl rfl) ?_
    refine wq rfl rfl rfl (ov_assign rfl rfl) ?_
    refine WL.nil (then_normal (WP.ret ?_))
    obtain rfl := Option.some.inj hm
    refine retQ_ret Tryz.results58 (Res.tmp rfl Res.nil) rfl (fun w' s => ⟨s.below, ?_⟩)
    exact rfl

theorem ref03_Digits_con (p_n : Int) (w : World) (H : Heap) (hH : Le H (hp w)) (hG : Glob H) (r : (List UInt8)) (hm : ref03_Digits p_n = some r) :
    Con Tryz.prog 59 [(.int .i64 p_n)] w H (fun v _ => v = (mkS r)) := by
  unfold ref03_Digits at hm
  refine con_of hH Tryz.func59 rfl 23 Tryz.ntmps59 rfl ?_
  refine WP.seq (WP.region ?_)
  refine wq rfl rfl rfl (ov_assign rfl rfl) ?_
  refine WL.nil (then_normal (WP.seq (WP.region ?_)))
  refine wq rfl rfl rfl (ov_assign rfl rfl) ?_
  refine WL.nil (then_normal ?_)
  obtain ⟨k1, hk1, hm⟩ := joinK_some hm
  refine WP.seq_join (fun g' S' => ∃ (s4 : (List UInt8)), Sub [(3, (mkS s4)), (1000000007, (.bool false))] g' ∧ (∀ w', S' w' → St w H [] H w') ∧ k1 s4 = some r) ?_ ?_
  · skip
    refine WP.seq (WP.region ?_)
    refine wq rfl rfl rfl (ov_move rfl rfl) ?_
    refine wq rfl rfl rfl (ov_assign rfl rfl) ?_
    refine WL.nil (then_normal (WP.block ?_))
    refine WP.loop (fun m1 g' S' => ∃ (s1 : (List UInt8)) (i1 : Int), Sub [(3, (mkS s1)), (4, (.int .i64 i1)), (1000000007, (.bool false))] g' ∧ (∀ w', S' w' → St w H [] H w') ∧ ref03_Digits_loop1 k1 m1 s1 i1 = some r) ((p_n.toNat + 2)) ⟨[], p_n, (Sub.cons rfl (Sub.cons rfl (Sub.cons rfl (Sub.nil _)))), fun w' s => s, hm⟩ ?_ ?_
    · rintro g' S' ⟨_, _, _, _, hm⟩
      exact none_some hm
    · rintro m1 g' S' ⟨s1, i1, hsub1, hS1, hm⟩
      refine WP.sub hsub1 (WP.weaken hS1 ?_)
      rw [ref03_Digits_loop1] at hm
      refine WP.seq (WP.seq (WP.region ?_))
      refine wq rfl rfl rfl (ov_move rfl rfl) ?_
      refine wq rfl rfl rfl (ov_gtr rfl rfl rfl) ?_
      refine wq rfl rfl rfl (ov_move rfl rfl) ?_
      refine WL.cut_bool 3 11 (x := ((decide (i1 > 0)) || (s1 == []))) ?_ ?_
      · rcases Bool.eq_false_or_eq_true (decide (i1 > 0)) with hc1 | hc1
        · skip
          refine WL.idle (Idle.no rfl rfl rfl hc1) rfl rfl ?_
          refine WL.idle (Idle.no rfl rfl rfl hc1) rfl rfl ?_
          refine wq rfl rfl rfl (ov_pick_true rfl (guard_eq rfl hc1) rfl) ?_
          exact WL.nil ⟨Sub.cons' rfl (congrArg Value.bool (orT hc1)) (Sub.skip rfl (Sub.skip rfl (Sub.skip rfl (Sub.refl _)))), fun _ s => s⟩
        · skip
          refine WL.quiet (Runs.yes rfl rfl rfl hc1) rfl rfl (OV.quiet (ov_move rfl rfl)) ?_
          refine WL.quiet (Runs.yes rfl rfl rfl hc1) rfl rfl (OV.quiet (ov_seql rfl rfl rfl)) ?_
          refine wq rfl rfl rfl (ov_pick_false rfl (guard_eq rfl hc1) rfl) ?_
          exact WL.nil ⟨Sub.cons' rfl (congrArg Value.bool (orF hc1)) (Sub.skip rfl (Sub.skip rfl (Sub.skip rfl (Sub.refl _)))), fun _ s => s⟩
      refine WL.nil (then_normal ?_)
      refine WP.cond rfl (fun hc2 => ?_) (fun hc2 => ?_)
      · replace hm := ite_t hc2 hm
        refine WP.skip (then_normal (WP.seq (WP.block (WP.region ?_))))
        refine wq rfl rfl rfl (ov_move rfl rfl) ?_
        refine wq rfl rfl rfl (ov_rem rfl rfl rfl (by decide)) ?_
        refine wq rfl rfl rfl (ov_move rfl rfl) ?_
        refine wq rfl rfl rfl (ov_rem rfl rfl rfl (by decide)) ?_
        refine wq rfl rfl rfl (ov_add rfl rfl rfl) ?_
        obtain ⟨s2, e1, hm⟩ := bind_some hm
        refine wq rfl rfl rfl (ov_slice_string Tryz.underlying9 rfl rfl rfl rfl e1) ?_
        refine wq rfl rfl rfl (ov_move rfl rfl) ?_
        obtain ⟨s3, e2, hm⟩ := bind_some hm
        refine wq rfl rfl rfl (ov_sadd' e2 rfl rfl rfl) ?_
        refine wq rfl rfl rfl (ov_assign rfl rfl) ?_
        refine WL.nil (block_normal (then_normal (WP.region ?_)))
        refine wq rfl rfl rfl (ov_move rfl rfl) ?_
        refine wq rfl rfl rfl (ov_quo rfl rfl rfl (by decide)) ?_
        refine wq rfl rfl rfl (ov_assign rfl rfl) ?_
        refine WL.nil (then_normal ?_)
        exact ⟨s3, (IntKind.wrap .i64 (Int.tdiv i1 10)), (Sub.cons rfl (Sub.cons rfl (Sub.cons rfl (Sub.nil _)))), fun w' s => s, hm⟩
      · replace hm := ite_f hc2 hm
        refine WP.exit (then_exit (then_exit (block_here (then_normal ?_))))
        exact ⟨s1, (Sub.cons rfl (Sub.cons rfl (Sub.nil _))), fun w' s => s, hm⟩
  · rintro g' S' ⟨s4, hsub2, hS2, hm⟩
    refine WP.sub hsub2 (WP.weaken hS2 ?_)
    replace hm := (congrFun hk1 s4).symm.trans hm
    refine WP.seq (WP.region ?_)
    refine wq rfl rfl rfl (ov_move rfl rfl) ?_
    refine wq rfl rfl rfl (ov_assign rfl rfl) ?_
    refine WL.nil (then_normal (WP.ret ?_))
    obtain rfl := Option.some.inj hm
    refine retQ_ret Tryz.results59 (Res.tmp rfl Res.nil) rfl (fun w' s => ⟨s.below, ?_⟩)
    exact rfl

end Go.Proofs.YtbiifgojhljkjaaGreatDoor.W
