/- The walks. Written by our own program gen.py; Lean checks it. -/
import Derived.Test.YtbiifgojhljkjaaDoorPlain
import Derived.Test.YtbiifgojhljkjaaDoorEqs
import Derived.Test.YtbiifgojhljkjaaDoorProg
import Derived.Test.YtbiifgojhljkjaaDoorExt
import Derived.Test.YtbiifgojhljkjaaDoorClone
import Derived.Test.YtbiifgojhljkjaaDoorWalk0
import Derived.Test.YtbiifgojhljkjaaDoorWalk1
set_option linter.unusedVariables false
set_option maxRecDepth 100000
set_option maxHeartbeats 4000000
namespace Go.Proofs.YtbiifgojhljkjaaDoor.W
open Go Go.RowKit
theorem slices_Equal_boolbool_con (p_s1 : (List Bool)) (p_s2 : (List Bool)) (ao1 : Option Addr) (cap1 : Nat) (ao2 : Option Addr) (cap2 : Nat) (w : World) (H : Heap) (hH : Le H (hp w)) (h1 : SL H encBool ao1 p_s1) (hc1 : p_s1.length ≤ cap1) (h2 : SL H encBool ao2 p_s2) (hc2 : p_s2.length ≤ cap2) (hG : Glob H) (r : Bool) (hm : slices_Equal_boolbool p_s1 p_s2 = some r) :
    Con Tryd.prog 19 [(.slice ao1 p_s1.length cap1), (.slice ao2 p_s2.length cap2)] w H (fun v _ => v = (.bool r)) := by
  unfold slices_Equal_boolbool at hm
  refine con_of hH Tryd.func19 rfl 26 Tryd.ntmps19 rfl ?_
  refine WP.seq (WP.region ?_)
  refine wq rfl rfl rfl (ov_assign rfl rfl) ?_
  refine WL.nil (then_normal (WP.seq (WP.seq (WP.region ?_))))
  refine wq rfl rfl rfl (ov_move rfl rfl) ?_
  refine wq rfl rfl rfl (ov_len_slice Tryd.underlying37 rfl rfl) ?_
  refine wq rfl rfl rfl (ov_move rfl rfl) ?_
  refine wq rfl rfl rfl (ov_len_slice Tryd.underlying37 rfl rfl) ?_
  refine wq rfl rfl rfl (ov_neq rfl rfl rfl) ?_
  refine WL.nil (then_normal ?_)
  refine WP.cond rfl (fun hc3 => ?_) (fun hc3 => ?_)
  · replace hm := ite_t hc3 hm
    refine WP.seq (WP.region ?_)
    refine wq rfl rfl rfl (ov_assign rfl rfl) ?_
    refine WL.nil (then_normal (WP.ret (then_ret ?_)))
    obtain rfl := Option.some.inj hm
    refine retQ_ret Tryd.results19 (Res.tmp rfl Res.nil) rfl (fun w' s => ⟨s.below, ?_⟩)
    exact rfl
  · replace hm := ite_f hc3 hm
    refine WP.skip (then_normal ?_)
    obtain ⟨k1, hk1, hm⟩ := joinK_some hm
    refine WP.seq_join (fun g' S' => Sub [(1000000007, (.bool false))] g' ∧ (∀ w', S' w' → St w H [] H w') ∧ k1 = some r) ?_ ?_
    · skip
      refine WP.seq (WP.region ?_)
      refine wq rfl rfl rfl (ov_move rfl rfl) ?_
      refine wq rfl rfl rfl (ov_len_slice Tryd.underlying37 rfl rfl) ?_
      refine wq rfl rfl rfl (ov_move rfl rfl) ?_
      refine WL.nil (then_normal (WP.block ?_))
      refine WP.loop (fun m1 g' S' => ∃ (i1 : Int), Sub [(0, (.slice ao1 p_s1.length cap1)), (1, (.slice ao2 p_s2.length cap2)), (12, (.int .i64 (p_s1.length : Int))), (13, (.int .i64 i1)), (1000000007, (.bool false))] g' ∧ (∀ w', S' w' → St w H [] H w') ∧ slices_Equal_boolbool_loop1 p_s1 p_s2 k1 m1 i1 = some r) ((Int.toNat ((p_s1.length : Int) - 0) + 1)) ⟨0, (Sub.cons rfl (Sub.cons rfl (Sub.cons rfl (Sub.cons rfl (Sub.cons rfl (Sub.nil _)))))), fun w' s => s, hm⟩ ?_ ?_
      · rintro g' S' ⟨_, _, _, hm⟩
        exact none_some hm
      · rintro m1 g' S' ⟨i1, hsub1, hS1, hm⟩
        refine WP.sub hsub1 (WP.weaken hS1 ?_)
        rw [slices_Equal_boolbool_loop1] at hm
        refine WP.seq (WP.region ?_)
        refine wq rfl rfl rfl (ov_lss rfl rfl rfl) ?_
        refine WL.nil (then_normal (WP.seq ?_))
        refine WP.cond rfl (fun hc4 => ?_) (fun hc4 => ?_)
        · replace hm := ite_t hc4 hm
          refine WP.skip (then_normal (WP.seq (WP.block (WP.seq (WP.region ?_)))))
          refine wq rfl rfl rfl (ov_move rfl rfl) ?_
          refine wq rfl rfl rfl (ov_assign rfl rfl) ?_
          refine WL.nil (then_normal (WP.seq ?_))
          refine WP.region_draws (by kernel_rfl) (by kernel_rfl) (fun _ s => s.drew) ?_
          refine QL.quiet (Runs.free rfl) rfl rfl (OV.quiet (ov_move rfl rfl)) ?_
          refine QL.quiet (Runs.free rfl) rfl rfl (OV.quiet (ov_move rfl rfl)) ?_
          obtain ⟨x1, e1, hm⟩ := bind_some hm
          obtain ⟨h3, h4, h5, cs1, h6, h7⟩ := h1.get e1 (by decide)
          obtain rfl : cs1 = [(.bool x1)] := h6
          refine QL.quiet (Runs.free rfl) rfl rfl (OV.quiet (ov_indexAddr Tryd.underlying37 Tryd.sizeOf4 rfl rfl rfl h3 h4 h5)) ?_
          refine QL.quiet (Runs.free rfl) rfl rfl (OV.quiet (ov_load_elem (v := (.bool x1)) Tryd.isAgg4 rfl rfl h7)) ?_
          refine QL.quiet (Runs.free rfl) rfl rfl (OV.quiet (ov_move rfl rfl)) ?_
          refine QL.quiet (Runs.free rfl) rfl rfl (OV.quiet (ov_move rfl rfl)) ?_
          obtain ⟨x2, e2, hm⟩ := bind_some hm
          obtain ⟨h8, h9, h10, cs2, h11, h12⟩ := h2.get e2 (by decide)
          obtain rfl : cs2 = [(.bool x2)] := h11
          refine QL.quiet (Runs.free rfl) rfl rfl (OV.quiet (ov_indexAddr Tryd.underlying37 Tryd.sizeOf4 rfl rfl rfl h8 h9 h10)) ?_
          refine QL.quiet (Runs.free rfl) rfl rfl (OV.quiet (ov_load_elem (v := (.bool x2)) Tryd.isAgg4 rfl rfl h12)) ?_
          refine QL.quiet (Runs.free rfl) rfl rfl (OV.quiet (ov_bneq Tryd.underlying4 rfl rfl rfl)) ?_
          refine QL.nil ?_
          refine then_normal ?_
          refine WP.cond rfl (fun hc5 => ?_) (fun hc5 => ?_)
          · replace hm := ite_t hc5 hm
            refine WP.seq (WP.region ?_)
            refine wq rfl rfl rfl (ov_assign rfl rfl) ?_
            refine WL.nil (then_normal (WP.ret (block_ret (then_ret (then_ret (block_ret (then_ret ?_)))))))
            obtain rfl := Option.some.inj hm
            refine retQ_ret Tryd.results19 (Res.tmp rfl Res.nil) rfl (fun w' s => ⟨s.below, ?_⟩)
            exact rfl
          · replace hm := ite_f hc5 hm
            refine WP.skip (block_normal (then_normal (WP.region ?_)))
            refine wq rfl rfl rfl (ov_add rfl rfl rfl) ?_
            refine wq rfl rfl rfl (ov_move rfl rfl) ?_
            refine WL.nil (then_normal ?_)
            exact ⟨(IntKind.wrap .i64 (i1 + 1)), (Sub.cons rfl (Sub.cons rfl (Sub.cons rfl (Sub.cons rfl (Sub.cons rfl (Sub.nil _)))))), fun w' s => s, hm⟩
        · replace hm := ite_f hc4 hm
          refine WP.exit (then_exit (then_exit (block_here (then_normal ?_))))
          exact ⟨(Sub.cons rfl (Sub.nil _)), fun w' s => s, hm⟩
    · rintro g' S' ⟨hsub2, hS2, hm⟩
      refine WP.sub hsub2 (WP.weaken hS2 ?_)
      replace hm := hk1.symm.trans hm
      refine WP.seq (WP.region ?_)
      refine wq rfl rfl rfl (ov_assign rfl rfl) ?_
      refine WL.nil (then_normal (WP.ret ?_))
      obtain rfl := Option.some.inj hm
      refine retQ_ret Tryd.results19 (Res.tmp rfl Res.nil) rfl (fun w' s => ⟨s.below, ?_⟩)
      exact rfl

theorem law13_awake_con  (w : World) (H : Heap) (hH : Le H (hp w)) (hG : Glob H) (r : Bool) (hm : law13_awake  = some r) :
    Con Tryd.prog 11 [] w H (fun v _ => v = (.bool r)) := by
  unfold law13_awake at hm
  refine con_of hH Tryd.func11 rfl 86 Tryd.ntmps11 rfl ?_
  refine WP.seq (WP.region ?_)
  refine wq rfl rfl rfl (ov_assign rfl rfl) ?_
  refine WL.nil (then_normal (WP.seq (WP.region ?_)))
  refine wq rfl rfl rfl (ov_build (r := (.agg #[(.int .i64 0), (.bool true)])) rfl rfl (fun _ => by kernel_rfl)) ?_
  refine wq rfl rfl rfl (ov_build (r := (.agg #[(.int .i64 1), (.bool false)])) rfl rfl (fun _ => by kernel_rfl)) ?_
  have rl1 : RL H encStroke ([(Stroke.mk 0 true), (Stroke.mk 1 false)] : List Stroke) [(.int .i64 0), (.bool true), (.int .i64 1), (.bool false)] := RL.cons (cs := [(.int .i64 0), (.bool true)]) (xs := [(.int .i64 1), (.bool false)]) rfl (RL.cons (cs := [(.int .i64 1), (.bool false)]) (xs := []) rfl (RL.nil _ _))
  refine WL.step (Runs.free rfl) rfl rfl (os_buildSlice (cs := [(.int .i64 0), (.bool true), (.int .i64 1), (.bool false)]) (E := 51) (sz := 2) rfl rfl (fun _ => by kernel_rfl) rfl (by decide) (fun b1 => ?_))
  refine WL.held rl1 (fun H1 hc1 hle1 h1 => ?_)
  replace hG := hG.mono hle1
  refine wq rfl rfl rfl (ov_build (r := (.agg #[(.slice (some ⟨b1, 0, none⟩) ([(Stroke.mk 0 true), (Stroke.mk 1 false)] : List Stroke).length 2), (.int .i64 200)])) rfl rfl (fun _ => by kernel_rfl)) ?_
  refine WL.step (Runs.free rfl) rfl rfl (os_alloc (cs := [(.slice none 0 0), (.int .i64 0)]) Tryd.zeroValue26 rfl rfl (fun b2 => ?_))
  refine WL.step0 (Runs.free rfl) rfl (os_store (i := 0) (vs := [(.slice (some ⟨b1, 0, none⟩) ([(Stroke.mk 0 true), (Stroke.mk 1 false)] : List Stroke).length 2), (.int .i64 200)]) (cs' := [(.slice (some ⟨b1, 0, none⟩) ([(Stroke.mk 0 true), (Stroke.mk 1 false)] : List Stroke).length 2), (.int .i64 200)]) Tryd.sizeOf26 rfl rfl rfl rfl rfl rfl rfl rfl rfl ?_)
  refine WL.nil (then_normal (WP.seq (WP.region ?_)))
  refine wq rfl rfl rfl (ov_load_whole (i := 0) Tryd.isAgg26 Tryd.sizeOf26 rfl rfl rfl rfl) ?_
  have rl2 : RL H1 encStep ([(Step.mk ([(Stroke.mk 0 true), (Stroke.mk 1 false)] : List Stroke) 200)] : List Step) [(.slice (some ⟨b1, 0, none⟩) ([(Stroke.mk 0 true), (Stroke.mk 1 false)] : List Stroke).length 2), (.int .i64 200)] := RL.cons (cs := [(.slice (some ⟨b1, 0, none⟩) ([(Stroke.mk 0 true), (Stroke.mk 1 false)] : List Stroke).length 2), (.int .i64 200)]) (xs := []) ⟨(some ⟨b1, 0, none⟩), 2, rfl, h1, hc1⟩ (RL.nil _ _)
  refine WL.step (Runs.free rfl) rfl rfl (os_buildSlice (cs := [(.slice (some ⟨b1, 0, none⟩) ([(Stroke.mk 0 true), (Stroke.mk 1 false)] : List Stroke).length 2), (.int .i64 200)]) (E := 26) (sz := 2) rfl rfl (fun _ => by kernel_rfl) rfl (by decide) (fun b3 => ?_))
  refine WL.held rl2 (fun H2 hc2 hle2 h2 => ?_)
  replace h1 := h1.mono hle2
  replace hG := hG.mono hle2
  obtain ⟨r1, e1, hm⟩ := bind_some hm
  refine WL.quiet (Runs.free rfl) rfl rfl (oq_con (r := (.tuple #[(mkS r1.1), (.int .i64 r1.2)])) Tryd.call12 rfl rfl (fun w' s => ⟨_, (stroke_Format_con ([(Step.mk ([(Stroke.mk 0 true), (Stroke.mk 1 false)] : List Stroke) 200)] : List Step) (some ⟨b3, 0, none⟩) 1  w' H2 s.hold h2 hc2 hG r1 e1)⟩)) ?_
  refine wq rfl rfl rfl (ov_move rfl rfl) ?_
  refine wq rfl rfl rfl (ov_extract rfl rfl rfl) ?_
  refine wq rfl rfl rfl (ov_extract rfl rfl rfl) ?_
  refine wq rfl rfl rfl (ov_assign rfl rfl) ?_
  refine wq rfl rfl rfl (ov_assign rfl rfl) ?_
  refine WL.nil (then_normal (WP.seq (WP.region ?_)))
  refine wq rfl rfl rfl (ov_load_whole (i := 0) Tryd.isAgg26 Tryd.sizeOf26 rfl rfl rfl rfl) ?_
  have rl3 : RL H2 encBool ([false, true] : List Bool) [(.bool false), (.bool true)] := RL.cons (cs := [(.bool false)]) (xs := [(.bool true)]) rfl (RL.cons (cs := [(.bool true)]) (xs := []) rfl (RL.nil _ _))
  refine WL.step (Runs.free rfl) rfl rfl (os_buildSlice (cs := [(.bool false), (.bool true)]) (E := 4) (sz := 1) rfl rfl (fun _ => by kernel_rfl) rfl (by decide) (fun b4 => ?_))
  refine WL.held rl3 (fun H3 hc3 hle3 h3 => ?_)
  replace h1 := h1.mono hle3
  replace h2 := h2.mono hle3
  replace hG := hG.mono hle3
  obtain ⟨r2, e2, hm⟩ := bind_some hm
  refine WL.step (Runs.free rfl) rfl rfl (os_con Tryd.call17 rfl rfl (fun w' s => (stroke_Apply_con (Step.mk ([(Stroke.mk 0 true), (Stroke.mk 1 false)] : List Stroke) 200) ([false, true] : List Bool) (some ⟨b1, 0, none⟩) 2 (some ⟨b4, 0, none⟩) 2  w' H3 s.hold h1 hc1 h3 hc3 hG r2 e2)) (fun rr1 H4 hle4 hR1 => ?_))
  replace h1 := h1.mono hle4
  replace h2 := h2.mono hle4
  replace h3 := h3.mono hle4
  replace hG := hG.mono hle4
  obtain ⟨ao1, cap1, rfl, h4, hc4⟩ := hR1
  refine wq rfl rfl rfl (ov_move rfl rfl) ?_
  refine wq rfl rfl rfl (ov_extract rfl rfl rfl) ?_
  refine wq rfl rfl rfl (ov_extract rfl rfl rfl) ?_
  refine wq rfl rfl rfl (ov_assign rfl rfl) ?_
  refine wq rfl rfl rfl (ov_assign rfl rfl) ?_
  refine WL.nil (then_normal (WP.seq (WP.region ?_)))
  obtain ⟨r3, e3, hm⟩ := bind_some hm
  refine WL.step (Runs.free rfl) rfl rfl (os_con Tryd.call13 rfl rfl (fun w' s => (stroke_Parse_con [65, 43, 59, 32, 66, 43, 32, 67, 43, 59, 32, 65, 45]  w' H4 s.hold hG r3 e3)) (fun rr2 H5 hle5 hR2 => ?_))
  replace h1 := h1.mono hle5
  replace h2 := h2.mono hle5
  replace h3 := h3.mono hle5
  replace h4 := h4.mono hle5
  replace hG := hG.mono hle5
  obtain ⟨ao2, cap2, rfl, h5, hc5⟩ := hR2
  refine wq rfl rfl rfl (ov_move rfl rfl) ?_
  refine wq rfl rfl rfl (ov_extract rfl rfl rfl) ?_
  refine wq rfl rfl rfl (ov_extract rfl rfl rfl) ?_
  refine wq rfl rfl rfl (ov_extract rfl rfl rfl) ?_
  refine wq rfl rfl rfl (ov_assign rfl rfl) ?_
  refine wq rfl rfl rfl (ov_assign rfl rfl) ?_
  refine wq rfl rfl rfl (ov_assign rfl rfl) ?_
  refine WL.nil (then_normal (WP.seq (WP.seq (WP.region ?_))))
  refine wq rfl rfl rfl (ov_move rfl rfl) ?_
  refine wq rfl rfl rfl (ov_move rfl rfl) ?_
  refine wq rfl rfl rfl (ov_add rfl rfl rfl) ?_
  refine wq rfl rfl rfl (ov_move rfl rfl) ?_
  refine wq rfl rfl rfl (ov_add rfl rfl rfl) ?_
  refine wq rfl rfl rfl (ov_neq rfl rfl rfl) ?_
  refine wq rfl rfl rfl (ov_move rfl rfl) ?_
  refine WL.cut_bool 3 44 (x := (((IntKind.wrap .i64 ((IntKind.wrap .i64 (r1.2 + r2.2)) + r3.2.2)) != 0) || (!(r1.1 == [65, 43, 32, 66, 45, 32, 50, 48, 48])))) ?_ ?_
  · rcases Bool.eq_false_or_eq_true ((IntKind.wrap .i64 ((IntKind.wrap .i64 (r1.2 + r2.2)) + r3.2.2)) != 0) with hc6 | hc6
    · skip
      refine WL.idle (Idle.no rfl rfl rfl hc6) rfl rfl ?_
      refine WL.idle (Idle.no rfl rfl rfl hc6) rfl rfl ?_
      refine wq rfl rfl rfl (ov_pick_true rfl (guard_eq rfl hc6) rfl) ?_
      exact WL.nil ⟨Sub.cons' rfl (congrArg Value.bool (orT hc6)) (Sub.skip rfl (Sub.skip rfl (Sub.skip rfl (Sub.refl _)))), fun _ s => s⟩
    · skip
      refine WL.quiet (Runs.yes rfl rfl rfl hc6) rfl rfl (OV.quiet (ov_move rfl rfl)) ?_
      refine WL.quiet (Runs.yes rfl rfl rfl hc6) rfl rfl (OV.quiet (ov_sneq rfl rfl rfl)) ?_
      refine wq rfl rfl rfl (ov_pick_false rfl (guard_eq rfl hc6) rfl) ?_
      exact WL.nil ⟨Sub.cons' rfl (congrArg Value.bool (orF hc6)) (Sub.skip rfl (Sub.skip rfl (Sub.skip rfl (Sub.refl _)))), fun _ s => s⟩
  refine wq rfl rfl rfl (ov_move rfl rfl) ?_
  obtain ⟨c1, e4, hm⟩ := bind_some hm
  refine WL.cut_bool 5 50 (x := c1) ?_ ?_
  · rcases Bool.eq_false_or_eq_true (((IntKind.wrap .i64 ((IntKind.wrap .i64 (r1.2 + r2.2)) + r3.2.2)) != 0) || (!(r1.1 == [65, 43, 32, 66, 45, 32, 50, 48, 48]))) with hc7 | hc7
    · skip
      replace hm := ite_t hc7 e4
      refine WL.idle (Idle.no rfl rfl rfl hc7) rfl rfl ?_
      refine WL.idle (Idle.no rfl rfl rfl hc7) rfl rfl ?_
      refine WL.idle (Idle.no rfl rfl rfl hc7) rfl rfl ?_
      refine WL.idle (Idle.no rfl rfl rfl hc7) rfl rfl ?_
      refine wq rfl rfl rfl (ov_pick_true rfl (guard_eq rfl hc7) rfl) ?_
      exact WL.nil ⟨Sub.cons' rfl (congrArg Value.bool (Option.some.inj hm)) (Sub.skip rfl (Sub.skip rfl (Sub.skip rfl (Sub.skip rfl (Sub.skip rfl (Sub.refl _)))))), fun _ s => s⟩
    · skip
      replace hm := ite_f hc7 e4
      refine WL.quiet (Runs.yes rfl rfl rfl hc7) rfl rfl (OV.quiet (ov_move rfl rfl)) ?_
      have rl4 : RL H5 encBool ([true, false] : List Bool) [(.bool true), (.bool false)] := RL.cons (cs := [(.bool true)]) (xs := [(.bool false)]) rfl (RL.cons (cs := [(.bool false)]) (xs := []) rfl (RL.nil _ _))
      refine WL.step (Runs.yes rfl rfl rfl hc7) rfl rfl (os_buildSlice (cs := [(.bool true), (.bool false)]) (E := 4) (sz := 1) rfl rfl (fun _ => by kernel_rfl) rfl (by decide) (fun b5 => ?_))
      refine WL.held rl4 (fun H6 hc8 hle6 h6 => ?_)
      replace h1 := h1.mono hle6
      replace h2 := h2.mono hle6
      replace h3 := h3.mono hle6
      replace h4 := h4.mono hle6
      replace h5 := h5.mono hle6
      replace hG := hG.mono hle6
      obtain ⟨r4, e5, hm⟩ := bind_some hm
      refine WL.quiet (Runs.yes rfl rfl rfl hc7) rfl rfl (oq_con (r := (.bool r4)) Tryd.call19 rfl rfl (fun w' s => ⟨_, (slices_Equal_boolbool_con r2.1 ([true, false] : List Bool) ao1 cap1 (some ⟨b5, 0, none⟩) 2  w' H6 s.hold h4 hc4 h6 hc8 hG r4 e5)⟩)) ?_
      refine WL.quiet (Runs.yes rfl rfl rfl hc7) rfl rfl (OV.quiet (ov_not rfl rfl)) ?_
      refine wq rfl rfl rfl (ov_pick_false rfl (guard_eq rfl hc7) rfl) ?_
      exact WL.nil ⟨Sub.cons' rfl (congrArg Value.bool (Option.some.inj hm)) (Sub.skip rfl (Sub.skip rfl (Sub.skip rfl (Sub.skip rfl (Sub.skip rfl (Sub.refl _)))))), fun _ s => (s.heap hle6)⟩
  refine wq rfl rfl rfl (ov_move rfl rfl) ?_
  refine WL.cut_bool 4 55 (x := (c1 || ((r3.1.length : Int) != 3))) ?_ ?_
  · rcases Bool.eq_false_or_eq_true c1 with hc9 | hc9
    · skip
      refine WL.idle (Idle.no rfl rfl rfl hc9) rfl rfl ?_
      refine WL.idle (Idle.no rfl rfl rfl hc9) rfl rfl ?_
      refine WL.idle (Idle.no rfl rfl rfl hc9) rfl rfl ?_
      refine wq rfl rfl rfl (ov_pick_true rfl (guard_eq rfl hc9) rfl) ?_
      exact WL.nil ⟨Sub.cons' rfl (congrArg Value.bool (orT hc9)) (Sub.skip rfl (Sub.skip rfl (Sub.skip rfl (Sub.skip rfl (Sub.refl _))))), fun _ s => s⟩
    · skip
      refine WL.quiet (Runs.yes rfl rfl rfl hc9) rfl rfl (OV.quiet (ov_move rfl rfl)) ?_
      refine WL.quiet (Runs.yes rfl rfl rfl hc9) rfl rfl (OV.quiet (ov_len_slice Tryd.underlying22 rfl rfl)) ?_
      refine WL.quiet (Runs.yes rfl rfl rfl hc9) rfl rfl (OV.quiet (ov_neq rfl rfl rfl)) ?_
      refine wq rfl rfl rfl (ov_pick_false rfl (guard_eq rfl hc9) rfl) ?_
      exact WL.nil ⟨Sub.cons' rfl (congrArg Value.bool (orF hc9)) (Sub.skip rfl (Sub.skip rfl (Sub.skip rfl (Sub.skip rfl (Sub.refl _))))), fun _ s => s⟩
  refine WL.nil (then_normal ?_)
  refine WP.cond rfl (fun hc10 => ?_) (fun hc10 => ?_)
  · replace hm := ite_t hc10 hm
    refine WP.seq (WP.region ?_)
    refine wq rfl rfl rfl (ov_assign rfl rfl) ?_
    refine WL.nil (then_normal (WP.ret (then_ret ?_)))
    obtain rfl := Option.some.inj hm
    refine retQ_ret Tryd.results11 (Res.tmp rfl Res.nil) rfl (fun w' s => ⟨s.below, ?_⟩)
    exact rfl
  · replace hm := ite_f hc10 hm
    refine WP.skip (then_normal ?_)
    obtain ⟨k1, hk1, hm⟩ := joinK_some hm
    refine WP.seq_join (fun g' S' => ∃ (H10 : Heap), Le H5 H10 ∧ Sub [(1000000007, (.bool false))] g' ∧ (∀ w', S' w' → St w H [] H10 w') ∧ k1 = some r) ?_ ?_
    · skip
      refine WP.seq (WP.region ?_)
      refine wq rfl rfl rfl (ov_build (r := (.agg #[(mkS [65, 43, 59, 32, 66, 43, 32, 65, 43]), (.int .i64 4), (.int .i64 9)])) rfl rfl (fun _ => by kernel_rfl)) ?_
      refine wq rfl rfl rfl (ov_build (r := (.agg #[(mkS [65, 43, 32, 65, 45]), (.int .i64 0), (.int .i64 7)])) rfl rfl (fun _ => by kernel_rfl)) ?_
      refine wq rfl rfl rfl (ov_build (r := (.agg #[(mkS [65, 43, 59, 66, 43]), (.int .i64 0), (.int .i64 4)])) rfl rfl (fun _ => by kernel_rfl)) ?_
      refine wq rfl rfl rfl (ov_build (r := (.agg #[(mkS [65, 43, 59, 32]), (.int .i64 4), (.int .i64 4)])) rfl rfl (fun _ => by kernel_rfl)) ?_
      refine wq rfl rfl rfl (ov_build (r := (.agg #[(mkS [65, 43, 32, 48]), (.int .i64 0), (.int .i64 4)])) rfl rfl (fun _ => by kernel_rfl)) ?_
      refine wq rfl rfl rfl (ov_build (r := (.agg #[(mkS [71, 43]), (.int .i64 0), (.int .i64 4)])) rfl rfl (fun _ => by kernel_rfl)) ?_
      have rl5 : RL H5 encCase ([(Case.mk [65, 43, 59, 32, 66, 43, 32, 65, 43] 4 9), (Case.mk [65, 43, 32, 65, 45] 0 7), (Case.mk [65, 43, 59, 66, 43] 0 4), (Case.mk [65, 43, 59, 32] 4 4), (Case.mk [65, 43, 32, 48] 0 4), (Case.mk [71, 43] 0 4)] : List Case) [(mkS [65, 43, 59, 32, 66, 43, 32, 65, 43]), (.int .i64 4), (.int .i64 9), (mkS [65, 43, 32, 65, 45]), (.int .i64 0), (.int .i64 7), (mkS [65, 43, 59, 66, 43]), (.int .i64 0), (.int .i64 4), (mkS [65, 43, 59, 32]), (.int .i64 4), (.int .i64 4), (mkS [65, 43, 32, 48]), (.int .i64 0), (.int .i64 4), (mkS [71, 43]), (.int .i64 0), (.int .i64 4)] := RL.cons (cs := [(mkS [65, 43, 59, 32, 66, 43, 32, 65, 43]), (.int .i64 4), (.int .i64 9)]) (xs := [(mkS [65, 43, 32, 65, 45]), (.int .i64 0), (.int .i64 7), (mkS [65, 43, 59, 66, 43]), (.int .i64 0), (.int .i64 4), (mkS [65, 43, 59, 32]), (.int .i64 4), (.int .i64 4), (mkS [65, 43, 32, 48]), (.int .i64 0), (.int .i64 4), (mkS [71, 43]), (.int .i64 0), (.int .i64 4)]) rfl (RL.cons (cs := [(mkS [65, 43, 32, 65, 45]), (.int .i64 0), (.int .i64 7)]) (xs := [(mkS [65, 43, 59, 66, 43]), (.int .i64 0), (.int .i64 4), (mkS [65, 43, 59, 32]), (.int .i64 4), (.int .i64 4), (mkS [65, 43, 32, 48]), (.int .i64 0), (.int .i64 4), (mkS [71, 43]), (.int .i64 0), (.int .i64 4)]) rfl (RL.cons (cs := [(mkS [65, 43, 59, 66, 43]), (.int .i64 0), (.int .i64 4)]) (xs := [(mkS [65, 43, 59, 32]), (.int .i64 4), (.int .i64 4), (mkS [65, 43, 32, 48]), (.int .i64 0), (.int .i64 4), (mkS [71, 43]), (.int .i64 0), (.int .i64 4)]) rfl (RL.cons (cs := [(mkS [65, 43, 59, 32]), (.int .i64 4), (.int .i64 4)]) (xs := [(mkS [65, 43, 32, 48]), (.int .i64 0), (.int .i64 4), (mkS [71, 43]), (.int .i64 0), (.int .i64 4)]) rfl (RL.cons (cs := [(mkS [65, 43, 32, 48]), (.int .i64 0), (.int .i64 4)]) (xs := [(mkS [71, 43]), (.int .i64 0), (.int .i64 4)]) rfl (RL.cons (cs := [(mkS [71, 43]), (.int .i64 0), (.int .i64 4)]) (xs := []) rfl (RL.nil _ _))))))
      refine WL.step (Runs.free rfl) rfl rfl (os_buildSlice (cs := [(mkS [65, 43, 59, 32, 66, 43, 32, 65, 43]), (.int .i64 4), (.int .i64 9), (mkS [65, 43, 32, 65, 45]), (.int .i64 0), (.int .i64 7), (mkS [65, 43, 59, 66, 43]), (.int .i64 0), (.int .i64 4), (mkS [65, 43, 59, 32]), (.int .i64 4), (.int .i64 4), (mkS [65, 43, 32, 48]), (.int .i64 0), (.int .i64 4), (mkS [71, 43]), (.int .i64 0), (.int .i64 4)]) (E := 63) (sz := 3) rfl rfl (fun _ => by kernel_rfl) rfl (by decide) (fun b6 => ?_))
      refine WL.held rl5 (fun H7 hc11 hle7 h7 => ?_)
      replace h1 := h1.mono hle7
      replace h2 := h2.mono hle7
      replace h3 := h3.mono hle7
      replace h4 := h4.mono hle7
      replace h5 := h5.mono hle7
      replace hG := hG.mono hle7
      refine wq rfl rfl rfl (ov_len_slice Tryd.underlying64 rfl rfl) ?_
      refine wq rfl rfl rfl (ov_move rfl rfl) ?_
      refine WL.nil (then_normal (WP.block ?_))
      refine WP.loop (fun m1 g' S' => ∃ (H8 : Heap) (i1 : Int), Le H7 H8 ∧ Sub [(62, (.slice (some ⟨b6, 0, none⟩) ([(Case.mk [65, 43, 59, 32, 66, 43, 32, 65, 43] 4 9), (Case.mk [65, 43, 32, 65, 45] 0 7), (Case.mk [65, 43, 59, 66, 43] 0 4), (Case.mk [65, 43, 59, 32] 4 4), (Case.mk [65, 43, 32, 48] 0 4), (Case.mk [71, 43] 0 4)] : List Case).length 6)), (63, (.int .i64 (([(Case.mk [65, 43, 59, 32, 66, 43, 32, 65, 43] 4 9), (Case.mk [65, 43, 32, 65, 45] 0 7), (Case.mk [65, 43, 59, 66, 43] 0 4), (Case.mk [65, 43, 59, 32] 4 4), (Case.mk [65, 43, 32, 48] 0 4), (Case.mk [71, 43] 0 4)] : List Case).length : Int))), (64, (.int .i64 i1)), (1000000007, (.bool false))] g' ∧ (∀ w', S' w' → St w H [] H8 w') ∧ law13_awake_loop1 k1 m1 i1 = some r) ((Int.toNat ((([(Case.mk [65, 43, 59, 32, 66, 43, 32, 65, 43] 4 9), (Case.mk [65, 43, 32, 65, 45] 0 7), (Case.mk [65, 43, 59, 66, 43] 0 4), (Case.mk [65, 43, 59, 32] 4 4), (Case.mk [65, 43, 32, 48] 0 4), (Case.mk [71, 43] 0 4)] : List Case).length : Int) - 0) + 1)) ⟨H7, 0, (Le.refl _), (Sub.cons rfl (Sub.cons rfl (Sub.cons rfl (Sub.cons rfl (Sub.nil _))))), fun w' s => (s.select [] (by decide) rfl), hm⟩ ?_ ?_
      · rintro g' S' ⟨_, _, _, _, _, hm⟩
        exact none_some hm
      · rintro m1 g' S' ⟨H8, i1, hle8, hsub1, hS1, hm⟩
        refine WP.sub hsub1 (WP.weaken hS1 ?_)
        rw [law13_awake_loop1] at hm
        replace h7 := h7.mono hle8
        replace hG := hG.mono hle8
        refine WP.seq (WP.region ?_)
        refine wq rfl rfl rfl (ov_lss rfl rfl rfl) ?_
        refine WL.nil (then_normal (WP.seq ?_))
        refine WP.cond rfl (fun hc12 => ?_) (fun hc12 => ?_)
        · replace hm := ite_t hc12 hm
          refine WP.skip (then_normal (WP.seq (WP.block (WP.seq (WP.region ?_)))))
          obtain ⟨x1, e6, hm⟩ := bind_some hm
          obtain ⟨h8, h9, h10, cs1, h11, h12⟩ := h7.get e6 (by decide)
          obtain rfl : cs1 = [(mkS x1.s), (.int .i64 x1.at_), (.int .i64 x1.e)] := h11
          refine wq rfl rfl rfl (ov_indexAddr Tryd.underlying64 Tryd.sizeOf63 rfl rfl rfl h8 h9 h10) ?_
          refine wq rfl rfl rfl (ov_load_elems (vs := [(mkS x1.s), (.int .i64 x1.at_), (.int .i64 x1.e)]) Tryd.isAgg63 Tryd.sizeOf63 rfl rfl rfl h12 h10) ?_
          refine WL.step (Runs.free rfl) rfl rfl (os_alloc (cs := [(mkS []), (.int .i64 0), (.int .i64 0)]) Tryd.zeroValue63 rfl rfl (fun b7 => ?_))
          refine WL.step0 (Runs.free rfl) rfl (os_store (i := 0) (vs := [(mkS x1.s), (.int .i64 x1.at_), (.int .i64 x1.e)]) (cs' := [(mkS x1.s), (.int .i64 x1.at_), (.int .i64 x1.e)]) Tryd.sizeOf63 rfl rfl rfl rfl rfl rfl rfl rfl rfl ?_)
          refine WL.nil (then_normal (WP.seq (WP.region ?_)))
          refine wq rfl rfl rfl (ov_fieldAddr Tryd.underlying63 rfl rfl rfl Tryd.sizeOf9 rfl rfl) ?_
          refine wq rfl rfl rfl (ov_load_box (i := 0) Tryd.isAgg9 rfl rfl rfl rfl) ?_
          obtain ⟨r5, e7, hm⟩ := bind_some hm
          refine WL.step (Runs.free rfl) rfl rfl (os_con Tryd.call13 rfl rfl (fun w' s => (stroke_Parse_con x1.s  w' H8 s.hold hG r5 e7)) (fun rr3 H9 hle9 hR3 => ?_))
          replace h7 := h7.mono hle9
          replace h12 := h12.mono hle9
          replace hG := hG.mono hle9
          obtain ⟨ao3, cap3, rfl, h13, hc13⟩ := hR3
          refine wq rfl rfl rfl (ov_move rfl rfl) ?_
          refine wq rfl rfl rfl (ov_extract rfl rfl rfl) ?_
          refine wq rfl rfl rfl (ov_extract rfl rfl rfl) ?_
          refine wq rfl rfl rfl (ov_extract rfl rfl rfl) ?_
          refine wq rfl rfl rfl (ov_assign rfl rfl) ?_
          refine wq rfl rfl rfl (ov_assign rfl rfl) ?_
          refine wq rfl rfl rfl (ov_assign rfl rfl) ?_
          refine WL.nil (then_normal (WP.seq (WP.region ?_)))
          refine wq rfl rfl rfl (ov_move rfl rfl) ?_
          refine wq rfl rfl rfl (ov_fieldAddr Tryd.underlying63 rfl rfl rfl Tryd.sizeOf3 rfl rfl) ?_
          refine wq rfl rfl rfl (ov_load_box (i := 0) Tryd.isAgg3 rfl rfl rfl rfl) ?_
          refine wq rfl rfl rfl (ov_neq rfl rfl rfl) ?_
          refine wq rfl rfl rfl (ov_move rfl rfl) ?_
          refine WL.cut_bool 5 84 (x := ((r5.2.1 != x1.at_) || (r5.2.2 != x1.e))) ?_ ?_
          · rcases Bool.eq_false_or_eq_true (r5.2.1 != x1.at_) with hc14 | hc14
            · skip
              refine WL.idle (Idle.no rfl rfl rfl hc14) rfl rfl ?_
              refine WL.idle (Idle.no rfl rfl rfl hc14) rfl rfl ?_
              refine WL.idle (Idle.no rfl rfl rfl hc14) rfl rfl ?_
              refine WL.idle (Idle.no rfl rfl rfl hc14) rfl rfl ?_
              refine wq rfl rfl rfl (ov_pick_true rfl (guard_eq rfl hc14) rfl) ?_
              exact WL.nil ⟨Sub.cons' rfl (congrArg Value.bool (orT hc14)) (Sub.skip rfl (Sub.skip rfl (Sub.skip rfl (Sub.skip rfl (Sub.skip rfl (Sub.refl _)))))), fun _ s => s⟩
            · skip
              refine WL.quiet (Runs.yes rfl rfl rfl hc14) rfl rfl (OV.quiet (ov_move rfl rfl)) ?_
              refine WL.quiet (Runs.yes rfl rfl rfl hc14) rfl rfl (OV.quiet (ov_fieldAddr Tryd.underlying63 rfl rfl rfl Tryd.sizeOf30 rfl rfl)) ?_
              refine WL.quiet (Runs.yes rfl rfl rfl hc14) rfl rfl (OV.quiet (ov_load_box (i := 0) Tryd.isAgg30 rfl rfl rfl rfl)) ?_
              refine WL.quiet (Runs.yes rfl rfl rfl hc14) rfl rfl (OV.quiet (ov_neq rfl rfl rfl)) ?_
              refine wq rfl rfl rfl (ov_pick_false rfl (guard_eq rfl hc14) rfl) ?_
              exact WL.nil ⟨Sub.cons' rfl (congrArg Value.bool (orF hc14)) (Sub.skip rfl (Sub.skip rfl (Sub.skip rfl (Sub.skip rfl (Sub.skip rfl (Sub.refl _)))))), fun _ s => s⟩
          refine WL.nil (then_normal ?_)
          refine WP.cond rfl (fun hc15 => ?_) (fun hc15 => ?_)
          · replace hm := ite_t hc15 hm
            refine WP.seq (WP.region ?_)
            refine wq rfl rfl rfl (ov_assign rfl rfl) ?_
            refine WL.nil (then_normal (WP.ret (block_ret (then_ret (then_ret (block_ret (then_ret ?_)))))))
            obtain rfl := Option.some.inj hm
            refine retQ_ret Tryd.results11 (Res.tmp rfl Res.nil) rfl (fun w' s => ⟨s.below, ?_⟩)
            exact rfl
          · replace hm := ite_f hc15 hm
            refine WP.skip (block_normal (then_normal (WP.region ?_)))
            refine wq rfl rfl rfl (ov_add rfl rfl rfl) ?_
            refine wq rfl rfl rfl (ov_move rfl rfl) ?_
            refine WL.nil (then_normal ?_)
            exact ⟨H9, (IntKind.wrap .i64 (i1 + 1)), (hle8.trans hle9), (Sub.cons rfl (Sub.cons rfl (Sub.cons rfl (Sub.cons rfl (Sub.nil _))))), fun w' s => (s.select [] (by decide) rfl), hm⟩
        · replace hm := ite_f hc12 hm
          refine WP.exit (then_exit (then_exit (block_here (then_normal ?_))))
          exact ⟨H8, (hle7.trans hle8), (Sub.cons rfl (Sub.nil _)), fun w' s => s, hm⟩
    · rintro g' S' ⟨H10, hle10, hsub2, hS2, hm⟩
      refine WP.sub hsub2 (WP.weaken hS2 ?_)
      replace hm := hk1.symm.trans hm
      replace hG := hG.mono hle10
      refine WP.seq (WP.region ?_)
      refine wq rfl rfl rfl (ov_assign rfl rfl) ?_
      refine WL.nil (then_normal (WP.ret ?_))
      obtain rfl := Option.some.inj hm
      refine retQ_ret Tryd.results11 (Res.tmp rfl Res.nil) rfl (fun w' s => ⟨s.below, ?_⟩)
      exact rfl

theorem stroke_Check_con (p_x : Stroke) (w : World) (H : Heap) (hH : Le H (hp w)) (hG : Glob H) (r : Int) (hm : stroke_Check p_x = some r) :
    Con Tryd.prog 27 [(.agg #[(.int .i64 p_x.actuator), (.bool p_x.out)])] w H (fun v _ => v = (.int .i64 r)) := by
  unfold stroke_Check at hm
  refine con_of hH Tryd.func27 rfl 7 Tryd.ntmps27 rfl ?_
  refine WP.seq (WP.region ?_)
  refine WL.step (Runs.free rfl) rfl rfl (os_box (cs := [(.int .i64 p_x.actuator), (.bool p_x.out)]) rfl rfl rfl (fun b1 => ?_))
  refine wq rfl rfl rfl (ov_assign rfl rfl) ?_
  refine WL.nil (then_normal (WP.seq (WP.seq (WP.region ?_))))
  refine wq rfl rfl rfl (ov_fieldAddr Tryd.underlying51 rfl rfl rfl Tryd.sizeOf3 rfl rfl) ?_
  refine wq rfl rfl rfl (ov_load_box (i := 0) Tryd.isAgg3 rfl rfl rfl rfl) ?_
  obtain ⟨r1, e1, hm⟩ := bind_some hm
  refine WL.quiet (Runs.free rfl) rfl rfl (oq_con (r := (.bool r1)) Tryd.call44 rfl rfl (fun w' s => ⟨_, (stroke_known_con p_x.actuator  w' H s.hold hG r1 e1)⟩)) ?_
  refine wq rfl rfl rfl (ov_not rfl rfl) ?_
  refine WL.nil (then_normal ?_)
  refine WP.cond rfl (fun hc1 => ?_) (fun hc1 => ?_)
  · replace hm := ite_t hc1 hm
    refine WP.seq (WP.region ?_)
    refine wq rfl rfl rfl (ov_assign rfl rfl) ?_
    refine WL.nil (then_normal (WP.ret (then_ret ?_)))
    obtain rfl := Option.some.inj hm
    refine retQ_ret Tryd.results27 (Res.tmp rfl Res.nil) rfl (fun w' s => ⟨s.below, ?_⟩)
    exact rfl
  · replace hm := ite_f hc1 hm
    refine WP.skip (then_normal (WP.seq (WP.region ?_)))
    refine wq rfl rfl rfl (ov_assign rfl rfl) ?_
    refine WL.nil (then_normal (WP.ret ?_))
    obtain rfl := Option.some.inj hm
    refine retQ_ret Tryd.results27 (Res.tmp rfl Res.nil) rfl (fun w' s => ⟨s.below, ?_⟩)
    exact rfl

theorem stroke_Opposite_con (p_x : Stroke) (w : World) (H : Heap) (hH : Le H (hp w)) (hG : Glob H) (r : (Stroke × Int)) (hm : stroke_Opposite p_x = some r) :
    Con Tryd.prog 23 [(.agg #[(.int .i64 p_x.actuator), (.bool p_x.out)])] w H (fun v _ => v = (.tuple #[(.agg #[(.int .i64 r.1.actuator), (.bool r.1.out)]), (.int .i64 r.2)])) := by
  unfold stroke_Opposite at hm
  refine con_of hH Tryd.func23 rfl 16 Tryd.ntmps23 rfl ?_
  refine WP.seq (WP.region ?_)
  refine WL.step (Runs.free rfl) rfl rfl (os_box (cs := [(.int .i64 p_x.actuator), (.bool p_x.out)]) rfl rfl rfl (fun b1 => ?_))
  refine WL.step (Runs.free rfl) rfl rfl (os_alloc (cs := [(.int .i64 0), (.bool false)]) Tryd.zeroValue51 rfl rfl (fun b2 => ?_))
  refine wq rfl rfl rfl (ov_assign rfl rfl) ?_
  refine WL.nil (then_normal (WP.seq (WP.seq (WP.region ?_))))
  refine wq rfl rfl rfl (ov_load_whole (i := 1) Tryd.isAgg51 Tryd.sizeOf51 rfl rfl rfl rfl) ?_
  obtain ⟨r1, e1, hm⟩ := bind_some hm
  refine WL.quiet (Runs.free rfl) rfl rfl (oq_con (r := (.int .i64 r1)) Tryd.call27 rfl rfl (fun w' s => ⟨_, (stroke_Check_con p_x  w' H s.hold hG r1 e1)⟩)) ?_
  refine wq rfl rfl rfl (ov_assign rfl rfl) ?_
  refine WL.nil (then_normal (WP.seq (WP.region ?_)))
  refine wq rfl rfl rfl (ov_move rfl rfl) ?_
  refine wq rfl rfl rfl (ov_neq rfl rfl rfl) ?_
  refine WL.nil (then_normal ?_)
  refine WP.cond rfl (fun hc1 => ?_) (fun hc1 => ?_)
  · replace hm := ite_t hc1 hm
    refine WP.seq (WP.region ?_)
    refine wq rfl rfl rfl (ov_build (r := (.agg #[(.int .i64 0), (.bool false)])) rfl rfl (fun _ => by kernel_rfl)) ?_
    refine wq rfl rfl rfl (ov_move rfl rfl) ?_
    refine WL.step0 (Runs.free rfl) rfl (os_store (i := 0) (vs := [(.int .i64 0), (.bool false)]) (cs' := [(.int .i64 0), (.bool false)]) Tryd.sizeOf51 rfl rfl rfl rfl rfl rfl rfl rfl rfl ?_)
    refine wq rfl rfl rfl (ov_assign rfl rfl) ?_
    refine WL.nil (then_normal (WP.ret (then_ret ?_)))
    obtain rfl := Option.some.inj hm
    refine retQ_ret Tryd.results23 (Res.cell rfl (box_loads (i := 0) Tryd.isAgg51 Tryd.sizeOf51 rfl rfl) (Res.tmp rfl Res.nil)) rfl (fun w' s => ⟨s.below, ?_⟩)
    exact rfl
  · replace hm := ite_f hc1 hm
    refine WP.skip (then_normal (WP.seq (WP.region ?_)))
    refine wq rfl rfl rfl (ov_fieldAddr Tryd.underlying51 rfl rfl rfl Tryd.sizeOf4 rfl rfl) ?_
    refine wq rfl rfl rfl (ov_load_box (i := 1) Tryd.isAgg4 rfl rfl rfl rfl) ?_
    refine wq rfl rfl rfl (ov_not rfl rfl) ?_
    refine wq rfl rfl rfl (ov_fieldAddr Tryd.underlying51 rfl rfl rfl Tryd.sizeOf4 rfl rfl) ?_
    refine WL.step0 (Runs.free rfl) rfl (os_store (i := 1) (vs := [(.bool (!p_x.out))]) (cs' := [(.int .i64 p_x.actuator), (.bool (!p_x.out))]) Tryd.sizeOf4 rfl rfl rfl rfl rfl rfl rfl rfl rfl ?_)
    refine WL.nil (then_normal (WP.seq (WP.region ?_)))
    refine wq rfl rfl rfl (ov_load_whole (i := 1) Tryd.isAgg51 Tryd.sizeOf51 rfl rfl rfl rfl) ?_
    refine WL.step0 (Runs.free rfl) rfl (os_store (i := 0) (vs := [(.int .i64 p_x.actuator), (.bool (!p_x.out))]) (cs' := [(.int .i64 p_x.actuator), (.bool (!p_x.out))]) Tryd.sizeOf51 rfl rfl rfl rfl rfl rfl rfl rfl rfl ?_)
    refine wq rfl rfl rfl (ov_assign rfl rfl) ?_
    refine WL.nil (then_normal (WP.ret ?_))
    obtain rfl := Option.some.inj hm
    refine retQ_ret Tryd.results23 (Res.cell rfl (box_loads (i := 0) Tryd.isAgg51 Tryd.sizeOf51 rfl rfl) (Res.tmp rfl Res.nil)) rfl (fun w' s => ⟨s.below, ?_⟩)
    exact rfl

theorem ref13_Actuator_con (p_n : Int) (w : World) (H : Heap) (hH : Le H (hp w)) (hG : Glob H) (r : Bool) (hm : ref13_Actuator p_n = some r) :
    Con Tryd.prog 42 [(.int .i64 p_n)] w H (fun v _ => v = (.bool r)) := by
  unfold ref13_Actuator at hm
  refine con_of hH Tryd.func42 rfl 9 Tryd.ntmps42 rfl ?_
  refine WP.seq (WP.region ?_)
  refine wq rfl rfl rfl (ov_assign rfl rfl) ?_
  refine WL.nil (then_normal (WP.seq (WP.region ?_)))
  refine wq rfl rfl rfl (ov_move rfl rfl) ?_
  refine wq rfl rfl rfl (ov_geq rfl rfl rfl) ?_
  refine wq rfl rfl rfl (ov_move rfl rfl) ?_
  refine WL.cut_bool 3 8 (x := ((decide (p_n ≥ 0)) && (decide (p_n < 6)))) ?_ ?_
  · rcases Bool.eq_false_or_eq_true (decide (p_n ≥ 0)) with hc1 | hc1
    · skip
      refine WL.quiet (Runs.yes rfl rfl rfl hc1) rfl rfl (OV.quiet (ov_move rfl rfl)) ?_
      refine WL.quiet (Runs.yes rfl rfl rfl hc1) rfl rfl (OV.quiet (ov_lss rfl rfl rfl)) ?_
      refine wq rfl rfl rfl (ov_pick_true rfl (guard_eq rfl hc1) rfl) ?_
      exact WL.nil ⟨Sub.cons' rfl (congrArg Value.bool (andT hc1)) (Sub.skip rfl (Sub.skip rfl (Sub.skip rfl (Sub.refl _)))), fun _ s => s⟩
    · skip
      refine WL.idle (Idle.no rfl rfl rfl hc1) rfl rfl ?_
      refine WL.idle (Idle.no rfl rfl rfl hc1) rfl rfl ?_
      refine wq rfl rfl rfl (ov_pick_false rfl (guard_eq rfl hc1) rfl) ?_
      exact WL.nil ⟨Sub.cons' rfl (congrArg Value.bool (andF hc1)) (Sub.skip rfl (Sub.skip rfl (Sub.skip rfl (Sub.refl _)))), fun _ s => s⟩
  refine wq rfl rfl rfl (ov_assign rfl rfl) ?_
  refine WL.nil (then_normal (WP.ret ?_))
  obtain rfl := Option.some.inj hm
  refine retQ_ret Tryd.results42 (Res.tmp rfl Res.nil) rfl (fun w' s => ⟨s.below, ?_⟩)
  exact rfl

theorem ref13_Check_con (p_x : Stroke) (w : World) (H : Heap) (hH : Le H (hp w)) (hG : Glob H) (r : Int) (hm : ref13_Check p_x = some r) :
    Con Tryd.prog 28 [(.agg #[(.int .i64 p_x.actuator), (.bool p_x.out)])] w H (fun v _ => v = (.int .i64 r)) := by
  unfold ref13_Check at hm
  refine con_of hH Tryd.func28 rfl 7 Tryd.ntmps28 rfl ?_
  refine WP.seq (WP.region ?_)
  refine WL.step (Runs.free rfl) rfl rfl (os_box (cs := [(.int .i64 p_x.actuator), (.bool p_x.out)]) rfl rfl rfl (fun b1 => ?_))
  refine wq rfl rfl rfl (ov_assign rfl rfl) ?_
  refine WL.nil (then_normal (WP.seq (WP.seq (WP.region ?_))))
  refine wq rfl rfl rfl (ov_fieldAddr Tryd.underlying51 rfl rfl rfl Tryd.sizeOf3 rfl rfl) ?_
  refine wq rfl rfl rfl (ov_load_box (i := 0) Tryd.isAgg3 rfl rfl rfl rfl) ?_
  obtain ⟨r1, e1, hm⟩ := bind_some hm
  refine WL.quiet (Runs.free rfl) rfl rfl (oq_con (r := (.bool r1)) Tryd.call42 rfl rfl (fun w' s => ⟨_, (ref13_Actuator_con p_x.actuator  w' H s.hold hG r1 e1)⟩)) ?_
  refine wq rfl rfl rfl (ov_not rfl rfl) ?_
  refine WL.nil (then_normal ?_)
  refine WP.cond rfl (fun hc1 => ?_) (fun hc1 => ?_)
  · replace hm := ite_t hc1 hm
    refine WP.seq (WP.region ?_)
    refine wq rfl rfl rfl (ov_assign rfl rfl) ?_
    refine WL.nil (then_normal (WP.ret (then_ret ?_)))
    obtain rfl := Option.some.inj hm
    refine retQ_ret Tryd.results28 (Res.tmp rfl Res.nil) rfl (fun w' s => ⟨s.below, ?_⟩)
    exact rfl
  · replace hm := ite_f hc1 hm
    refine WP.skip (then_normal (WP.seq (WP.region ?_)))
    refine wq rfl rfl rfl (ov_assign rfl rfl) ?_
    refine WL.nil (then_normal (WP.ret ?_))
    obtain rfl := Option.some.inj hm
    refine retQ_ret Tryd.results28 (Res.tmp rfl Res.nil) rfl (fun w' s => ⟨s.below, ?_⟩)
    exact rfl

theorem ref13_Turned_con (p_x : Stroke) (w : World) (H : Heap) (hH : Le H (hp w)) (hG : Glob H) (r : Stroke) (hm : ref13_Turned p_x = some r) :
    Con Tryd.prog 45 [(.agg #[(.int .i64 p_x.actuator), (.bool p_x.out)])] w H (fun v _ => v = (.agg #[(.int .i64 r.actuator), (.bool r.out)])) := by
  unfold ref13_Turned at hm
  refine con_of hH Tryd.func45 rfl 9 Tryd.ntmps45 rfl ?_
  refine WP.seq (WP.region ?_)
  refine WL.step (Runs.free rfl) rfl rfl (os_box (cs := [(.int .i64 p_x.actuator), (.bool p_x.out)]) rfl rfl rfl (fun b1 => ?_))
  refine WL.step (Runs.free rfl) rfl rfl (os_alloc (cs := [(.int .i64 0), (.bool false)]) Tryd.zeroValue51 rfl rfl (fun b2 => ?_))
  refine WL.nil (then_normal (WP.seq (WP.region ?_)))
  refine wq rfl rfl rfl (ov_fieldAddr Tryd.underlying51 rfl rfl rfl Tryd.sizeOf3 rfl rfl) ?_
  refine wq rfl rfl rfl (ov_load_box (i := 1) Tryd.isAgg3 rfl rfl rfl rfl) ?_
  refine wq rfl rfl rfl (ov_fieldAddr Tryd.underlying51 rfl rfl rfl Tryd.sizeOf4 rfl rfl) ?_
  refine wq rfl rfl rfl (ov_load_box (i := 1) Tryd.isAgg4 rfl rfl rfl rfl) ?_
  refine wq rfl rfl rfl (ov_not rfl rfl) ?_
  refine wq rfl rfl rfl (ov_build (r := (.agg #[(.int .i64 p_x.actuator), (.bool (!p_x.out))])) rfl rfl (fun _ => by kernel_rfl)) ?_
  refine WL.step0 (Runs.free rfl) rfl (os_store (i := 0) (vs := [(.int .i64 p_x.actuator), (.bool (!p_x.out))]) (cs' := [(.int .i64 p_x.actuator), (.bool (!p_x.out))]) Tryd.sizeOf51 rfl rfl rfl rfl rfl rfl rfl rfl rfl ?_)
  refine WL.nil (then_normal (WP.ret ?_))
  obtain rfl := Option.some.inj hm
  refine retQ_ret Tryd.results45 (Res.cell rfl (box_loads (i := 0) Tryd.isAgg51 Tryd.sizeOf51 rfl rfl) Res.nil) rfl (fun w' s => ⟨s.below, ?_⟩)
  exact rfl

theorem ref13_Opposite_con (p_x : Stroke) (w : World) (H : Heap) (hH : Le H (hp w)) (hG : Glob H) (r : (Stroke × Int)) (hm : ref13_Opposite p_x = some r) :
    Con Tryd.prog 24 [(.agg #[(.int .i64 p_x.actuator), (.bool p_x.out)])] w H (fun v _ => v = (.tuple #[(.agg #[(.int .i64 r.1.actuator), (.bool r.1.out)]), (.int .i64 r.2)])) := by
  unfold ref13_Opposite at hm
  refine con_of hH Tryd.func24 rfl 13 Tryd.ntmps24 rfl ?_
  refine WP.seq (WP.region ?_)
  refine WL.step (Runs.free rfl) rfl rfl (os_box (cs := [(.int .i64 p_x.actuator), (.bool p_x.out)]) rfl rfl rfl (fun b1 => ?_))
  refine WL.step (Runs.free rfl) rfl rfl (os_alloc (cs := [(.int .i64 0), (.bool false)]) Tryd.zeroValue51 rfl rfl (fun b2 => ?_))
  refine wq rfl rfl rfl (ov_assign rfl rfl) ?_
  refine WL.nil (then_normal (WP.seq (WP.seq (WP.region ?_))))
  refine wq rfl rfl rfl (ov_load_whole (i := 1) Tryd.isAgg51 Tryd.sizeOf51 rfl rfl rfl rfl) ?_
  obtain ⟨r1, e1, hm⟩ := bind_some hm
  refine WL.quiet (Runs.free rfl) rfl rfl (oq_con (r := (.int .i64 r1)) Tryd.call28 rfl rfl (fun w' s => ⟨_, (ref13_Check_con p_x  w' H s.hold hG r1 e1)⟩)) ?_
  refine wq rfl rfl rfl (ov_assign rfl rfl) ?_
  refine WL.nil (then_normal (WP.seq (WP.region ?_)))
  refine wq rfl rfl rfl (ov_move rfl rfl) ?_
  refine wq rfl rfl rfl (ov_neq rfl rfl rfl) ?_
  refine WL.nil (then_normal ?_)
  refine WP.cond rfl (fun hc1 => ?_) (fun hc1 => ?_)
  · replace hm := ite_t hc1 hm
    refine WP.seq (WP.region ?_)
    refine wq rfl rfl rfl (ov_build (r := (.agg #[(.int .i64 0), (.bool false)])) rfl rfl (fun _ => by kernel_rfl)) ?_
    refine wq rfl rfl rfl (ov_move rfl rfl) ?_
    refine WL.step0 (Runs.free rfl) rfl (os_store (i := 0) (vs := [(.int .i64 0), (.bool false)]) (cs' := [(.int .i64 0), (.bool false)]) Tryd.sizeOf51 rfl rfl rfl rfl rfl rfl rfl rfl rfl ?_)
    refine wq rfl rfl rfl (ov_assign rfl rfl) ?_
    refine WL.nil (then_normal (WP.ret (then_ret ?_)))
    obtain rfl := Option.some.inj hm
    refine retQ_ret Tryd.results24 (Res.cell rfl (box_loads (i := 0) Tryd.isAgg51 Tryd.sizeOf51 rfl rfl) (Res.tmp rfl Res.nil)) rfl (fun w' s => ⟨s.below, ?_⟩)
    exact rfl
  · replace hm := ite_f hc1 hm
    refine WP.skip (then_normal (WP.seq (WP.region ?_)))
    refine wq rfl rfl rfl (ov_load_whole (i := 1) Tryd.isAgg51 Tryd.sizeOf51 rfl rfl rfl rfl) ?_
    obtain ⟨r2, e2, hm⟩ := bind_some hm
    refine WL.quiet (Runs.free rfl) rfl rfl (oq_con (r := (.agg #[(.int .i64 r2.actuator), (.bool r2.out)])) Tryd.call45 rfl rfl (fun w' s => ⟨_, (ref13_Turned_con p_x  w' H s.hold hG r2 e2)⟩)) ?_
    refine WL.step0 (Runs.free rfl) rfl (os_store (i := 0) (vs := [(.int .i64 r2.actuator), (.bool r2.out)]) (cs' := [(.int .i64 r2.actuator), (.bool r2.out)]) Tryd.sizeOf51 rfl rfl rfl rfl rfl rfl rfl rfl rfl ?_)
    refine wq rfl rfl rfl (ov_assign rfl rfl) ?_
    refine WL.nil (then_normal (WP.ret ?_))
    obtain rfl := Option.some.inj hm
    refine retQ_ret Tryd.results24 (Res.cell rfl (box_loads (i := 0) Tryd.isAgg51 Tryd.sizeOf51 rfl rfl) (Res.tmp rfl Res.nil)) rfl (fun w' s => ⟨s.below, ?_⟩)
    exact rfl

end Go.Proofs.YtbiifgojhljkjaaDoor.W
