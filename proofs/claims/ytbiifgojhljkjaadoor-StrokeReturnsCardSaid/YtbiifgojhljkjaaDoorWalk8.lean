/- The walks. Written by our own program gen.py; Lean checks it. -/
import Derived.Test.YtbiifgojhljkjaaDoorPlain
import Derived.Test.YtbiifgojhljkjaaDoorEqs
import Derived.Test.YtbiifgojhljkjaaDoorProg
import Derived.Test.YtbiifgojhljkjaaDoorExt
import Derived.Test.YtbiifgojhljkjaaDoorClone
import Derived.Test.YtbiifgojhljkjaaDoorWalk0
import Derived.Test.YtbiifgojhljkjaaDoorWalk1
import Derived.Test.YtbiifgojhljkjaaDoorWalk2
import Derived.Test.YtbiifgojhljkjaaDoorWalk3
set_option linter.unusedVariables false
set_option maxRecDepth 100000
set_option maxHeartbeats 4000000
namespace Go.Proofs.YtbiifgojhljkjaaDoor.W
open Go Go.RowKit
theorem law13_StrokeReturns_con (p_x : Step) (p_ends : (List Bool)) (ao1 : Option Addr) (cap1 : Nat) (ao2 : Option Addr) (cap2 : Nat) (w : World) (H : Heap) (hH : Le H (hp w)) (h1 : SL H encStroke ao1 p_x.strokes) (hc1 : p_x.strokes.length ≤ cap1) (h2 : SL H encBool ao2 p_ends) (hc2 : p_ends.length ≤ cap2) (hG : Glob H) (r : Bool) (hm : law13_StrokeReturns p_x p_ends = some r) :
    Con Tryd.prog 7 [(.agg #[(.slice ao1 p_x.strokes.length cap1), (.int .i64 p_x.wait)]), (.slice ao2 p_ends.length cap2)] w H (fun v _ => v = (.bool r)) := by
  unfold law13_StrokeReturns at hm
  refine con_of hH Tryd.func7 rfl 111 Tryd.ntmps7 rfl ?_
  refine WP.seq (WP.region ?_)
  refine WL.step (Runs.free rfl) rfl rfl (os_box (cs := [(.slice ao1 p_x.strokes.length cap1), (.int .i64 p_x.wait)]) rfl rfl rfl (fun b1 => ?_))
  refine wq rfl rfl rfl (ov_assign rfl rfl) ?_
  refine WL.nil (then_normal (WP.seq (WP.seq (WP.region ?_))))
  refine wq rfl rfl rfl (ov_load_whole (i := 0) Tryd.isAgg26 Tryd.sizeOf26 rfl rfl rfl rfl) ?_
  refine wq rfl rfl rfl (ov_move rfl rfl) ?_
  obtain ⟨r1, e1, hm⟩ := bind_some hm
  refine WL.quiet (Runs.free rfl) rfl rfl (oq_con (r := (.bool r1)) Tryd.call10 rfl rfl (fun w' s => ⟨_, (ref13_Few_con p_x p_ends ao1 cap1 ao2 cap2  w' H s.hold h1 hc1 h2 hc2 hG r1 e1)⟩)) ?_
  refine wq rfl rfl rfl (ov_not rfl rfl) ?_
  refine wq rfl rfl rfl (ov_move rfl rfl) ?_
  obtain ⟨c1, e2, hm⟩ := bind_some hm
  refine WL.cut_bool 4 23 (x := c1) ?_ ?_
  · rcases Bool.eq_false_or_eq_true (!r1) with hc3 | hc3
    · skip
      replace hm := ite_t hc3 e2
      refine WL.idle (Idle.no rfl rfl rfl hc3) rfl rfl ?_
      refine WL.idle (Idle.no rfl rfl rfl hc3) rfl rfl ?_
      refine WL.idle (Idle.no rfl rfl rfl hc3) rfl rfl ?_
      refine wq rfl rfl rfl (ov_pick_true rfl (guard_eq rfl hc3) rfl) ?_
      exact WL.nil ⟨Sub.cons' rfl (congrArg Value.bool (Option.some.inj hm)) (Sub.skip rfl (Sub.skip rfl (Sub.skip rfl (Sub.skip rfl (Sub.refl _))))), fun _ s => s⟩
    · skip
      replace hm := ite_f hc3 e2
      refine WL.quiet (Runs.yes rfl rfl rfl hc3) rfl rfl (OV.quiet (ov_load_whole (i := 0) Tryd.isAgg26 Tryd.sizeOf26 rfl rfl rfl rfl)) ?_
      obtain ⟨r2, e3, hm⟩ := bind_some hm
      refine WL.quiet (Runs.yes rfl rfl rfl hc3) rfl rfl (oq_con (r := (.int .i64 r2)) Tryd.call20 rfl rfl (fun w' s => ⟨_, (ref13_CheckStep_con p_x ao1 cap1  w' H s.hold h1 hc1 hG r2 e3)⟩)) ?_
      refine WL.quiet (Runs.yes rfl rfl rfl hc3) rfl rfl (OV.quiet (ov_neq rfl rfl rfl)) ?_
      refine wq rfl rfl rfl (ov_pick_false rfl (guard_eq rfl hc3) rfl) ?_
      exact WL.nil ⟨Sub.cons' rfl (congrArg Value.bool (Option.some.inj hm)) (Sub.skip rfl (Sub.skip rfl (Sub.skip rfl (Sub.skip rfl (Sub.refl _))))), fun _ s => s⟩
  refine wq rfl rfl rfl (ov_move rfl rfl) ?_
  refine WL.cut_bool 4 28 (x := (c1 || (decide ((p_ends.length : Int) > 6)))) ?_ ?_
  · rcases Bool.eq_false_or_eq_true c1 with hc4 | hc4
    · skip
      refine WL.idle (Idle.no rfl rfl rfl hc4) rfl rfl ?_
      refine WL.idle (Idle.no rfl rfl rfl hc4) rfl rfl ?_
      refine WL.idle (Idle.no rfl rfl rfl hc4) rfl rfl ?_
      refine wq rfl rfl rfl (ov_pick_true rfl (guard_eq rfl hc4) rfl) ?_
      exact WL.nil ⟨Sub.cons' rfl (congrArg Value.bool (orT hc4)) (Sub.skip rfl (Sub.skip rfl (Sub.skip rfl (Sub.skip rfl (Sub.refl _))))), fun _ s => s⟩
    · skip
      refine WL.quiet (Runs.yes rfl rfl rfl hc4) rfl rfl (OV.quiet (ov_move rfl rfl)) ?_
      refine WL.quiet (Runs.yes rfl rfl rfl hc4) rfl rfl (OV.quiet (ov_len_slice Tryd.underlying37 rfl rfl)) ?_
      refine WL.quiet (Runs.yes rfl rfl rfl hc4) rfl rfl (OV.quiet (ov_gtr rfl rfl rfl)) ?_
      refine wq rfl rfl rfl (ov_pick_false rfl (guard_eq rfl hc4) rfl) ?_
      exact WL.nil ⟨Sub.cons' rfl (congrArg Value.bool (orF hc4)) (Sub.skip rfl (Sub.skip rfl (Sub.skip rfl (Sub.skip rfl (Sub.refl _))))), fun _ s => s⟩
  refine WL.nil (then_normal ?_)
  refine WP.cond rfl (fun hc5 => ?_) (fun hc5 => ?_)
  · replace hm := ite_t hc5 hm
    refine WP.seq (WP.region ?_)
    obtain ⟨r3, e4, hm⟩ := bind_some hm
    refine WL.quiet (Runs.free rfl) rfl rfl (oq_con (r := (.bool r3)) Tryd.call11 rfl rfl (fun w' s => ⟨_, (law13_awake_con   w' H s.hold hG r3 e4)⟩)) ?_
    refine wq rfl rfl rfl (ov_assign rfl rfl) ?_
    refine WL.nil (then_normal (WP.ret (then_ret ?_)))
    obtain rfl := Option.some.inj hm
    refine retQ_ret Tryd.results7 (Res.tmp rfl Res.nil) rfl (fun w' s => ⟨s.below, ?_⟩)
    exact rfl
  · replace hm := ite_f hc5 hm
    refine WP.skip (then_normal (WP.seq (WP.region ?_)))
    refine wq rfl rfl rfl (ov_load_whole (i := 0) Tryd.isAgg26 Tryd.sizeOf26 rfl rfl rfl rfl) ?_
    refine wq rfl rfl rfl (ov_move rfl rfl) ?_
    obtain ⟨r4, e5, hm⟩ := bind_some hm
    refine WL.quiet (Runs.free rfl) rfl rfl (oq_con (r := (.tuple #[(.bool r4.1), (.int .i64 r4.2)])) Tryd.call15 rfl rfl (fun w' s => ⟨_, (stroke_Fits_con p_x p_ends ao1 cap1 ao2 cap2  w' H s.hold h1 hc1 h2 hc2 hG r4 e5)⟩)) ?_
    refine wq rfl rfl rfl (ov_move rfl rfl) ?_
    refine wq rfl rfl rfl (ov_extract rfl rfl rfl) ?_
    refine wq rfl rfl rfl (ov_extract rfl rfl rfl) ?_
    refine wq rfl rfl rfl (ov_assign rfl rfl) ?_
    refine wq rfl rfl rfl (ov_assign rfl rfl) ?_
    refine WL.nil (then_normal (WP.seq (WP.region ?_)))
    refine wq rfl rfl rfl (ov_load_whole (i := 0) Tryd.isAgg26 Tryd.sizeOf26 rfl rfl rfl rfl) ?_
    refine wq rfl rfl rfl (ov_move rfl rfl) ?_
    obtain ⟨r5, e6, hm⟩ := bind_some hm
    refine WL.step (Runs.free rfl) rfl rfl (os_con Tryd.call17 rfl rfl (fun w' s => (stroke_Apply_con p_x p_ends ao1 cap1 ao2 cap2  w' H s.hold h1 hc1 h2 hc2 hG r5 e6)) (fun rr1 H1 hle1 hR1 => ?_))
    replace h1 := h1.mono hle1
    replace h2 := h2.mono hle1
    replace hG := hG.mono hle1
    obtain ⟨ao3, cap3, rfl, h3, hc6⟩ := hR1
    refine wq rfl rfl rfl (ov_move rfl rfl) ?_
    refine wq rfl rfl rfl (ov_extract rfl rfl rfl) ?_
    refine wq rfl rfl rfl (ov_extract rfl rfl rfl) ?_
    refine wq rfl rfl rfl (ov_assign rfl rfl) ?_
    refine wq rfl rfl rfl (ov_assign rfl rfl) ?_
    refine WL.nil (then_normal (WP.seq (WP.seq (WP.region ?_))))
    refine wq rfl rfl rfl (ov_move rfl rfl) ?_
    refine wq rfl rfl rfl (ov_neq rfl rfl rfl) ?_
    refine wq rfl rfl rfl (ov_move rfl rfl) ?_
    refine WL.cut_bool 5 49 (x := ((r4.2 != 0) || (!(r4.1 == (r5.2 == 0))))) ?_ ?_
    · rcases Bool.eq_false_or_eq_true (r4.2 != 0) with hc7 | hc7
      · skip
        refine WL.idle (Idle.no rfl rfl rfl hc7) rfl rfl ?_
        refine WL.idle (Idle.no rfl rfl rfl hc7) rfl rfl ?_
        refine WL.idle (Idle.no rfl rfl rfl hc7) rfl rfl ?_
        refine WL.idle (Idle.no rfl rfl rfl hc7) rfl rfl ?_
        refine wq rfl rfl rfl (ov_pick_true rfl (guard_eq rfl hc7) rfl) ?_
        exact WL.nil ⟨Sub.cons' rfl (congrArg Value.bool (orT hc7)) (Sub.skip rfl (Sub.skip rfl (Sub.skip rfl (Sub.skip rfl (Sub.skip rfl (Sub.refl _)))))), fun _ s => s⟩
      · skip
        refine WL.quiet (Runs.yes rfl rfl rfl hc7) rfl rfl (OV.quiet (ov_move rfl rfl)) ?_
        refine WL.quiet (Runs.yes rfl rfl rfl hc7) rfl rfl (OV.quiet (ov_move rfl rfl)) ?_
        refine WL.quiet (Runs.yes rfl rfl rfl hc7) rfl rfl (OV.quiet (ov_eql rfl rfl rfl)) ?_
        refine WL.quiet (Runs.yes rfl rfl rfl hc7) rfl rfl (OV.quiet (ov_bneq Tryd.underlying4 rfl rfl rfl)) ?_
        refine wq rfl rfl rfl (ov_pick_false rfl (guard_eq rfl hc7) rfl) ?_
        exact WL.nil ⟨Sub.cons' rfl (congrArg Value.bool (orF hc7)) (Sub.skip rfl (Sub.skip rfl (Sub.skip rfl (Sub.skip rfl (Sub.skip rfl (Sub.refl _)))))), fun _ s => s⟩
    refine WL.nil (then_normal ?_)
    refine WP.cond rfl (fun hc8 => ?_) (fun hc8 => ?_)
    · replace hm := ite_t hc8 hm
      refine WP.seq (WP.region ?_)
      refine wq rfl rfl rfl (ov_assign rfl rfl) ?_
      refine WL.nil (then_normal (WP.ret (then_ret ?_)))
      obtain rfl := Option.some.inj hm
      refine retQ_ret Tryd.results7 (Res.tmp rfl Res.nil) rfl (fun w' s => ⟨s.below, ?_⟩)
      exact rfl
    · replace hm := ite_f hc8 hm
      refine WP.skip (then_normal (WP.seq (WP.seq (WP.region ?_))))
      refine wq rfl rfl rfl (ov_move rfl rfl) ?_
      refine wq rfl rfl rfl (ov_not rfl rfl) ?_
      refine WL.nil (then_normal ?_)
      refine WP.cond rfl (fun hc9 => ?_) (fun hc9 => ?_)
      · replace hm := ite_t hc9 hm
        refine WP.seq (WP.region ?_)
        refine wq rfl rfl rfl (ov_move rfl rfl) ?_
        refine wq rfl rfl rfl (ov_eql rfl rfl rfl) ?_
        refine wq rfl rfl rfl (ov_move rfl rfl) ?_
        obtain ⟨c2, e7, hm⟩ := bind_some hm
        refine WL.cut_bool 2 56 (x := c2) ?_ ?_
        · rcases Bool.eq_false_or_eq_true (r5.2 == 14) with hc10 | hc10
          · skip
            replace hm := ite_t hc10 e7
            obtain ⟨r6, e8, hm⟩ := bind_some hm
            refine WL.quiet (Runs.yes rfl rfl rfl hc10) rfl rfl (oq_con (r := (.bool r6)) Tryd.call11 rfl rfl (fun w' s => ⟨_, (law13_awake_con   w' H1 s.hold hG r6 e8)⟩)) ?_
            refine wq rfl rfl rfl (ov_pick_true rfl (guard_eq rfl hc10) rfl) ?_
            exact WL.nil ⟨Sub.cons' rfl (congrArg Value.bool (Option.some.inj hm)) (Sub.skip rfl (Sub.skip rfl (Sub.refl _))), fun _ s => s⟩
          · skip
            replace hm := ite_f hc10 e7
            refine WL.idle (Idle.no rfl rfl rfl hc10) rfl rfl ?_
            refine wq rfl rfl rfl (ov_pick_false rfl (guard_eq rfl hc10) rfl) ?_
            exact WL.nil ⟨Sub.cons' rfl (congrArg Value.bool (Option.some.inj hm)) (Sub.skip rfl (Sub.skip rfl (Sub.refl _))), fun _ s => s⟩
        refine wq rfl rfl rfl (ov_assign rfl rfl) ?_
        refine WL.nil (then_normal (WP.ret (then_ret ?_)))
        obtain rfl := Option.some.inj hm
        refine retQ_ret Tryd.results7 (Res.tmp rfl Res.nil) rfl (fun w' s => ⟨s.below, ?_⟩)
        exact rfl
      · replace hm := ite_f hc9 hm
        refine WP.skip (then_normal (WP.seq (WP.region ?_)))
        refine wq rfl rfl rfl (ov_fieldAddr Tryd.underlying26 rfl rfl rfl Tryd.sizeOf3 rfl rfl) ?_
        refine wq rfl rfl rfl (ov_load_box (i := 0) Tryd.isAgg3 rfl rfl rfl rfl) ?_
        refine wq rfl rfl rfl (ov_build (r := (.agg #[(.slice none 0 0), (.int .i64 p_x.wait)])) rfl rfl (fun _ => by kernel_rfl)) ?_
        refine WL.step (Runs.free rfl) rfl rfl (os_alloc (cs := [(.slice none 0 0), (.int .i64 0)]) Tryd.zeroValue26 rfl rfl (fun b2 => ?_))
        refine WL.step0 (Runs.free rfl) rfl (os_store (i := 0) (vs := [(.slice none 0 0), (.int .i64 p_x.wait)]) (cs' := [(.slice none 0 0), (.int .i64 p_x.wait)]) Tryd.sizeOf26 rfl rfl rfl rfl rfl rfl rfl rfl rfl ?_)
        refine WL.nil (then_normal ?_)
        obtain ⟨k1, hk1, hm⟩ := joinK_some hm
        refine WP.seq_join (fun g' S' => ∃ (l3 : (List Stroke)) (ao6 : Option Addr) (cap6 : Nat) (xs2 : List Value), RL H1 encStroke l3 xs2 ∧ Sub [(1, (.slice ao2 p_ends.length cap2)), (7, (.slice ao3 r5.1.length cap3)), (9, (pB b2 0)), (1000000007, (.bool false))] g' ∧ (∀ w', S' w' → St w H [.row 51 (encStroke).size l3.length (.slice ao6 l3.length cap6) xs2, .blk b2 26 [(.slice ao6 l3.length cap6), (.int .i64 p_x.wait)]] H1 w') ∧ k1 l3 = some r) ?_ ?_
        · skip
          refine WP.seq (WP.region ?_)
          refine wq rfl rfl rfl (ov_fieldAddr Tryd.underlying26 rfl rfl rfl Tryd.sizeOf24 rfl rfl) ?_
          refine wq rfl rfl rfl (ov_load_box (i := 1) Tryd.isAgg24 rfl rfl rfl rfl) ?_
          refine wq rfl rfl rfl (ov_len_slice Tryd.underlying24 rfl rfl) ?_
          refine wq rfl rfl rfl (ov_move rfl rfl) ?_
          refine WL.nil (then_normal (WP.block ?_))
          have rl1 := RL.nil (α := Stroke) H1 encStroke
          refine WP.weaken (fun _ s => s.nilrow 51 (encStroke).size) ?_
          refine WP.loop (fun m1 g' S' => ∃ (i1 : Int) (l1 : (List Stroke)) (ao4 : Option Addr) (cap4 : Nat) (xs1 : List Value), RL H1 encStroke l1 xs1 ∧ Sub [(1, (.slice ao2 p_ends.length cap2)), (7, (.slice ao3 r5.1.length cap3)), (9, (pB b2 0)), (61, (.slice ao1 p_x.strokes.length cap1)), (62, (.int .i64 (p_x.strokes.length : Int))), (63, (.int .i64 i1)), (1000000007, (.bool false))] g' ∧ (∀ w', S' w' → St w H [.row 51 (encStroke).size l1.length (.slice ao4 l1.length cap4) xs1, .blk b2 26 [(.slice ao4 l1.length cap4), (.int .i64 p_x.wait)]] H1 w') ∧ law13_StrokeReturns_loop1 p_x k1 m1 i1 l1 = some r) ((Int.toNat ((p_x.strokes.length : Int) - 0) + 1)) ⟨0, ([] : List Stroke), none, 0, [], rl1, (Sub.cons rfl (Sub.cons rfl (Sub.cons rfl (Sub.cons rfl (Sub.cons rfl (Sub.cons rfl (Sub.cons rfl (Sub.nil _)))))))), fun w' s => (s.select [0, 1] (by decide) rfl), hm⟩ ?_ ?_
          · rintro g' S' ⟨_, _, _, _, _, _, _, _, hm⟩
            exact none_some hm
          · rintro m1 g' S' ⟨i1, l1, ao4, cap4, xs1, rl2, hsub1, hS1, hm⟩
            refine WP.sub hsub1 (WP.weaken hS1 ?_)
            rw [law13_StrokeReturns_loop1] at hm
            refine WP.seq (WP.region ?_)
            refine wq rfl rfl rfl (ov_lss rfl rfl rfl) ?_
            refine WL.nil (then_normal (WP.seq ?_))
            refine WP.cond rfl (fun hc11 => ?_) (fun hc11 => ?_)
            · replace hm := ite_t hc11 hm
              refine WP.skip (then_normal (WP.seq (WP.block (WP.seq (WP.region ?_)))))
              obtain ⟨x1, e9, hm⟩ := bind_some hm
              obtain ⟨h4, h5, h6, cs1, h7, h8⟩ := h1.get e9 (by decide)
              obtain rfl : cs1 = [(.int .i64 x1.actuator), (.bool x1.out)] := h7
              refine wq rfl rfl rfl (ov_indexAddr Tryd.underlying24 Tryd.sizeOf51 rfl rfl rfl h4 h5 h6) ?_
              refine wq rfl rfl rfl (ov_load_elems (vs := [(.int .i64 x1.actuator), (.bool x1.out)]) Tryd.isAgg51 Tryd.sizeOf51 rfl rfl rfl h8 h6) ?_
              refine WL.step (Runs.free rfl) rfl rfl (os_alloc (cs := [(.int .i64 0), (.bool false)]) Tryd.zeroValue51 rfl rfl (fun b3 => ?_))
              refine WL.step0 (Runs.free rfl) rfl (os_store (i := 0) (vs := [(.int .i64 x1.actuator), (.bool x1.out)]) (cs' := [(.int .i64 x1.actuator), (.bool x1.out)]) Tryd.sizeOf51 rfl rfl rfl rfl rfl rfl rfl rfl rfl ?_)
              refine WL.nil (then_normal (WP.seq (WP.region ?_)))
              refine wq rfl rfl rfl (ov_load_whole (i := 0) Tryd.isAgg51 Tryd.sizeOf51 rfl rfl rfl rfl) ?_
              obtain ⟨r7, e10, hm⟩ := bind_some hm
              refine WL.quiet (Runs.free rfl) rfl rfl (oq_con (r := (.tuple #[(.agg #[(.int .i64 r7.1.actuator), (.bool r7.1.out)]), (.int .i64 r7.2)])) Tryd.call23 rfl rfl (fun w' s => ⟨_, (stroke_Opposite_con x1  w' H1 s.hold hG r7 e10)⟩)) ?_
              refine wq rfl rfl rfl (ov_move rfl rfl) ?_
              refine wq rfl rfl rfl (ov_extract rfl rfl rfl) ?_
              refine wq rfl rfl rfl (ov_extract rfl rfl rfl) ?_
              refine WL.step (Runs.free rfl) rfl rfl (os_alloc (cs := [(.int .i64 0), (.bool false)]) Tryd.zeroValue51 rfl rfl (fun b4 => ?_))
              refine WL.step0 (Runs.free rfl) rfl (os_store (i := 0) (vs := [(.int .i64 r7.1.actuator), (.bool r7.1.out)]) (cs' := [(.int .i64 r7.1.actuator), (.bool r7.1.out)]) Tryd.sizeOf51 rfl rfl rfl rfl rfl rfl rfl rfl rfl ?_)
              refine wq rfl rfl rfl (ov_assign rfl rfl) ?_
              refine WL.nil (then_normal (WP.seq (WP.seq (WP.region ?_))))
              refine wq rfl rfl rfl (ov_move rfl rfl) ?_
              refine wq rfl rfl rfl (ov_neq rfl rfl rfl) ?_
              refine wq rfl rfl rfl (ov_move rfl rfl) ?_
              refine WL.cut_bool 6 80 (x := ((r7.2 != 0) || (r7.1.actuator != x1.actuator))) ?_ ?_
              · rcases Bool.eq_false_or_eq_true (r7.2 != 0) with hc12 | hc12
                · skip
                  refine WL.idle (Idle.no rfl rfl rfl hc12) rfl rfl ?_
                  refine WL.idle (Idle.no rfl rfl rfl hc12) rfl rfl ?_
                  refine WL.idle (Idle.no rfl rfl rfl hc12) rfl rfl ?_
                  refine WL.idle (Idle.no rfl rfl rfl hc12) rfl rfl ?_
                  refine WL.idle (Idle.no rfl rfl rfl hc12) rfl rfl ?_
                  refine wq rfl rfl rfl (ov_pick_true rfl (guard_eq rfl hc12) rfl) ?_
                  exact WL.nil ⟨Sub.cons' rfl (congrArg Value.bool (orT hc12)) (Sub.skip rfl (Sub.skip rfl (Sub.skip rfl (Sub.skip rfl (Sub.skip rfl (Sub.skip rfl (Sub.refl _))))))), fun _ s => s⟩
                · skip
                  refine WL.quiet (Runs.yes rfl rfl rfl hc12) rfl rfl (OV.quiet (ov_fieldAddr Tryd.underlying51 rfl rfl rfl Tryd.sizeOf3 rfl rfl)) ?_
                  refine WL.quiet (Runs.yes rfl rfl rfl hc12) rfl rfl (OV.quiet (ov_load_box (i := 0) Tryd.isAgg3 rfl rfl rfl rfl)) ?_
                  refine WL.quiet (Runs.yes rfl rfl rfl hc12) rfl rfl (OV.quiet (ov_fieldAddr Tryd.underlying51 rfl rfl rfl Tryd.sizeOf3 rfl rfl)) ?_
                  refine WL.quiet (Runs.yes rfl rfl rfl hc12) rfl rfl (OV.quiet (ov_load_box (i := 1) Tryd.isAgg3 rfl rfl rfl rfl)) ?_
                  refine WL.quiet (Runs.yes rfl rfl rfl hc12) rfl rfl (OV.quiet (ov_neq rfl rfl rfl)) ?_
                  refine wq rfl rfl rfl (ov_pick_false rfl (guard_eq rfl hc12) rfl) ?_
                  exact WL.nil ⟨Sub.cons' rfl (congrArg Value.bool (orF hc12)) (Sub.skip rfl (Sub.skip rfl (Sub.skip rfl (Sub.skip rfl (Sub.skip rfl (Sub.skip rfl (Sub.refl _))))))), fun _ s => s⟩
              refine wq rfl rfl rfl (ov_move rfl rfl) ?_
              refine WL.cut_bool 6 87 (x := (((r7.2 != 0) || (r7.1.actuator != x1.actuator)) || (r7.1.out == x1.out))) ?_ ?_
              · rcases Bool.eq_false_or_eq_true ((r7.2 != 0) || (r7.1.actuator != x1.actuator)) with hc13 | hc13
                · skip
                  refine WL.idle (Idle.no rfl rfl rfl hc13) rfl rfl ?_
                  refine WL.idle (Idle.no rfl rfl rfl hc13) rfl rfl ?_
                  refine WL.idle (Idle.no rfl rfl rfl hc13) rfl rfl ?_
                  refine WL.idle (Idle.no rfl rfl rfl hc13) rfl rfl ?_
                  refine WL.idle (Idle.no rfl rfl rfl hc13) rfl rfl ?_
                  refine wq rfl rfl rfl (ov_pick_true rfl (guard_eq rfl hc13) rfl) ?_
                  exact WL.nil ⟨Sub.cons' rfl (congrArg Value.bool (orT hc13)) (Sub.skip rfl (Sub.skip rfl (Sub.skip rfl (Sub.skip rfl (Sub.skip rfl (Sub.skip rfl (Sub.refl _))))))), fun _ s => s⟩
                · skip
                  refine WL.quiet (Runs.yes rfl rfl rfl hc13) rfl rfl (OV.quiet (ov_fieldAddr Tryd.underlying51 rfl rfl rfl Tryd.sizeOf4 rfl rfl)) ?_
                  refine WL.quiet (Runs.yes rfl rfl rfl hc13) rfl rfl (OV.quiet (ov_load_box (i := 0) Tryd.isAgg4 rfl rfl rfl rfl)) ?_
                  refine WL.quiet (Runs.yes rfl rfl rfl hc13) rfl rfl (OV.quiet (ov_fieldAddr Tryd.underlying51 rfl rfl rfl Tryd.sizeOf4 rfl rfl)) ?_
                  refine WL.quiet (Runs.yes rfl rfl rfl hc13) rfl rfl (OV.quiet (ov_load_box (i := 1) Tryd.isAgg4 rfl rfl rfl rfl)) ?_
                  refine WL.quiet (Runs.yes rfl rfl rfl hc13) rfl rfl (OV.quiet (ov_beql Tryd.underlying4 rfl rfl rfl)) ?_
                  refine wq rfl rfl rfl (ov_pick_false rfl (guard_eq rfl hc13) rfl) ?_
                  exact WL.nil ⟨Sub.cons' rfl (congrArg Value.bool (orF hc13)) (Sub.skip rfl (Sub.skip rfl (Sub.skip rfl (Sub.skip rfl (Sub.skip rfl (Sub.skip rfl (Sub.refl _))))))), fun _ s => s⟩
              refine WL.nil (then_normal ?_)
              refine WP.cond rfl (fun hc14 => ?_) (fun hc14 => ?_)
              · replace hm := ite_t hc14 hm
                refine WP.seq (WP.region ?_)
                refine wq rfl rfl rfl (ov_assign rfl rfl) ?_
                refine WL.nil (then_normal (WP.ret (then_ret (block_ret (then_ret (then_ret (block_ret (then_ret ?_))))))))
                obtain rfl := Option.some.inj hm
                refine retQ_ret Tryd.results7 (Res.tmp rfl Res.nil) rfl (fun w' s => ⟨s.below, ?_⟩)
                exact rfl
              · replace hm := ite_f hc14 hm
                refine WP.skip (then_normal (WP.region ?_))
                refine wq rfl rfl rfl (ov_fieldAddr Tryd.underlying26 rfl rfl rfl Tryd.sizeOf24 rfl rfl) ?_
                refine wq rfl rfl rfl (ov_load_box (i := 3) Tryd.isAgg24 rfl rfl rfl rfl) ?_
                refine wq rfl rfl rfl (ov_load_whole (i := 0) Tryd.isAgg51 Tryd.sizeOf51 rfl rfl rfl rfl) ?_
                have rl3 : RL H1 encStroke ([r7.1] : List Stroke) [(.int .i64 r7.1.actuator), (.bool r7.1.out)] := RL.cons (cs := [(.int .i64 r7.1.actuator), (.bool r7.1.out)]) (xs := []) rfl (RL.nil _ _)
                refine WL.step (Runs.free rfl) rfl rfl (os_buildSlice (cs := [(.int .i64 r7.1.actuator), (.bool r7.1.out)]) (E := 51) (sz := 2) rfl rfl (fun _ => by kernel_rfl) rfl (by decide) (fun b5 => ?_))
                obtain ⟨l2, e11, hm⟩ := bind_some hm
                refine WL.step (Runs.free rfl) rfl rfl (os_app (i := 3) (j := 0) (En := encStroke) (xs := xs1) (ys := [(.int .i64 r7.1.actuator), (.bool r7.1.out)]) Tryd.underlying24 (by kernel_rfl : (Tryd.prog.info? 51).map (fun i => (i.zero, i.size, i.bytes)) = some (some (.agg #[(.int .i64 0), (.bool false)]), (encStroke).size, 16)) rfl (by decide) rfl rfl rfl rfl rfl rfl rl2 rl3 e11 (fun ao5 cap5 rl4 => ?_))
                refine wq rfl rfl rfl (ov_fieldAddr Tryd.underlying26 rfl rfl rfl Tryd.sizeOf24 rfl rfl) ?_
                refine WL.step0 (Runs.free rfl) rfl (os_store (i := 4) (vs := [(.slice ao5 (l1 ++ ([r7.1] : List Stroke)).length cap5)]) (cs' := [(.slice ao5 (l1 ++ ([r7.1] : List Stroke)).length cap5), (.int .i64 p_x.wait)]) Tryd.sizeOf24 rfl rfl rfl rfl rfl rfl rfl rfl rfl ?_)
                refine WL.nil (block_normal (then_normal (WP.region ?_)))
                refine wq rfl rfl rfl (ov_add rfl rfl rfl) ?_
                refine wq rfl rfl rfl (ov_move rfl rfl) ?_
                refine WL.nil (then_normal ?_)
                exact ⟨(IntKind.wrap .i64 (i1 + 1)), (l1 ++ ([r7.1] : List Stroke)), ao5, cap5, (xs1 ++ [(.int .i64 r7.1.actuator), (.bool r7.1.out)]), rl4, (Sub.cons rfl (Sub.cons rfl (Sub.cons rfl (Sub.cons rfl (Sub.cons rfl (Sub.cons rfl (Sub.cons rfl (Sub.nil _)))))))), fun w' s => (s.select [3, 4] (by decide) rfl), hm⟩
            · replace hm := ite_f hc11 hm
              refine WP.exit (then_exit (then_exit (block_here (then_normal ?_))))
              exact ⟨l1, ao4, cap4, xs1, rl2, (Sub.cons rfl (Sub.cons rfl (Sub.cons rfl (Sub.cons rfl (Sub.nil _))))), fun w' s => s, hm⟩
        · rintro g' S' ⟨l3, ao6, cap6, xs2, rl5, hsub2, hS2, hm⟩
          refine WP.sub hsub2 (WP.weaken hS2 ?_)
          replace hm := (congrFun hk1 l3).symm.trans hm
          refine WP.seq (WP.region ?_)
          refine wq rfl rfl rfl (ov_load_whole (i := 1) Tryd.isAgg26 Tryd.sizeOf26 rfl rfl rfl rfl) ?_
          refine wq rfl rfl rfl (ov_move rfl rfl) ?_
          refine WL.held rl5 (fun H2 hc15 hle2 h9 => ?_)
          replace h2 := h2.mono hle2
          replace h3 := h3.mono hle2
          replace hG := hG.mono hle2
          obtain ⟨r8, e12, hm⟩ := bind_some hm
          refine WL.step (Runs.free rfl) rfl rfl (os_con Tryd.call17 rfl rfl (fun w' s => (stroke_Apply_con (Step.mk l3 p_x.wait) r5.1 ao6 cap6 ao3 cap3  w' H2 s.hold h9 hc15 h3 hc6 hG r8 e12)) (fun rr2 H3 hle3 hR2 => ?_))
          replace h2 := h2.mono hle3
          replace h3 := h3.mono hle3
          replace h9 := h9.mono hle3
          replace hG := hG.mono hle3
          obtain ⟨ao7, cap7, rfl, h10, hc16⟩ := hR2
          refine wq rfl rfl rfl (ov_move rfl rfl) ?_
          refine wq rfl rfl rfl (ov_extract rfl rfl rfl) ?_
          refine wq rfl rfl rfl (ov_extract rfl rfl rfl) ?_
          refine wq rfl rfl rfl (ov_assign rfl rfl) ?_
          refine wq rfl rfl rfl (ov_assign rfl rfl) ?_
          refine WL.nil (then_normal (WP.seq (WP.region ?_)))
          refine wq rfl rfl rfl (ov_move rfl rfl) ?_
          refine wq rfl rfl rfl (ov_eql rfl rfl rfl) ?_
          refine wq rfl rfl rfl (ov_move rfl rfl) ?_
          obtain ⟨c3, e13, hm⟩ := bind_some hm
          refine WL.cut_bool 4 107 (x := c3) ?_ ?_
          · rcases Bool.eq_false_or_eq_true (r8.2 == 0) with hc17 | hc17
            · skip
              replace hm := ite_t hc17 e13
              refine WL.quiet (Runs.yes rfl rfl rfl hc17) rfl rfl (OV.quiet (ov_move rfl rfl)) ?_
              refine WL.quiet (Runs.yes rfl rfl rfl hc17) rfl rfl (OV.quiet (ov_move rfl rfl)) ?_
              obtain ⟨r9, e14, hm⟩ := bind_some hm
              refine WL.quiet (Runs.yes rfl rfl rfl hc17) rfl rfl (oq_con (r := (.bool r9)) Tryd.call19 rfl rfl (fun w' s => ⟨_, (slices_Equal_boolbool_con r8.1 p_ends ao7 cap7 ao2 cap2  w' H3 s.hold h10 hc16 h2 hc2 hG r9 e14)⟩)) ?_
              refine wq rfl rfl rfl (ov_pick_true rfl (guard_eq rfl hc17) rfl) ?_
              exact WL.nil ⟨Sub.cons' rfl (congrArg Value.bool (Option.some.inj hm)) (Sub.skip rfl (Sub.skip rfl (Sub.skip rfl (Sub.skip rfl (Sub.refl _))))), fun _ s => s⟩
            · skip
              replace hm := ite_f hc17 e13
              refine WL.idle (Idle.no rfl rfl rfl hc17) rfl rfl ?_
              refine WL.idle (Idle.no rfl rfl rfl hc17) rfl rfl ?_
              refine WL.idle (Idle.no rfl rfl rfl hc17) rfl rfl ?_
              refine wq rfl rfl rfl (ov_pick_false rfl (guard_eq rfl hc17) rfl) ?_
              exact WL.nil ⟨Sub.cons' rfl (congrArg Value.bool (Option.some.inj hm)) (Sub.skip rfl (Sub.skip rfl (Sub.skip rfl (Sub.skip rfl (Sub.refl _))))), fun _ s => s⟩
          refine wq rfl rfl rfl (ov_move rfl rfl) ?_
          obtain ⟨c4, e15, hm⟩ := bind_some hm
          refine WL.cut_bool 2 110 (x := c4) ?_ ?_
          · rcases Bool.eq_false_or_eq_true c3 with hc18 | hc18
            · skip
              replace hm := ite_t hc18 e15
              obtain ⟨r10, e16, hm⟩ := bind_some hm
              refine WL.quiet (Runs.yes rfl rfl rfl hc18) rfl rfl (oq_con (r := (.bool r10)) Tryd.call11 rfl rfl (fun w' s => ⟨_, (law13_awake_con   w' H3 s.hold hG r10 e16)⟩)) ?_
              refine wq rfl rfl rfl (ov_pick_true rfl (guard_eq rfl hc18) rfl) ?_
              exact WL.nil ⟨Sub.cons' rfl (congrArg Value.bool (Option.some.inj hm)) (Sub.skip rfl (Sub.skip rfl (Sub.refl _))), fun _ s => s⟩
            · skip
              replace hm := ite_f hc18 e15
              refine WL.idle (Idle.no rfl rfl rfl hc18) rfl rfl ?_
              refine wq rfl rfl rfl (ov_pick_false rfl (guard_eq rfl hc18) rfl) ?_
              exact WL.nil ⟨Sub.cons' rfl (congrArg Value.bool (Option.some.inj hm)) (Sub.skip rfl (Sub.skip rfl (Sub.refl _))), fun _ s => s⟩
          refine wq rfl rfl rfl (ov_assign rfl rfl) ?_
          refine WL.nil (then_normal (WP.ret ?_))
          obtain rfl := Option.some.inj hm
          refine retQ_ret Tryd.results7 (Res.tmp rfl Res.nil) rfl (fun w' s => ⟨s.below, ?_⟩)
          exact rfl

end Go.Proofs.YtbiifgojhljkjaaDoor.W
