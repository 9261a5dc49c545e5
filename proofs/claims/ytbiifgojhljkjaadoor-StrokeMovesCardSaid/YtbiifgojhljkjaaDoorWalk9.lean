/- The walks. Written by our own program gen.py; Lean checks it. -/
import Derived.Test.YtbiifgojhljkjaaDoorPlain
import Derived.Test.YtbiifgojhljkjaaDoorEqs
import Derived.Test.YtbiifgojhljkjaaDoorProg
import Derived.Test.YtbiifgojhljkjaaDoorExt
import Derived.Test.YtbiifgojhljkjaaDoorClone
import Derived.Test.YtbiifgojhljkjaaDoorWalk0
import Derived.Test.YtbiifgojhljkjaaDoorWalk1
import Derived.Test.YtbiifgojhljkjaaDoorWalk2
import Derived.Test.YtbiifgojhljkjaaDoorWalk3
import Derived.Test.YtbiifgojhljkjaaDoorWalk4
set_option linter.unusedVariables false
set_option maxRecDepth 100000
set_option maxHeartbeats 4000000
namespace Go.Proofs.YtbiifgojhljkjaaDoor.W
open Go Go.RowKit
theorem law13_StrokeMoves_con (p_x : Step) (p_ends : (List Bool)) (ao1 : Option Addr) (cap1 : Nat) (ao2 : Option Addr) (cap2 : Nat) (w : World) (H : Heap) (hH : Le H (hp w)) (h1 : SL H encStroke ao1 p_x.strokes) (hc1 : p_x.strokes.length ≤ cap1) (h2 : SL H encBool ao2 p_ends) (hc2 : p_ends.length ≤ cap2) (hG : Glob H) (r : Bool) (hm : law13_StrokeMoves p_x p_ends = some r) :
    Con Tryd.prog 5 [(.agg #[(.slice ao1 p_x.strokes.length cap1), (.int .i64 p_x.wait)]), (.slice ao2 p_ends.length cap2)] w H (fun v _ => v = (.bool r)) := by
  unfold law13_StrokeMoves at hm
  refine con_of hH Tryd.func5 rfl 90 Tryd.ntmps5 rfl ?_
  refine WP.seq (WP.region ?_)
  refine WL.step (Runs.free rfl) rfl rfl (os_box (cs := [(.slice ao1 p_x.strokes.length cap1), (.int .i64 p_x.wait)]) rfl rfl rfl (fun b1 => ?_))
  refine wq rfl rfl rfl (ov_assign rfl rfl) ?_
  refine WL.nil (then_normal (WP.seq (WP.seq (WP.region ?_))))
  refine wq rfl rfl rfl (ov_load_whole (i := 0) Tryd.isAgg26 Tryd.sizeOf26 rfl rfl rfl rfl) ?_
  refine wq rfl rfl rfl (ov_move rfl rfl) ?_
  obtain ⟨r1, e1, hm⟩ := bind_some hm
  refine WL.quiet (Runs.free rfl) rfl rfl (oq_con (r := (.bool r1)) Tryd.call10 rfl rfl (fun w' s => ⟨_, (ref13_Few_con p_x p_ends ao1 cap1 ao2 cap2  w' H s.hold h1 hc1 h2 hc2 hG r1 e1)⟩)) ?_
  refine wq rfl rfl rfl (ov_not rfl rfl) ?_
  refine wq rfl rfl rfl (ov_move rfl rfl) ?_
  obtain ⟨c1, e2, hm⟩ := bind_some hm
  refine WL.cut_bool 4 19 (x := c1) ?_ ?_
  · rcases Bool.eq_false_or_eq_true (!r1) with hc3 | hc3
    · skip
      replace hm := ite_t hc3 e2
      refine WL.idle (Idle.no rfl rfl rfl hc3) rfl rfl ?_
      refine WL.idle (Idle.no rfl rfl rfl hc3) rfl rfl ?_
      refine WL.idle (Idle.no rfl rfl rfl hc3) rfl rfl ?_
      refine wq rfl rfl rfl (ov_pick_true rfl (guard_eq rfl hc3) rfl) ?_
      exact WL.nil ⟨Sub.cons' rfl (congrArg Value.bool (Option.some.inj hm)) (Sub.skip rfl (Sub.skip rfl (Sub.skip rfl (Sub.skip rfl (Sub.refl _))))), fun _ s => s⟩
    · skip
      replace hm := ite_f hc3 e2
      refine WL.quiet (Runs.yes rfl rfl rfl hc3) rfl rfl (OV.quiet (ov_load_whole (i := 0) Tryd.isAgg26 Tryd.sizeOf26 rfl rfl rfl rfl)) ?_
      obtain ⟨r2, e3, hm⟩ := bind_some hm
      refine WL.quiet (Runs.yes rfl rfl rfl hc3) rfl rfl (oq_con (r := (.int .i64 r2)) Tryd.call20 rfl rfl (fun w' s => ⟨_, (ref13_CheckStep_con p_x ao1 cap1  w' H s.hold h1 hc1 hG r2 e3)⟩)) ?_
      refine WL.quiet (Runs.yes rfl rfl rfl hc3) rfl rfl (OV.quiet (ov_neq rfl rfl rfl)) ?_
      refine wq rfl rfl rfl (ov_pick_false rfl (guard_eq rfl hc3) rfl) ?_
      exact WL.nil ⟨Sub.cons' rfl (congrArg Value.bool (Option.some.inj hm)) (Sub.skip rfl (Sub.skip rfl (Sub.skip rfl (Sub.skip rfl (Sub.refl _))))), fun _ s => s⟩
  refine wq rfl rfl rfl (ov_move rfl rfl) ?_
  refine WL.cut_bool 4 24 (x := (c1 || (decide ((p_ends.length : Int) > 6)))) ?_ ?_
  · rcases Bool.eq_false_or_eq_true c1 with hc4 | hc4
    · skip
      refine WL.idle (Idle.no rfl rfl rfl hc4) rfl rfl ?_
      refine WL.idle (Idle.no rfl rfl rfl hc4) rfl rfl ?_
      refine WL.idle (Idle.no rfl rfl rfl hc4) rfl rfl ?_
      refine wq rfl rfl rfl (ov_pick_true rfl (guard_eq rfl hc4) rfl) ?_
      exact WL.nil ⟨Sub.cons' rfl (congrArg Value.bool (orT hc4)) (Sub.skip rfl (Sub.skip rfl (Sub.skip rfl (Sub.skip rfl (Sub.refl _))))), fun _ s => s⟩
    · skip
      refine WL.quiet (Runs.yes rfl rfl rfl hc4) rfl rfl (OV.quiet (ov_move rfl rfl)) ?_
      refine WL.quiet (Runs.yes rfl rfl rfl hc4) rfl rfl (OV.quiet (ov_len_slice Tryd.underlying37 rfl rfl)) ?_
      refine WL.quiet (Runs.yes rfl rfl rfl hc4) rfl rfl (OV.quiet (ov_gtr rfl rfl rfl)) ?_
      refine wq rfl rfl rfl (ov_pick_false rfl (guard_eq rfl hc4) rfl) ?_
      exact WL.nil ⟨Sub.cons' rfl (congrArg Value.bool (orF hc4)) (Sub.skip rfl (Sub.skip rfl (Sub.skip rfl (Sub.skip rfl (Sub.refl _))))), fun _ s => s⟩
  refine wq rfl rfl rfl (ov_move rfl rfl) ?_
  obtain ⟨c2, e4, hm⟩ := bind_some hm
  refine WL.cut_bool 5 30 (x := c2) ?_ ?_
  · rcases Bool.eq_false_or_eq_true (c1 || (decide ((p_ends.length : Int) > 6))) with hc5 | hc5
    · skip
      replace hm := ite_t hc5 e4
      refine WL.idle (Idle.no rfl rfl rfl hc5) rfl rfl ?_
      refine WL.idle (Idle.no rfl rfl rfl hc5) rfl rfl ?_
      refine WL.idle (Idle.no rfl rfl rfl hc5) rfl rfl ?_
      refine WL.idle (Idle.no rfl rfl rfl hc5) rfl rfl ?_
      refine wq rfl rfl rfl (ov_pick_true rfl (guard_eq rfl hc5) rfl) ?_
      exact WL.nil ⟨Sub.cons' rfl (congrArg Value.bool (Option.some.inj hm)) (Sub.skip rfl (Sub.skip rfl (Sub.skip rfl (Sub.skip rfl (Sub.skip rfl (Sub.refl _)))))), fun _ s => s⟩
    · skip
      replace hm := ite_f hc5 e4
      refine WL.quiet (Runs.yes rfl rfl rfl hc5) rfl rfl (OV.quiet (ov_load_whole (i := 0) Tryd.isAgg26 Tryd.sizeOf26 rfl rfl rfl rfl)) ?_
      refine WL.quiet (Runs.yes rfl rfl rfl hc5) rfl rfl (OV.quiet (ov_move rfl rfl)) ?_
      obtain ⟨r3, e5, hm⟩ := bind_some hm
      refine WL.quiet (Runs.yes rfl rfl rfl hc5) rfl rfl (oq_con (r := (.bool r3)) Tryd.call21 rfl rfl (fun w' s => ⟨_, (ref13_Suits_con p_x p_ends ao1 cap1 ao2 cap2  w' H s.hold h1 hc1 h2 hc2 hG r3 e5)⟩)) ?_
      refine WL.quiet (Runs.yes rfl rfl rfl hc5) rfl rfl (OV.quiet (ov_not rfl rfl)) ?_
      refine wq rfl rfl rfl (ov_pick_false rfl (guard_eq rfl hc5) rfl) ?_
      exact WL.nil ⟨Sub.cons' rfl (congrArg Value.bool (Option.some.inj hm)) (Sub.skip rfl (Sub.skip rfl (Sub.skip rfl (Sub.skip rfl (Sub.skip rfl (Sub.refl _)))))), fun _ s => s⟩
  refine WL.nil (then_normal ?_)
  refine WP.cond rfl (fun hc6 => ?_) (fun hc6 => ?_)
  · replace hm := ite_t hc6 hm
    refine WP.seq (WP.region ?_)
    obtain ⟨r4, e6, hm⟩ := bind_some hm
    refine WL.quiet (Runs.free rfl) rfl rfl (oq_con (r := (.bool r4)) Tryd.call11 rfl rfl (fun w' s => ⟨_, (law13_awake_con   w' H s.hold hG r4 e6)⟩)) ?_
    refine wq rfl rfl rfl (ov_assign rfl rfl) ?_
    refine WL.nil (then_normal (WP.ret (then_ret ?_)))
    obtain rfl := Option.some.inj hm
    refine retQ_ret Tryd.results5 (Res.tmp rfl Res.nil) rfl (fun w' s => ⟨s.below, ?_⟩)
    exact rfl
  · replace hm := ite_f hc6 hm
    refine WP.skip (then_normal (WP.seq (WP.region ?_)))
    refine wq rfl rfl rfl (ov_load_whole (i := 0) Tryd.isAgg26 Tryd.sizeOf26 rfl rfl rfl rfl) ?_
    refine wq rfl rfl rfl (ov_move rfl rfl) ?_
    obtain ⟨r5, e7, hm⟩ := bind_some hm
    refine WL.step (Runs.free rfl) rfl rfl (os_con Tryd.call17 rfl rfl (fun w' s => (stroke_Apply_con p_x p_ends ao1 cap1 ao2 cap2  w' H s.hold h1 hc1 h2 hc2 hG r5 e7)) (fun rr1 H1 hle1 hR1 => ?_))
    replace h1 := h1.mono hle1
    replace h2 := h2.mono hle1
    replace hG := hG.mono hle1
    obtain ⟨ao3, cap3, rfl, h3, hc7⟩ := hR1
    refine wq rfl rfl rfl (ov_move rfl rfl) ?_
    refine wq rfl rfl rfl (ov_extract rfl rfl rfl) ?_
    refine wq rfl rfl rfl (ov_extract rfl rfl rfl) ?_
    refine wq rfl rfl rfl (ov_assign rfl rfl) ?_
    refine wq rfl rfl rfl (ov_assign rfl rfl) ?_
    refine WL.nil (then_normal (WP.seq (WP.seq (WP.region ?_))))
    refine wq rfl rfl rfl (ov_move rfl rfl) ?_
    refine wq rfl rfl rfl (ov_neq rfl rfl rfl) ?_
    refine wq rfl rfl rfl (ov_move rfl rfl) ?_
    refine WL.cut_bool 6 46 (x := ((r5.2 != 0) || ((r5.1.length : Int) != (p_ends.length : Int)))) ?_ ?_
    · rcases Bool.eq_false_or_eq_true (r5.2 != 0) with hc8 | hc8
      · skip
        refine WL.idle (Idle.no rfl rfl rfl hc8) rfl rfl ?_
        refine WL.idle (Idle.no rfl rfl rfl hc8) rfl rfl ?_
        refine WL.idle (Idle.no rfl rfl rfl hc8) rfl rfl ?_
        refine WL.idle (Idle.no rfl rfl rfl hc8) rfl rfl ?_
        refine WL.idle (Idle.no rfl rfl rfl hc8) rfl rfl ?_
        refine wq rfl rfl rfl (ov_pick_true rfl (guard_eq rfl hc8) rfl) ?_
        exact WL.nil ⟨Sub.cons' rfl (congrArg Value.bool (orT hc8)) (Sub.skip rfl (Sub.skip rfl (Sub.skip rfl (Sub.skip rfl (Sub.skip rfl (Sub.skip rfl (Sub.refl _))))))), fun _ s => s⟩
      · skip
        refine WL.quiet (Runs.yes rfl rfl rfl hc8) rfl rfl (OV.quiet (ov_move rfl rfl)) ?_
        refine WL.quiet (Runs.yes rfl rfl rfl hc8) rfl rfl (OV.quiet (ov_len_slice Tryd.underlying37 rfl rfl)) ?_
        refine WL.quiet (Runs.yes rfl rfl rfl hc8) rfl rfl (OV.quiet (ov_move rfl rfl)) ?_
        refine WL.quiet (Runs.yes rfl rfl rfl hc8) rfl rfl (OV.quiet (ov_len_slice Tryd.underlying37 rfl rfl)) ?_
        refine WL.quiet (Runs.yes rfl rfl rfl hc8) rfl rfl (OV.quiet (ov_neq rfl rfl rfl)) ?_
        refine wq rfl rfl rfl (ov_pick_false rfl (guard_eq rfl hc8) rfl) ?_
        exact WL.nil ⟨Sub.cons' rfl (congrArg Value.bool (orF hc8)) (Sub.skip rfl (Sub.skip rfl (Sub.skip rfl (Sub.skip rfl (Sub.skip rfl (Sub.skip rfl (Sub.refl _))))))), fun _ s => s⟩
    refine WL.nil (then_normal ?_)
    refine WP.cond rfl (fun hc9 => ?_) (fun hc9 => ?_)
    · replace hm := ite_t hc9 hm
      refine WP.seq (WP.region ?_)
      refine wq rfl rfl rfl (ov_assign rfl rfl) ?_
      refine WL.nil (then_normal (WP.ret (then_ret ?_)))
      obtain rfl := Option.some.inj hm
      refine retQ_ret Tryd.results5 (Res.tmp rfl Res.nil) rfl (fun w' s => ⟨s.below, ?_⟩)
      exact rfl
    · replace hm := ite_f hc9 hm
      refine WP.skip (then_normal ?_)
      obtain ⟨k1, hk1, hm⟩ := joinK_some hm
      refine WP.seq_join (fun g' S' => Sub [(1000000007, (.bool false))] g' ∧ (∀ w', S' w' → St w H [] H1 w') ∧ k1 = some r) ?_ ?_
      · skip
        refine WP.seq (WP.region ?_)
        refine wq rfl rfl rfl (ov_move rfl rfl) ?_
        refine wq rfl rfl rfl (ov_len_slice Tryd.underlying37 rfl rfl) ?_
        refine wq rfl rfl rfl (ov_move rfl rfl) ?_
        refine WL.nil (then_normal (WP.block ?_))
        refine WP.loop (fun m1 g' S' => ∃ (i1 : Int), Sub [(2, (pB b1 0)), (5, (.slice ao3 r5.1.length cap3)), (47, (.slice ao2 p_ends.length cap2)), (48, (.int .i64 (p_ends.length : Int))), (49, (.int .i64 i1)), (1000000007, (.bool false))] g' ∧ (∀ w', S' w' → St w H [.blk b1 26 [(.slice ao1 p_x.strokes.length cap1), (.int .i64 p_x.wait)]] H1 w') ∧ law13_StrokeMoves_loop1 p_x p_ends r5 k1 m1 i1 = some r) ((Int.toNat ((p_ends.length : Int) - 0) + 1)) ⟨0, (Sub.cons rfl (Sub.cons rfl (Sub.cons rfl (Sub.cons rfl (Sub.cons rfl (Sub.cons rfl (Sub.nil _))))))), fun w' s => s, hm⟩ ?_ ?_
        · rintro g' S' ⟨_, _, _, hm⟩
          exact none_some hm
        · rintro m1 g' S' ⟨i1, hsub1, hS1, hm⟩
          refine WP.sub hsub1 (WP.weaken hS1 ?_)
          rw [law13_StrokeMoves_loop1] at hm
          refine WP.seq (WP.region ?_)
          refine wq rfl rfl rfl (ov_lss rfl rfl rfl) ?_
          refine WL.nil (then_normal (WP.seq ?_))
          refine WP.cond rfl (fun hc10 => ?_) (fun hc10 => ?_)
          · replace hm := ite_t hc10 hm
            refine WP.skip (then_normal (WP.seq (WP.block (WP.seq (WP.region ?_)))))
            refine wq rfl rfl rfl (ov_move rfl rfl) ?_
            obtain ⟨x1, e8, hm⟩ := bind_some hm
            obtain ⟨h4, h5, h6, cs1, h7, h8⟩ := h2.get e8 (by decide)
            obtain rfl : cs1 = [(.bool x1)] := h7
            refine wq rfl rfl rfl (ov_indexAddr Tryd.underlying37 Tryd.sizeOf4 rfl rfl rfl h4 h5 h6) ?_
            refine wq rfl rfl rfl (ov_load_elem (v := (.bool x1)) Tryd.isAgg4 rfl rfl h8) ?_
            refine wq rfl rfl rfl (ov_assign rfl rfl) ?_
            refine wq rfl rfl rfl (ov_assign rfl rfl) ?_
            refine WL.nil (then_normal (WP.seq (WP.region ?_)))
            refine wq rfl rfl rfl (ov_load_whole (i := 0) Tryd.isAgg26 Tryd.sizeOf26 rfl rfl rfl rfl) ?_
            refine wq rfl rfl rfl (ov_move rfl rfl) ?_
            obtain ⟨r6, e9, hm⟩ := bind_some hm
            refine WL.quiet (Runs.free rfl) rfl rfl (oq_con (r := (.tuple #[(.int .i64 r6.1), (.int .i64 r6.2)])) Tryd.call22 rfl rfl (fun w' s => ⟨_, (stroke_Has_con p_x i1 ao1 cap1  w' H1 s.hold h1 hc1 hG r6 e9)⟩)) ?_
            refine wq rfl rfl rfl (ov_move rfl rfl) ?_
            refine wq rfl rfl rfl (ov_extract rfl rfl rfl) ?_
            refine wq rfl rfl rfl (ov_extract rfl rfl rfl) ?_
            refine wq rfl rfl rfl (ov_assign rfl rfl) ?_
            refine wq rfl rfl rfl (ov_assign rfl rfl) ?_
            refine WL.nil (then_normal (WP.seq (WP.region ?_)))
            refine wq rfl rfl rfl (ov_move rfl rfl) ?_
            refine wq rfl rfl rfl (ov_neq rfl rfl rfl) ?_
            refine wq rfl rfl rfl (ov_move rfl rfl) ?_
            obtain ⟨c3, e10, hm⟩ := bind_some hm
            refine WL.cut_bool 12 74 (x := c3) ?_ ?_
            · rcases Bool.eq_false_or_eq_true (r6.2 != 0) with hc11 | hc11
              · skip
                replace hm := ite_t hc11 e10
                refine WL.idle (Idle.no rfl rfl rfl hc11) rfl rfl ?_
                refine WL.idle (Idle.no rfl rfl rfl hc11) rfl rfl ?_
                refine WL.idle (Idle.no rfl rfl rfl hc11) rfl rfl ?_
                refine WL.idle (Idle.no rfl rfl rfl hc11) rfl rfl ?_
                refine WL.idle (Idle.no rfl rfl rfl hc11) rfl rfl ?_
                refine WL.idle (Idle.undef rfl rfl rfl) rfl rfl ?_
                refine WL.idle (Idle.undef rfl rfl rfl) rfl rfl ?_
                refine WL.idle (Idle.undef rfl rfl rfl) rfl rfl ?_
                refine WL.idle (Idle.undef rfl rfl rfl) rfl rfl ?_
                refine WL.idle (Idle.no rfl rfl rfl hc11) rfl rfl ?_
                refine WL.idle (Idle.no rfl rfl rfl hc11) rfl rfl ?_
                refine wq rfl rfl rfl (ov_pick_true rfl (guard_eq rfl hc11) rfl) ?_
                exact WL.nil ⟨Sub.cons' rfl (congrArg Value.bool (Option.some.inj hm)) (Sub.skip rfl (Sub.skip rfl (Sub.skip rfl (Sub.skip rfl (Sub.skip rfl (Sub.skip rfl (Sub.skip rfl (Sub.skip rfl (Sub.skip rfl (Sub.skip rfl (Sub.skip rfl (Sub.skip rfl (Sub.refl _))))))))))))), fun _ s => s⟩
              · skip
                replace hm := ite_f hc11 e10
                refine WL.quiet (Runs.yes rfl rfl rfl hc11) rfl rfl (OV.quiet (ov_move rfl rfl)) ?_
                refine WL.quiet (Runs.yes rfl rfl rfl hc11) rfl rfl (OV.quiet (ov_gtr rfl rfl rfl)) ?_
                refine WL.quiet (Runs.yes rfl rfl rfl hc11) rfl rfl (OV.quiet (ov_move rfl rfl)) ?_
                refine WL.quiet (Runs.yes rfl rfl rfl hc11) rfl rfl (OV.quiet (ov_not rfl rfl)) ?_
                refine WL.quiet (Runs.yes rfl rfl rfl hc11) rfl rfl (OV.quiet (ov_move rfl rfl)) ?_
                obtain ⟨c4, e11, hm⟩ := bind_some hm
                refine WL.cut_bool 5 72 (x := c4) ?_ ?_
                · rcases Bool.eq_false_or_eq_true (!x1) with hc12 | hc12
                  · skip
                    replace hm := ite_t hc12 e11
                    refine WL.quiet (Runs.yes rfl rfl rfl hc12) rfl rfl (OV.quiet (ov_move rfl rfl)) ?_
                    refine WL.quiet (Runs.yes rfl rfl rfl hc12) rfl rfl (OV.quiet (ov_move rfl rfl)) ?_
                    obtain ⟨x2, e12, hm⟩ := bind_some hm
                    obtain ⟨h9, h10, h11, cs2, h12, h13⟩ := h3.get e12 (by decide)
                    obtain rfl : cs2 = [(.bool x2)] := h12
                    refine WL.quiet (Runs.yes rfl rfl rfl hc12) rfl rfl (OV.quiet (ov_indexAddr Tryd.underlying37 Tryd.sizeOf4 rfl rfl rfl h9 h10 h11)) ?_
                    refine WL.quiet (Runs.yes rfl rfl rfl hc12) rfl rfl (OV.quiet (ov_load_elem (v := (.bool x2)) Tryd.isAgg4 rfl rfl h13)) ?_
                    refine WL.quiet (Runs.yes rfl rfl rfl hc11) rfl rfl (OV.quiet (ov_pick_true rfl (guard_eq rfl hc12) rfl)) ?_
                    exact WL.nil ⟨Sub.cons' rfl (congrArg Value.bool (Option.some.inj hm)) (Sub.skip rfl (Sub.skip rfl (Sub.skip rfl (Sub.skip rfl (Sub.skip rfl (Sub.refl _)))))), fun _ s => s⟩
                  · skip
                    replace hm := ite_f hc12 e11
                    refine WL.idle (Idle.no rfl rfl rfl hc12) rfl rfl ?_
                    refine WL.idle (Idle.no rfl rfl rfl hc12) rfl rfl ?_
                    refine WL.idle (Idle.no rfl rfl rfl hc12) rfl rfl ?_
                    refine WL.idle (Idle.no rfl rfl rfl hc12) rfl rfl ?_
                    refine WL.quiet (Runs.yes rfl rfl rfl hc11) rfl rfl (OV.quiet (ov_pick_false rfl (guard_eq rfl hc12) rfl)) ?_
                    exact WL.nil ⟨Sub.cons' rfl (congrArg Value.bool (Option.some.inj hm)) (Sub.skip rfl (Sub.skip rfl (Sub.skip rfl (Sub.skip rfl (Sub.skip rfl (Sub.refl _)))))), fun _ s => s⟩
                refine WL.quiet (Runs.yes rfl rfl rfl hc11) rfl rfl (OV.quiet (ov_bneq Tryd.underlying4 rfl rfl rfl)) ?_
                refine wq rfl rfl rfl (ov_pick_false rfl (guard_eq rfl hc11) rfl) ?_
                exact WL.nil ⟨Sub.cons' rfl (congrArg Value.bool (Option.some.inj hm)) (Sub.skip rfl (Sub.skip rfl (Sub.skip rfl (Sub.skip rfl (Sub.skip rfl (Sub.skip rfl (Sub.skip rfl (Sub.skip rfl (Sub.refl _))))))))), fun _ s => s⟩
            refine wq rfl rfl rfl (ov_move rfl rfl) ?_
            obtain ⟨c5, e13, hm⟩ := bind_some hm
            refine WL.cut_bool 12 87 (x := c5) ?_ ?_
            · rcases Bool.eq_false_or_eq_true c3 with hc13 | hc13
              · skip
                replace hm := ite_t hc13 e13
                refine WL.idle (Idle.no rfl rfl rfl hc13) rfl rfl ?_
                refine WL.idle (Idle.no rfl rfl rfl hc13) rfl rfl ?_
                refine WL.idle (Idle.no rfl rfl rfl hc13) rfl rfl ?_
                refine WL.idle (Idle.no rfl rfl rfl hc13) rfl rfl ?_
                refine WL.idle (Idle.undef rfl rfl rfl) rfl rfl ?_
                refine WL.idle (Idle.undef rfl rfl rfl) rfl rfl ?_
                refine WL.idle (Idle.undef rfl rfl rfl) rfl rfl ?_
                refine WL.idle (Idle.undef rfl rfl rfl) rfl rfl ?_
                refine WL.idle (Idle.undef rfl rfl rfl) rfl rfl ?_
                refine WL.idle (Idle.no rfl rfl rfl hc13) rfl rfl ?_
                refine WL.idle (Idle.no rfl rfl rfl hc13) rfl rfl ?_
                refine wq rfl rfl rfl (ov_pick_true rfl (guard_eq rfl hc13) rfl) ?_
                exact WL.nil ⟨Sub.cons' rfl (congrArg Value.bool (Option.some.inj hm)) (Sub.skip rfl (Sub.skip rfl (Sub.skip rfl (Sub.skip rfl (Sub.skip rfl (Sub.skip rfl (Sub.skip rfl (Sub.skip rfl (Sub.skip rfl (Sub.skip rfl (Sub.skip rfl (Sub.skip rfl (Sub.refl _))))))))))))), fun _ s => s⟩
              · skip
                replace hm := ite_f hc13 e13
                refine WL.quiet (Runs.yes rfl rfl rfl hc13) rfl rfl (OV.quiet (ov_move rfl rfl)) ?_
                refine WL.quiet (Runs.yes rfl rfl rfl hc13) rfl rfl (OV.quiet (ov_lss rfl rfl rfl)) ?_
                refine WL.quiet (Runs.yes rfl rfl rfl hc13) rfl rfl (OV.quiet (ov_move rfl rfl)) ?_
                refine WL.quiet (Runs.yes rfl rfl rfl hc13) rfl rfl (OV.quiet (ov_move rfl rfl)) ?_
                obtain ⟨c6, e14, hm⟩ := bind_some hm
                refine WL.cut_bool 6 85 (x := c6) ?_ ?_
                · rcases Bool.eq_false_or_eq_true x1 with hc14 | hc14
                  · skip
                    replace hm := ite_t hc14 e14
                    refine WL.quiet (Runs.yes rfl rfl rfl hc14) rfl rfl (OV.quiet (ov_move rfl rfl)) ?_
                    refine WL.quiet (Runs.yes rfl rfl rfl hc14) rfl rfl (OV.quiet (ov_move rfl rfl)) ?_
                    obtain ⟨x3, e15, hm⟩ := bind_some hm
                    obtain ⟨h14, h15, h16, cs3, h17, h18⟩ := h3.get e15 (by decide)
                    obtain rfl : cs3 = [(.bool x3)] := h17
                    refine WL.quiet (Runs.yes rfl rfl rfl hc14) rfl rfl (OV.quiet (ov_indexAddr Tryd.underlying37 Tryd.sizeOf4 rfl rfl rfl h14 h15 h16)) ?_
                    refine WL.quiet (Runs.yes rfl rfl rfl hc14) rfl rfl (OV.quiet (ov_load_elem (v := (.bool x3)) Tryd.isAgg4 rfl rfl h18)) ?_
                    refine WL.quiet (Runs.yes rfl rfl rfl hc14) rfl rfl (OV.quiet (ov_not rfl rfl)) ?_
                    refine WL.quiet (Runs.yes rfl rfl rfl hc13) rfl rfl (OV.quiet (ov_pick_true rfl (guard_eq rfl hc14) rfl)) ?_
                    exact WL.nil ⟨Sub.cons' rfl (congrArg Value.bool (Option.some.inj hm)) (Sub.skip rfl (Sub.skip rfl (Sub.skip rfl (Sub.skip rfl (Sub.skip rfl (Sub.skip rfl (Sub.refl _))))))), fun _ s => s⟩
                  · skip
                    replace hm := ite_f hc14 e14
                    refine WL.idle (Idle.no rfl rfl rfl hc14) rfl rfl ?_
                    refine WL.idle (Idle.no rfl rfl rfl hc14) rfl rfl ?_
                    refine WL.idle (Idle.no rfl rfl rfl hc14) rfl rfl ?_
                    refine WL.idle (Idle.no rfl rfl rfl hc14) rfl rfl ?_
                    refine WL.idle (Idle.no rfl rfl rfl hc14) rfl rfl ?_
                    refine WL.quiet (Runs.yes rfl rfl rfl hc13) rfl rfl (OV.quiet (ov_pick_false rfl (guard_eq rfl hc14) rfl)) ?_
                    exact WL.nil ⟨Sub.cons' rfl (congrArg Value.bool (Option.some.inj hm)) (Sub.skip rfl (Sub.skip rfl (Sub.skip rfl (Sub.skip rfl (Sub.skip rfl (Sub.skip rfl (Sub.refl _))))))), fun _ s => s⟩
                refine WL.quiet (Runs.yes rfl rfl rfl hc13) rfl rfl (OV.quiet (ov_bneq Tryd.underlying4 rfl rfl rfl)) ?_
                refine wq rfl rfl rfl (ov_pick_false rfl (guard_eq rfl hc13) rfl) ?_
                exact WL.nil ⟨Sub.cons' rfl (congrArg Value.bool (Option.some.inj hm)) (Sub.skip rfl (Sub.skip rfl (Sub.skip rfl (Sub.skip rfl (Sub.skip rfl (Sub.skip rfl (Sub.skip rfl (Sub.refl _)))))))), fun _ s => s⟩
            refine WL.nil (then_normal ?_)
            refine WP.cond rfl (fun hc15 => ?_) (fun hc15 => ?_)
            · replace hm := ite_t hc15 hm
              refine WP.seq (WP.region ?_)
              refine wq rfl rfl rfl (ov_assign rfl rfl) ?_
              refine WL.nil (then_normal (WP.ret (block_ret (then_ret (then_ret (block_ret (then_ret ?_)))))))
              obtain rfl := Option.some.inj hm
              refine retQ_ret Tryd.results5 (Res.tmp rfl Res.nil) rfl (fun w' s => ⟨s.below, ?_⟩)
              exact rfl
            · replace hm := ite_f hc15 hm
              refine WP.skip (block_normal (then_normal (WP.region ?_)))
              refine wq rfl rfl rfl (ov_add rfl rfl rfl) ?_
              refine wq rfl rfl rfl (ov_move rfl rfl) ?_
              refine WL.nil (then_normal ?_)
              exact ⟨(IntKind.wrap .i64 (i1 + 1)), (Sub.cons rfl (Sub.cons rfl (Sub.cons rfl (Sub.cons rfl (Sub.cons rfl (Sub.cons rfl (Sub.nil _))))))), fun w' s => s, hm⟩
          · replace hm := ite_f hc10 hm
            refine WP.exit (then_exit (then_exit (block_here (then_normal ?_))))
            exact ⟨(Sub.cons rfl (Sub.nil _)), fun w' s => (s.select [] (by decide) rfl), hm⟩
      · rintro g' S' ⟨hsub2, hS2, hm⟩
        refine WP.sub hsub2 (WP.weaken hS2 ?_)
        replace hm := hk1.symm.trans hm
        refine WP.seq (WP.region ?_)
        obtain ⟨r7, e16, hm⟩ := bind_some hm
        refine WL.quiet (Runs.free rfl) rfl rfl (oq_con (r := (.bool r7)) Tryd.call11 rfl rfl (fun w' s => ⟨_, (law13_awake_con   w' H1 s.hold hG r7 e16)⟩)) ?_
        refine wq rfl rfl rfl (ov_assign rfl rfl) ?_
        refine WL.nil (then_normal (WP.ret ?_))
        obtain rfl := Option.some.inj hm
        refine retQ_ret Tryd.results5 (Res.tmp rfl Res.nil) rfl (fun w' s => ⟨s.below, ?_⟩)
        exact rfl

end Go.Proofs.YtbiifgojhljkjaaDoor.W
