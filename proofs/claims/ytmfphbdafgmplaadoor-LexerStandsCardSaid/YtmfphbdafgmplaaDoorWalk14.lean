/- The walks. Written by our own program gen.py; Lean checks it. -/
import Derived.Test.YtmfphbdafgmplaaDoorPlain
import Derived.Test.YtmfphbdafgmplaaDoorEqs
import Derived.Test.YtmfphbdafgmplaaDoorProg
import Derived.Test.YtmfphbdafgmplaaDoorExt
import Derived.Test.YtmfphbdafgmplaaDoorClone
import Derived.Test.YtmfphbdafgmplaaDoorBuild
import Derived.Test.YtmfphbdafgmplaaDoorWalk2
import Derived.Test.YtmfphbdafgmplaaDoorWalk3
import Derived.Test.YtmfphbdafgmplaaDoorWalk4
import Derived.Test.YtmfphbdafgmplaaDoorWalk6
set_option linter.unusedVariables false
set_option maxRecDepth 100000
set_option maxHeartbeats 4000000
namespace Go.Proofs.YtmfphbdafgmplaaDoor.W
open Go Go.RowKit
theorem law12_LexerStands_con (p_s : (List UInt8)) (w : World) (H : Heap) (hH : Le H (hp w)) (hG : Glob H) (r : Bool) (hm : law12_LexerStands p_s = some r) :
    Con Tryd.prog 10 [(mkS p_s)] w H (fun v _ => v = (.bool r)) := by
  unfold law12_LexerStands at hm
  refine con_of hH Tryd.func10 rfl 128 Tryd.ntmps10 rfl ?_
  refine WP.seq (WP.region ?_)
  refine wq rfl rfl rfl (ov_assign rfl rfl) ?_
  refine WL.nil (then_normal (WP.seq (WP.seq (WP.region ?_))))
  refine wq rfl rfl rfl (ov_move rfl rfl) ?_
  refine wq rfl rfl rfl (ov_len_string Tryd.underlying9 rfl rfl) ?_
  refine wq rfl rfl rfl (ov_gtr rfl rfl rfl) ?_
  refine WL.nil (then_normal ?_)
  refine WP.cond rfl (fun hc1 => ?_) (fun hc1 => ?_)
  · replace hm := ite_t hc1 hm
    refine WP.seq (WP.region ?_)
    obtain ⟨r1, e1, hm⟩ := bind_some hm
    refine WL.quiet (Runs.free rfl) rfl rfl (oq_con (r := (.bool r1)) Tryd.call12 rfl rfl (fun w' s => ⟨_, (law12_awake_con   w' H s.hold hG r1 e1)⟩)) ?_
    refine wq rfl rfl rfl (ov_assign rfl rfl) ?_
    refine WL.nil (then_normal (WP.ret (then_ret ?_)))
    obtain rfl := Option.some.inj hm
    refine retQ_ret Tryd.results10 (Res.tmp rfl Res.nil) rfl (fun w' s => ⟨s.below, ?_⟩)
    exact rfl
  · replace hm := ite_f hc1 hm
    refine WP.skip (then_normal (WP.seq (WP.region ?_)))
    refine wq rfl rfl rfl (ov_move rfl rfl) ?_
    obtain ⟨r2, e2, hm⟩ := bind_some hm
    refine WL.step (Runs.free rfl) rfl rfl (os_con Tryd.call15 rfl rfl (fun w' s => (lexer_Scan_con p_s  w' H s.hold hG r2 e2)) (fun rr1 H1 hle1 hR1 => ?_))
    replace hG := hG.mono hle1
    obtain ⟨ao1, cap1, rfl, h1, hc2⟩ := hR1
    refine wq rfl rfl rfl (ov_move rfl rfl) ?_
    refine wq rfl rfl rfl (ov_extract rfl rfl rfl) ?_
    refine wq rfl rfl rfl (ov_extract rfl rfl rfl) ?_
    refine wq rfl rfl rfl (ov_extract rfl rfl rfl) ?_
    refine wq rfl rfl rfl (ov_assign rfl rfl) ?_
    refine wq rfl rfl rfl (ov_assign rfl rfl) ?_
    refine wq rfl rfl rfl (ov_assign rfl rfl) ?_
    refine WL.nil (then_normal (WP.seq (WP.seq (WP.region ?_))))
    refine wq rfl rfl rfl (ov_move rfl rfl) ?_
    refine wq rfl rfl rfl (ov_neq rfl rfl rfl) ?_
    refine WL.nil (then_normal ?_)
    refine WP.cond rfl (fun hc3 => ?_) (fun hc3 => ?_)
    · replace hm := ite_t hc3 hm
      refine WP.seq (WP.region ?_)
      refine wq rfl rfl rfl (ov_move rfl rfl) ?_
      refine wq rfl rfl rfl (ov_len_slice Tryd.underlying30 rfl rfl) ?_
      refine wq rfl rfl rfl (ov_eql rfl rfl rfl) ?_
      refine wq rfl rfl rfl (ov_move rfl rfl) ?_
      obtain ⟨c1, e3, hm⟩ := bind_some hm
      refine WL.cut_bool 2 32 (x := c1) ?_ ?_
      · rcases Bool.eq_false_or_eq_true ((r2.1.length : Int) == 0) with hc4 | hc4
        · skip
          replace hm := ite_t hc4 e3
          obtain ⟨r3, e4, hm⟩ := bind_some hm
          refine WL.quiet (Runs.yes rfl rfl rfl hc4) rfl rfl (oq_con (r := (.bool r3)) Tryd.call12 rfl rfl (fun w' s => ⟨_, (law12_awake_con   w' H1 s.hold hG r3 e4)⟩)) ?_
          refine wq rfl rfl rfl (ov_pick_true rfl (guard_eq rfl hc4) rfl) ?_
          exact WL.nil ⟨Sub.cons' rfl (congrArg Value.bool (Option.some.inj hm)) (Sub.skip rfl (Sub.skip rfl (Sub.refl _))), fun _ s => s⟩
        · skip
          replace hm := ite_f hc4 e3
          refine WL.idle (Idle.no rfl rfl rfl hc4) rfl rfl ?_
          refine wq rfl rfl rfl (ov_pick_false rfl (guard_eq rfl hc4) rfl) ?_
          exact WL.nil ⟨Sub.cons' rfl (congrArg Value.bool (Option.some.inj hm)) (Sub.skip rfl (Sub.skip rfl (Sub.refl _))), fun _ s => s⟩
      refine wq rfl rfl rfl (ov_assign rfl rfl) ?_
      refine WL.nil (then_normal (WP.ret (then_ret ?_)))
      obtain rfl := Option.some.inj hm
      refine retQ_ret Tryd.results10 (Res.tmp rfl Res.nil) rfl (fun w' s => ⟨s.below, ?_⟩)
      exact rfl
    · replace hm := ite_f hc3 hm
      refine WP.skip (then_normal (WP.seq (WP.region ?_)))
      refine wq rfl rfl rfl (ov_assign rfl rfl) ?_
      refine WL.nil (then_normal ?_)
      obtain ⟨k1, hk1, hm⟩ := joinK_some hm
      refine WP.seq_join (fun g' S' => ∃ (i3 : Int), Sub [(0, (mkS p_s)), (3, (.slice ao1 r2.1.length cap1)), (6, (.int .i64 i3)), (1000000007, (.bool false))] g' ∧ (∀ w', S' w' → St w H [] H1 w') ∧ k1 i3 = some r) ?_ ?_
      · skip
        refine WP.seq (WP.region ?_)
        refine wq rfl rfl rfl (ov_move rfl rfl) ?_
        refine wq rfl rfl rfl (ov_len_slice Tryd.underlying30 rfl rfl) ?_
        refine wq rfl rfl rfl (ov_move rfl rfl) ?_
        refine WL.nil (then_normal (WP.block ?_))
        refine WP.loop (fun m1 g' S' => ∃ (i1 : Int) (i2 : Int), Sub [(0, (mkS p_s)), (3, (.slice ao1 r2.1.length cap1)), (6, (.int .i64 i1)), (33, (.slice ao1 r2.1.length cap1)), (34, (.int .i64 (r2.1.length : Int))), (35, (.int .i64 i2)), (1000000007, (.bool false))] g' ∧ (∀ w', S' w' → St w H [] H1 w') ∧ law12_LexerStands_loop1 p_s r2 k1 m1 i1 i2 = some r) ((Int.toNat ((r2.1.length : Int) - 0) + 1)) ⟨0, 0, (Sub.cons rfl (Sub.cons rfl (Sub.cons rfl (Sub.cons rfl (Sub.cons rfl (Sub.cons rfl (Sub.cons rfl (Sub.nil _)))))))), fun w' s => s, hm⟩ ?_ ?_
        · rintro g' S' ⟨_, _, _, _, hm⟩
          exact none_some hm
        · rintro m1 g' S' ⟨i1, i2, hsub1, hS1, hm⟩
          refine WP.sub hsub1 (WP.weaken hS1 ?_)
          rw [law12_LexerStands_loop1] at hm
          refine WP.seq (WP.region ?_)
          refine wq rfl rfl rfl (ov_lss rfl rfl rfl) ?_
          refine WL.nil (then_normal (WP.seq ?_))
          refine WP.cond rfl (fun hc5 => ?_) (fun hc5 => ?_)
          · replace hm := ite_t hc5 hm
            refine WP.skip (then_normal (WP.seq (WP.block (WP.seq (WP.region ?_)))))
            obtain ⟨x1, e5, hm⟩ := bind_some hm
            obtain ⟨h2, h3, h4, cs1, h5, h6⟩ := h1.get e5 (by decide)
            obtain rfl : cs1 = [(.int .i64 x1.kind), (mkS x1.text), (.int .i64 x1.at_)] := h5
            refine wq rfl rfl rfl (ov_indexAddr Tryd.underlying30 Tryd.sizeOf37 rfl rfl rfl h2 h3 h4) ?_
            refine wq rfl rfl rfl (ov_load_elems (vs := [(.int .i64 x1.kind), (mkS x1.text), (.int .i64 x1.at_)]) Tryd.isAgg37 Tryd.sizeOf37 rfl rfl rfl h6 h4) ?_
            refine WL.step (Runs.free rfl) rfl rfl (os_alloc (cs := [(.int .i64 0), (mkS []), (.int .i64 0)]) Tryd.zeroValue37 rfl rfl (fun b1 => ?_))
            refine WL.step0 (Runs.free rfl) rfl (os_store (i := 0) (vs := [(.int .i64 x1.kind), (mkS x1.text), (.int .i64 x1.at_)]) (cs' := [(.int .i64 x1.kind), (mkS x1.text), (.int .i64 x1.at_)]) Tryd.sizeOf37 rfl rfl rfl rfl rfl rfl rfl rfl rfl ?_)
            refine WL.nil (then_normal (WP.seq (WP.seq ?_)))
            refine WP.region_draws (by kernel_rfl) (by kernel_rfl) (fun _ s => s.drew) ?_
            refine QL.quiet (Runs.free rfl) rfl rfl (OV.quiet (ov_fieldAddr Tryd.underlying37 rfl rfl rfl Tryd.sizeOf3 rfl rfl)) ?_
            refine QL.quiet (Runs.free rfl) rfl rfl (OV.quiet (ov_load_box (i := 0) Tryd.isAgg3 rfl rfl rfl rfl)) ?_
            refine QL.quiet (Runs.free rfl) rfl rfl (OV.quiet (ov_move rfl rfl)) ?_
            refine QL.quiet (Runs.free rfl) rfl rfl (OV.quiet (ov_lss rfl rfl rfl)) ?_
            refine QL.quiet (Runs.free rfl) rfl rfl (OV.quiet (ov_move rfl rfl)) ?_
            refine QL.part_bool 10 53 (x := ((decide (x1.at_ < i1)) || (decide ((IntKind.wrap .i64 (x1.at_ + (x1.text.length : Int))) > (p_s.length : Int))))) ?_ ?_
            · rcases Bool.eq_false_or_eq_true (decide (x1.at_ < i1)) with hc6 | hc6
              · skip
                refine QL.idle (Idle.no rfl rfl rfl hc6) rfl rfl ?_
                refine QL.idle (Idle.no rfl rfl rfl hc6) rfl rfl ?_
                refine QL.idle (Idle.no rfl rfl rfl hc6) rfl rfl ?_
                refine QL.idle (Idle.no rfl rfl rfl hc6) rfl rfl ?_
                refine QL.idle (Idle.no rfl rfl rfl hc6) rfl rfl ?_
                refine QL.idle (Idle.no rfl rfl rfl hc6) rfl rfl ?_
                refine QL.idle (Idle.no rfl rfl rfl hc6) rfl rfl ?_
                refine QL.idle (Idle.no rfl rfl rfl hc6) rfl rfl ?_
                refine QL.idle (Idle.no rfl rfl rfl hc6) rfl rfl ?_
                refine QL.quiet (Runs.free rfl) rfl rfl (OV.quiet (ov_pick_true rfl (guard_eq rfl hc6) rfl)) ?_
                exact QL.nil (Sub.cons' rfl (congrArg Value.bool (orT hc6)) (Sub.skip rfl (Sub.skip rfl (Sub.skip rfl (Sub.skip rfl (Sub.skip rfl (Sub.skip rfl (Sub.skip rfl (Sub.skip rfl (Sub.skip rfl (Sub.skip rfl (Sub.refl _))))))))))))
              · skip
                refine QL.quiet (Runs.yes rfl rfl rfl hc6) rfl rfl (OV.quiet (ov_fieldAddr Tryd.underlying37 rfl rfl rfl Tryd.sizeOf3 rfl rfl)) ?_
                refine QL.quiet (Runs.yes rfl rfl rfl hc6) rfl rfl (OV.quiet (ov_load_box (i := 0) Tryd.isAgg3 rfl rfl rfl rfl)) ?_
                refine QL.quiet (Runs.yes rfl rfl rfl hc6) rfl rfl (OV.quiet (ov_fieldAddr Tryd.underlying37 rfl rfl rfl Tryd.sizeOf9 rfl rfl)) ?_
                refine QL.quiet (Runs.yes rfl rfl rfl hc6) rfl rfl (OV.quiet (ov_load_box (i := 0) Tryd.isAgg9 rfl rfl rfl rfl)) ?_
                refine QL.quiet (Runs.yes rfl rfl rfl hc6) rfl rfl (OV.quiet (ov_len_string Tryd.underlying9 rfl rfl)) ?_
                refine QL.quiet (Runs.yes rfl rfl rfl hc6) rfl rfl (OV.quiet (ov_add rfl rfl rfl)) ?_
                refine QL.quiet (Runs.yes rfl rfl rfl hc6) rfl rfl (OV.quiet (ov_move rfl rfl)) ?_
                refine QL.quiet (Runs.yes rfl rfl rfl hc6) rfl rfl (OV.quiet (ov_len_string Tryd.underlying9 rfl rfl)) ?_
                refine QL.quiet (Runs.yes rfl rfl rfl hc6) rfl rfl (OV.quiet (ov_gtr rfl rfl rfl)) ?_
                refine QL.quiet (Runs.free rfl) rfl rfl (OV.quiet (ov_pick_false rfl (guard_eq rfl hc6) rfl)) ?_
                exact QL.nil (Sub.cons' rfl (congrArg Value.bool (orF hc6)) (Sub.skip rfl (Sub.skip rfl (Sub.skip rfl (Sub.skip rfl (Sub.skip rfl (Sub.skip rfl (Sub.skip rfl (Sub.skip rfl (Sub.skip rfl (Sub.skip rfl (Sub.refl _))))))))))))
            refine QL.quiet (Runs.free rfl) rfl rfl (OV.quiet (ov_move rfl rfl)) ?_
            obtain ⟨c2, e6, hm⟩ := bind_some hm
            refine QL.part_bool 14 68 (x := c2) ?_ ?_
            · rcases Bool.eq_false_or_eq_true ((decide (x1.at_ < i1)) || (decide ((IntKind.wrap .i64 (x1.at_ + (x1.text.length : Int))) > (p_s.length : Int)))) with hc7 | hc7
              · skip
                replace hm := ite_t hc7 e6
                refine QL.idle (Idle.no rfl rfl rfl hc7) rfl rfl ?_
                refine QL.idle (Idle.no rfl rfl rfl hc7) rfl rfl ?_
                refine QL.idle (Idle.no rfl rfl rfl hc7) rfl rfl ?_
                refine QL.idle (Idle.no rfl rfl rfl hc7) rfl rfl ?_
                refine QL.idle (Idle.no rfl rfl rfl hc7) rfl rfl ?_
                refine QL.idle (Idle.no rfl rfl rfl hc7) rfl rfl ?_
                refine QL.idle (Idle.no rfl rfl rfl hc7) rfl rfl ?_
                refine QL.idle (Idle.no rfl rfl rfl hc7) rfl rfl ?_
                refine QL.idle (Idle.no rfl rfl rfl hc7) rfl rfl ?_
                refine QL.idle (Idle.no rfl rfl rfl hc7) rfl rfl ?_
                refine QL.idle (Idle.no rfl rfl rfl hc7) rfl rfl ?_
                refine QL.idle (Idle.no rfl rfl rfl hc7) rfl rfl ?_
                refine QL.idle (Idle.no rfl rfl rfl hc7) rfl rfl ?_
                refine QL.quiet (Runs.free rfl) rfl rfl (OV.quiet (ov_pick_true rfl (guard_eq rfl hc7) rfl)) ?_
                exact QL.nil (Sub.cons' rfl (congrArg Value.bool (Option.some.inj hm)) (Sub.skip rfl (Sub.skip rfl (Sub.skip rfl (Sub.skip rfl (Sub.skip rfl (Sub.skip rfl (Sub.skip rfl (Sub.skip rfl (Sub.skip rfl (Sub.skip rfl (Sub.skip rfl (Sub.skip rfl (Sub.skip rfl (Sub.skip rfl (Sub.refl _))))))))))))))))
              · skip
                replace hm := ite_f hc7 e6
                refine QL.quiet (Runs.yes rfl rfl rfl hc7) rfl rfl (OV.quiet (ov_move rfl rfl)) ?_
                refine QL.quiet (Runs.yes rfl rfl rfl hc7) rfl rfl (OV.quiet (ov_fieldAddr Tryd.underlying37 rfl rfl rfl Tryd.sizeOf3 rfl rfl)) ?_
                refine QL.quiet (Runs.yes rfl rfl rfl hc7) rfl rfl (OV.quiet (ov_load_box (i := 0) Tryd.isAgg3 rfl rfl rfl rfl)) ?_
                refine QL.quiet (Runs.yes rfl rfl rfl hc7) rfl rfl (OV.quiet (ov_fieldAddr Tryd.underlying37 rfl rfl rfl Tryd.sizeOf3 rfl rfl)) ?_
                refine QL.quiet (Runs.yes rfl rfl rfl hc7) rfl rfl (OV.quiet (ov_load_box (i := 0) Tryd.isAgg3 rfl rfl rfl rfl)) ?_
                refine QL.quiet (Runs.yes rfl rfl rfl hc7) rfl rfl (OV.quiet (ov_fieldAddr Tryd.underlying37 rfl rfl rfl Tryd.sizeOf9 rfl rfl)) ?_
                refine QL.quiet (Runs.yes rfl rfl rfl hc7) rfl rfl (OV.quiet (ov_load_box (i := 0) Tryd.isAgg9 rfl rfl rfl rfl)) ?_
                refine QL.quiet (Runs.yes rfl rfl rfl hc7) rfl rfl (OV.quiet (ov_len_string Tryd.underlying9 rfl rfl)) ?_
                refine QL.quiet (Runs.yes rfl rfl rfl hc7) rfl rfl (OV.quiet (ov_add rfl rfl rfl)) ?_
                obtain ⟨s1, e7, hm⟩ := bind_some hm
                refine QL.quiet (Runs.yes rfl rfl rfl hc7) rfl rfl (OV.quiet (ov_slice_string Tryd.underlying9 rfl rfl rfl rfl e7)) ?_
                refine QL.quiet (Runs.yes rfl rfl rfl hc7) rfl rfl (OV.quiet (ov_fieldAddr Tryd.underlying37 rfl rfl rfl Tryd.sizeOf9 rfl rfl)) ?_
                refine QL.quiet (Runs.yes rfl rfl rfl hc7) rfl rfl (OV.quiet (ov_load_box (i := 0) Tryd.isAgg9 rfl rfl rfl rfl)) ?_
                refine QL.quiet (Runs.yes rfl rfl rfl hc7) rfl rfl (OV.quiet (ov_sneq rfl rfl rfl)) ?_
                refine QL.quiet (Runs.free rfl) rfl rfl (OV.quiet (ov_pick_false rfl (guard_eq rfl hc7) rfl)) ?_
                exact QL.nil (Sub.cons' rfl (congrArg Value.bool (Option.some.inj hm)) (Sub.skip rfl (Sub.skip rfl (Sub.skip rfl (Sub.skip rfl (Sub.skip rfl (Sub.skip rfl (Sub.skip rfl (Sub.skip rfl (Sub.skip rfl (Sub.skip rfl (Sub.skip rfl (Sub.skip rfl (Sub.skip rfl (Sub.skip rfl (Sub.refl _))))))))))))))))
            refine QL.quiet (Runs.free rfl) rfl rfl (OV.quiet (ov_move rfl rfl)) ?_
            obtain ⟨c3, e8, hm⟩ := bind_some hm
            refine QL.part_bool 8 77 (x := c3) ?_ ?_
            · rcases Bool.eq_false_or_eq_true c2 with hc8 | hc8
              · skip
                replace hm := ite_t hc8 e8
                refine QL.idle (Idle.no rfl rfl rfl hc8) rfl rfl ?_
                refine QL.idle (Idle.no rfl rfl rfl hc8) rfl rfl ?_
                refine QL.idle (Idle.no rfl rfl rfl hc8) rfl rfl ?_
                refine QL.idle (Idle.no rfl rfl rfl hc8) rfl rfl ?_
                refine QL.idle (Idle.no rfl rfl rfl hc8) rfl rfl ?_
                refine QL.idle (Idle.no rfl rfl rfl hc8) rfl rfl ?_
                refine QL.idle (Idle.no rfl rfl rfl hc8) rfl rfl ?_
                refine QL.quiet (Runs.free rfl) rfl rfl (OV.quiet (ov_pick_true rfl (guard_eq rfl hc8) rfl)) ?_
                exact QL.nil (Sub.cons' rfl (congrArg Value.bool (Option.some.inj hm)) (Sub.skip rfl (Sub.skip rfl (Sub.skip rfl (Sub.skip rfl (Sub.skip rfl (Sub.skip rfl (Sub.skip rfl (Sub.skip rfl (Sub.refl _))))))))))
              · skip
                replace hm := ite_f hc8 e8
                refine QL.quiet (Runs.yes rfl rfl rfl hc8) rfl rfl (OV.quiet (ov_move rfl rfl)) ?_
                refine QL.quiet (Runs.yes rfl rfl rfl hc8) rfl rfl (OV.quiet (ov_move rfl rfl)) ?_
                refine QL.quiet (Runs.yes rfl rfl rfl hc8) rfl rfl (OV.quiet (ov_fieldAddr Tryd.underlying37 rfl rfl rfl Tryd.sizeOf3 rfl rfl)) ?_
                refine QL.quiet (Runs.yes rfl rfl rfl hc8) rfl rfl (OV.quiet (ov_load_box (i := 0) Tryd.isAgg3 rfl rfl rfl rfl)) ?_
                obtain ⟨s2, e9, hm⟩ := bind_some hm
                refine QL.quiet (Runs.yes rfl rfl rfl hc8) rfl rfl (OV.quiet (ov_slice_string Tryd.underlying9 rfl rfl rfl rfl e9)) ?_
                obtain ⟨r4, e10, hm⟩ := bind_some hm
                refine QL.quiet (Runs.yes rfl rfl rfl hc8) rfl rfl (oq_con (r := (mkS r4)) Tryd.call42 rfl rfl (fun w' s => ⟨_, (trimS_con s2 [32, 10]  w' H1 s.hold hG r4 e10)⟩)) ?_
                refine QL.quiet (Runs.yes rfl rfl rfl hc8) rfl rfl (OV.quiet (ov_sneq rfl rfl rfl)) ?_
                refine QL.quiet (Runs.free rfl) rfl rfl (OV.quiet (ov_pick_false rfl (guard_eq rfl hc8) rfl)) ?_
                exact QL.nil (Sub.cons' rfl (congrArg Value.bool (Option.some.inj hm)) (Sub.skip rfl (Sub.skip rfl (Sub.skip rfl (Sub.skip rfl (Sub.skip rfl (Sub.skip rfl (Sub.skip rfl (Sub.skip rfl (Sub.refl _))))))))))
            refine QL.nil ?_
            refine then_normal ?_
            refine WP.cond rfl (fun hc9 => ?_) (fun hc9 => ?_)
            · replace hm := ite_t hc9 hm
              refine WP.seq (WP.region ?_)
              refine wq rfl rfl rfl (ov_assign rfl rfl) ?_
              refine WL.nil (then_normal (WP.ret (then_ret (block_ret (then_ret (then_ret (block_ret (then_ret ?_))))))))
              obtain rfl := Option.some.inj hm
              refine retQ_ret Tryd.results10 (Res.tmp rfl Res.nil) rfl (fun w' s => ⟨s.below, ?_⟩)
              exact rfl
            · replace hm := ite_f hc9 hm
              refine WP.skip (then_normal (WP.region ?_))
              refine wq rfl rfl rfl (ov_fieldAddr Tryd.underlying37 rfl rfl rfl Tryd.sizeOf3 rfl rfl) ?_
              refine wq rfl rfl rfl (ov_load_box (i := 0) Tryd.isAgg3 rfl rfl rfl rfl) ?_
              refine wq rfl rfl rfl (ov_fieldAddr Tryd.underlying37 rfl rfl rfl Tryd.sizeOf9 rfl rfl) ?_
              refine wq rfl rfl rfl (ov_load_box (i := 0) Tryd.isAgg9 rfl rfl rfl rfl) ?_
              refine wq rfl rfl rfl (ov_len_string Tryd.underlying9 rfl rfl) ?_
              refine wq rfl rfl rfl (ov_add rfl rfl rfl) ?_
              refine wq rfl rfl rfl (ov_assign rfl rfl) ?_
              refine WL.nil (block_normal (then_normal (WP.region ?_)))
              refine wq rfl rfl rfl (ov_add rfl rfl rfl) ?_
              refine wq rfl rfl rfl (ov_move rfl rfl) ?_
              refine WL.nil (then_normal ?_)
              exact ⟨(IntKind.wrap .i64 (x1.at_ + (x1.text.length : Int))), (IntKind.wrap .i64 (i2 + 1)), (Sub.cons rfl (Sub.cons rfl (Sub.cons rfl (Sub.cons rfl (Sub.cons rfl (Sub.cons rfl (Sub.cons rfl (Sub.nil _)))))))), fun w' s => (s.select [] (by decide) rfl), hm⟩
          · replace hm := ite_f hc5 hm
            refine WP.exit (then_exit (then_exit (block_here (then_normal ?_))))
            exact ⟨i1, (Sub.cons rfl (Sub.cons rfl (Sub.cons rfl (Sub.cons rfl (Sub.nil _))))), fun w' s => s, hm⟩
      · rintro g' S' ⟨i3, hsub2, hS2, hm⟩
        refine WP.sub hsub2 (WP.weaken hS2 ?_)
        replace hm := (congrFun hk1 i3).symm.trans hm
        refine WP.seq (WP.region ?_)
        refine wq rfl rfl rfl (ov_move rfl rfl) ?_
        obtain ⟨r5, e11, hm⟩ := bind_some hm
        refine WL.quiet (Runs.free rfl) rfl rfl (oq_con (r := (.tuple #[(mkS r5.1), (.int .i64 r5.2)])) Tryd.call24 rfl rfl (fun w' s => ⟨_, (lexer_Join_con r2.1 ao1 cap1  w' H1 s.hold h1 hc2 hG r5 e11)⟩)) ?_
        refine wq rfl rfl rfl (ov_move rfl rfl) ?_
        refine wq rfl rfl rfl (ov_extract rfl rfl rfl) ?_
        refine wq rfl rfl rfl (ov_extract rfl rfl rfl) ?_
        refine wq rfl rfl rfl (ov_assign rfl rfl) ?_
        refine wq rfl rfl rfl (ov_assign rfl rfl) ?_
        refine WL.nil (then_normal (WP.seq (WP.region ?_)))
        refine wq rfl rfl rfl (ov_move rfl rfl) ?_
        obtain ⟨r6, e12, hm⟩ := bind_some hm
        refine WL.step (Runs.free rfl) rfl rfl (os_con Tryd.call15 rfl rfl (fun w' s => (lexer_Scan_con r5.1  w' H1 s.hold hG r6 e12)) (fun rr2 H2 hle2 hR2 => ?_))
        replace h1 := h1.mono hle2
        replace hG := hG.mono hle2
        obtain ⟨ao2, cap2, rfl, h7, hc10⟩ := hR2
        refine wq rfl rfl rfl (ov_move rfl rfl) ?_
        refine wq rfl rfl rfl (ov_extract rfl rfl rfl) ?_
        refine wq rfl rfl rfl (ov_extract rfl rfl rfl) ?_
        refine wq rfl rfl rfl (ov_extract rfl rfl rfl) ?_
        refine wq rfl rfl rfl (ov_assign rfl rfl) ?_
        refine wq rfl rfl rfl (ov_assign rfl rfl) ?_
        refine wq rfl rfl rfl (ov_assign rfl rfl) ?_
        refine WL.nil (then_normal (WP.seq (WP.region ?_)))
        refine wq rfl rfl rfl (ov_move rfl rfl) ?_
        obtain ⟨r7, e13, hm⟩ := bind_some hm
        refine WL.quiet (Runs.free rfl) rfl rfl (oq_con (r := (.tuple #[(mkS r7.1), (.int .i64 r7.2)])) Tryd.call24 rfl rfl (fun w' s => ⟨_, (lexer_Join_con r6.1 ao2 cap2  w' H2 s.hold h7 hc10 hG r7 e13)⟩)) ?_
        refine wq rfl rfl rfl (ov_move rfl rfl) ?_
        refine wq rfl rfl rfl (ov_extract rfl rfl rfl) ?_
        refine wq rfl rfl rfl (ov_extract rfl rfl rfl) ?_
        refine wq rfl rfl rfl (ov_assign rfl rfl) ?_
        refine wq rfl rfl rfl (ov_assign rfl rfl) ?_
        refine WL.nil (then_normal (WP.seq (WP.region ?_)))
        refine wq rfl rfl rfl (ov_move rfl rfl) ?_
        refine wq rfl rfl rfl (ov_move rfl rfl) ?_
        refine wq rfl rfl rfl (ov_add rfl rfl rfl) ?_
        refine wq rfl rfl rfl (ov_move rfl rfl) ?_
        refine wq rfl rfl rfl (ov_add rfl rfl rfl) ?_
        refine wq rfl rfl rfl (ov_eql rfl rfl rfl) ?_
        refine wq rfl rfl rfl (ov_move rfl rfl) ?_
        refine WL.cut_bool 5 112 (x := (((IntKind.wrap .i64 ((IntKind.wrap .i64 (r5.2 + r6.2.2)) + r7.2)) == 0) && (i3 == (p_s.length : Int)))) ?_ ?_
        · rcases Bool.eq_false_or_eq_true ((IntKind.wrap .i64 ((IntKind.wrap .i64 (r5.2 + r6.2.2)) + r7.2)) == 0) with hc11 | hc11
          · skip
            refine WL.quiet (Runs.yes rfl rfl rfl hc11) rfl rfl (OV.quiet (ov_move rfl rfl)) ?_
            refine WL.quiet (Runs.yes rfl rfl rfl hc11) rfl rfl (OV.quiet (ov_move rfl rfl)) ?_
            refine WL.quiet (Runs.yes rfl rfl rfl hc11) rfl rfl (OV.quiet (ov_len_string Tryd.underlying9 rfl rfl)) ?_
            refine WL.quiet (Runs.yes rfl rfl rfl hc11) rfl rfl (OV.quiet (ov_eql rfl rfl rfl)) ?_
            refine wq rfl rfl rfl (ov_pick_true rfl (guard_eq rfl hc11) rfl) ?_
            exact WL.nil ⟨Sub.cons' rfl (congrArg Value.bool (andT hc11)) (Sub.skip rfl (Sub.skip rfl (Sub.skip rfl (Sub.skip rfl (Sub.skip rfl (Sub.refl _)))))), fun _ s => s⟩
          · skip
            refine WL.idle (Idle.no rfl rfl rfl hc11) rfl rfl ?_
            refine WL.idle (Idle.no rfl rfl rfl hc11) rfl rfl ?_
            refine WL.idle (Idle.no rfl rfl rfl hc11) rfl rfl ?_
            refine WL.idle (Idle.no rfl rfl rfl hc11) rfl rfl ?_
            refine wq rfl rfl rfl (ov_pick_false rfl (guard_eq rfl hc11) rfl) ?_
            exact WL.nil ⟨Sub.cons' rfl (congrArg Value.bool (andF hc11)) (Sub.skip rfl (Sub.skip rfl (Sub.skip rfl (Sub.skip rfl (Sub.skip rfl (Sub.refl _)))))), fun _ s => s⟩
        refine wq rfl rfl rfl (ov_move rfl rfl) ?_
        obtain ⟨c4, e14, hm⟩ := bind_some hm
        refine WL.cut_bool 6 119 (x := c4) ?_ ?_
        · rcases Bool.eq_false_or_eq_true (((IntKind.wrap .i64 ((IntKind.wrap .i64 (r5.2 + r6.2.2)) + r7.2)) == 0) && (i3 == (p_s.length : Int))) with hc12 | hc12
          · skip
            replace hm := ite_t hc12 e14
            refine WL.quiet (Runs.yes rfl rfl rfl hc12) rfl rfl (OV.quiet (ov_move rfl rfl)) ?_
            obtain ⟨r8, e15, hm⟩ := bind_some hm
            refine WL.step (Runs.yes rfl rfl rfl hc12) rfl rfl (os_con Tryd.call43 rfl rfl (fun w' s => (law12_bare_con r2.1 ao1 cap1  w' H2 s.hold h1 hc2 hG r8 e15)) (fun rr3 H3 hle3 hR3 => ?_))
            replace h1 := h1.mono hle3
            replace h7 := h7.mono hle3
            replace hG := hG.mono hle3
            obtain ⟨ao3, cap3, rfl, h8, hc13⟩ := hR3
            refine WL.quiet (Runs.yes rfl rfl rfl hc12) rfl rfl (OV.quiet (ov_move rfl rfl)) ?_
            obtain ⟨r9, e16, hm⟩ := bind_some hm
            refine WL.step (Runs.yes rfl rfl rfl hc12) rfl rfl (os_con Tryd.call43 rfl rfl (fun w' s => (law12_bare_con r6.1 ao2 cap2  w' H3 s.hold h7 hc10 hG r9 e16)) (fun rr4 H4 hle4 hR4 => ?_))
            replace h1 := h1.mono hle4
            replace h7 := h7.mono hle4
            replace h8 := h8.mono hle4
            replace hG := hG.mono hle4
            obtain ⟨ao4, cap4, rfl, h9, hc14⟩ := hR4
            obtain ⟨r10, e17, hm⟩ := bind_some hm
            refine WL.quiet (Runs.yes rfl rfl rfl hc12) rfl rfl (oq_con (r := (.bool r10)) Tryd.call17 rfl rfl (fun w' s => ⟨_, (slices_Equal_api_Tokenapi_Token_con r8 r9 ao3 cap3 ao4 cap4  w' H4 s.hold h8 hc13 h9 hc14 hG r10 e17)⟩)) ?_
            refine wq rfl rfl rfl (ov_pick_true rfl (guard_eq rfl hc12) rfl) ?_
            exact WL.nil ⟨Sub.cons' rfl (congrArg Value.bool (Option.some.inj hm)) (Sub.skip rfl (Sub.skip rfl (Sub.skip rfl (Sub.skip rfl (Sub.skip rfl (Sub.skip rfl (Sub.refl _))))))), fun _ s => (s.heap (hle3.trans hle4))⟩
          · skip
            replace hm := ite_f hc12 e14
            refine WL.idle (Idle.no rfl rfl rfl hc12) rfl rfl ?_
            refine WL.idle (Idle.no rfl rfl rfl hc12) rfl rfl ?_
            refine WL.idle (Idle.no rfl rfl rfl hc12) rfl rfl ?_
            refine WL.idle (Idle.no rfl rfl rfl hc12) rfl rfl ?_
            refine WL.idle (Idle.no rfl rfl rfl hc12) rfl rfl ?_
            refine wq rfl rfl rfl (ov_pick_false rfl (guard_eq rfl hc12) rfl) ?_
            exact WL.nil ⟨Sub.cons' rfl (congrArg Value.bool (Option.some.inj hm)) (Sub.skip rfl (Sub.skip rfl (Sub.skip rfl (Sub.skip rfl (Sub.skip rfl (Sub.skip rfl (Sub.refl _))))))), fun _ s => s⟩
        refine wq rfl rfl rfl (ov_move rfl rfl) ?_
        refine WL.cut_bool 4 124 (x := (c4 && (r7.1 == r5.1))) ?_ ?_
        · rcases Bool.eq_false_or_eq_true c4 with hc15 | hc15
          · skip
            refine WL.quiet (Runs.yes rfl rfl rfl hc15) rfl rfl (OV.quiet (ov_move rfl rfl)) ?_
            refine WL.quiet (Runs.yes rfl rfl rfl hc15) rfl rfl (OV.quiet (ov_move rfl rfl)) ?_
            refine WL.quiet (Runs.yes rfl rfl rfl hc15) rfl rfl (OV.quiet (ov_seql rfl rfl rfl)) ?_
            refine wq rfl rfl rfl (ov_pick_true rfl (guard_eq rfl hc15) rfl) ?_
            exact WL.nil ⟨Sub.cons' rfl (congrArg Value.bool (andT hc15)) (Sub.skip rfl (Sub.skip rfl (Sub.skip rfl (Sub.skip rfl (Sub.refl _))))), fun _ s => s⟩
          · skip
            refine WL.idle (Idle.no rfl rfl rfl hc15) rfl rfl ?_
            refine WL.idle (Idle.no rfl rfl rfl hc15) rfl rfl ?_
            refine WL.idle (Idle.no rfl rfl rfl hc15) rfl rfl ?_
            refine wq rfl rfl rfl (ov_pick_false rfl (guard_eq rfl hc15) rfl) ?_
            exact WL.nil ⟨Sub.cons' rfl (congrArg Value.bool (andF hc15)) (Sub.skip rfl (Sub.skip rfl (Sub.skip rfl (Sub.skip rfl (Sub.refl _))))), fun _ s => s⟩
        refine wq rfl rfl rfl (ov_move rfl rfl) ?_
        obtain ⟨c5, e18, hm⟩ := bind_some hm
        refine WL.cut_bool 2 127 (x := c5) ?_ ?_
        · rcases Bool.eq_false_or_eq_true (c4 && (r7.1 == r5.1)) with hc16 | hc16
          · skip
            replace hm := ite_t hc16 e18
            obtain ⟨r11, e19, hm⟩ := bind_some hm
            refine WL.quiet (Runs.yes rfl rfl rfl hc16) rfl rfl (oq_con (r := (.bool r11)) Tryd.call12 rfl rfl (fun w' s => ⟨_, (law12_awake_con   w' H2 s.hold hG r11 e19)⟩)) ?_
            refine wq rfl rfl rfl (ov_pick_true rfl (guard_eq rfl hc16) rfl) ?_
            exact WL.nil ⟨Sub.cons' rfl (congrArg Value.bool (Option.some.inj hm)) (Sub.skip rfl (Sub.skip rfl (Sub.refl _))), fun _ s => s⟩
          · skip
            replace hm := ite_f hc16 e18
            refine WL.idle (Idle.no rfl rfl rfl hc16) rfl rfl ?_
            refine wq rfl rfl rfl (ov_pick_false rfl (guard_eq rfl hc16) rfl) ?_
            exact WL.nil ⟨Sub.cons' rfl (congrArg Value.bool (Option.some.inj hm)) (Sub.skip rfl (Sub.skip rfl (Sub.refl _))), fun _ s => s⟩
        refine wq rfl rfl rfl (ov_assign rfl rfl) ?_
        refine WL.nil (then_normal (WP.ret ?_))
        obtain rfl := Option.some.inj hm
        refine retQ_ret Tryd.results10 (Res.tmp rfl Res.nil) rfl (fun w' s => ⟨s.below, ?_⟩)
        exact rfl

end Go.Proofs.YtmfphbdafgmplaaDoor.W
