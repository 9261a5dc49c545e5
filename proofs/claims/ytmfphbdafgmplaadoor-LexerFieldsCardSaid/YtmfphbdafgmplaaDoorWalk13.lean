/- The walks. Written by our own program gen.py; Lean checks it. -/
import Derived.Test.YtmfphbdafgmplaaDoorPlain
import Derived.Test.YtmfphbdafgmplaaDoorEqs
import Derived.Test.YtmfphbdafgmplaaDoorProg
import Derived.Test.YtmfphbdafgmplaaDoorExt
import Derived.Test.YtmfphbdafgmplaaDoorClone
import Derived.Test.YtmfphbdafgmplaaDoorBuild
import Derived.Test.YtmfphbdafgmplaaDoorWalk0
import Derived.Test.YtmfphbdafgmplaaDoorWalk3
import Derived.Test.YtmfphbdafgmplaaDoorWalk6
set_option linter.unusedVariables false
set_option maxRecDepth 100000
set_option maxHeartbeats 4000000
namespace Go.Proofs.YtmfphbdafgmplaaDoor.W
open Go Go.RowKit
theorem law12_LexerFields_con (p_s : (List UInt8)) (w : World) (H : Heap) (hH : Le H (hp w)) (hG : Glob H) (r : Bool) (hm : law12_LexerFields p_s = some r) :
    Con Tryd.prog 9 [(mkS p_s)] w H (fun v _ => v = (.bool r)) := by
  unfold law12_LexerFields at hm
  refine con_of hH Tryd.func9 rfl 40 Tryd.ntmps9 rfl ?_
  refine WP.seq (WP.region ?_)
  refine wq rfl rfl rfl (ov_assign rfl rfl) ?_
  refine WL.nil (then_normal (WP.seq (WP.seq (WP.region ?_))))
  refine wq rfl rfl rfl (ov_move rfl rfl) ?_
  refine wq rfl rfl rfl (ov_len_string Tryd.underlying9 rfl rfl) ?_
  refine wq rfl rfl rfl (ov_gtr rfl rfl rfl) ?_
  refine WL.nil (then_normal ?_)
  refine WP.cond rfl (fun hc1 => ?_) (fun hc1 => ?_)
  · replace hm := ite_t hc1 hm
    refine WP.seq (WP.region ?_)
    obtain ⟨r1, e1, hm⟩ := bind_some hm
    refine WL.quiet (Runs.free rfl) rfl rfl (oq_con (r := (.bool r1)) Tryd.call12 rfl rfl (fun w' s => ⟨_, (law12_awake_con   w' H s.hold hG r1 e1)⟩)) ?_
    refine wq rfl rfl rfl (ov_assign rfl rfl) ?_
    refine WL.nil (then_normal (WP.ret (then_ret ?_)))
    obtain rfl := Option.some.inj hm
    refine retQ_ret Tryd.results9 (Res.tmp rfl Res.nil) rfl (fun w' s => ⟨s.below, ?_⟩)
    exact rfl
  · replace hm := ite_f hc1 hm
    refine WP.skip (then_normal (WP.seq (WP.region ?_)))
    refine wq rfl rfl rfl (ov_move rfl rfl) ?_
    obtain ⟨r2, e2, hm⟩ := bind_some hm
    refine WL.step (Runs.free rfl) rfl rfl (os_con Tryd.call37 rfl rfl (fun w' s => (lexer_Fields_con p_s  w' H s.hold hG r2 e2)) (fun rr1 H1 hle1 hR1 => ?_))
    replace hG := hG.mono hle1
    obtain ⟨ao1, cap1, rfl, h1, hc2⟩ := hR1
    refine wq rfl rfl rfl (ov_assign rfl rfl) ?_
    refine WL.nil (then_normal ?_)
    obtain ⟨k1, hk1, hm⟩ := joinK_some hm
    refine WP.seq_join (fun g' S' => Sub [(0, (mkS p_s)), (3, (.slice ao1 r2.length cap1)), (1000000007, (.bool false))] g' ∧ (∀ w', S' w' → St w H [] H1 w') ∧ k1 = some r) ?_ ?_
    · skip
      refine WP.seq (WP.region ?_)
      refine wq rfl rfl rfl (ov_move rfl rfl) ?_
      refine wq rfl rfl rfl (ov_len_slice Tryd.underlying44 rfl rfl) ?_
      refine wq rfl rfl rfl (ov_move rfl rfl) ?_
      refine WL.nil (then_normal (WP.block ?_))
      refine WP.loop (fun m1 g' S' => ∃ (i1 : Int), Sub [(0, (mkS p_s)), (3, (.slice ao1 r2.length cap1)), (12, (.slice ao1 r2.length cap1)), (13, (.int .i64 (r2.length : Int))), (14, (.int .i64 i1)), (1000000007, (.bool false))] g' ∧ (∀ w', S' w' → St w H [] H1 w') ∧ law12_LexerFields_loop1 r2 k1 m1 i1 = some r) ((Int.toNat ((r2.length : Int) - 0) + 1)) ⟨0, (Sub.cons rfl (Sub.cons rfl (Sub.cons rfl (Sub.cons rfl (Sub.cons rfl (Sub.cons rfl (Sub.nil _))))))), fun w' s => s, hm⟩ ?_ ?_
      · rintro g' S' ⟨_, _, _, hm⟩
        exact none_some hm
      · rintro m1 g' S' ⟨i1, hsub1, hS1, hm⟩
        refine WP.sub hsub1 (WP.weaken hS1 ?_)
        rw [law12_LexerFields_loop1] at hm
        refine WP.seq (WP.region ?_)
        refine wq rfl rfl rfl (ov_lss rfl rfl rfl) ?_
        refine WL.nil (then_normal (WP.seq ?_))
        refine WP.cond rfl (fun hc3 => ?_) (fun hc3 => ?_)
        · replace hm := ite_t hc3 hm
          refine WP.skip (then_normal (WP.seq (WP.block (WP.seq (WP.region ?_)))))
          obtain ⟨x1, e3, hm⟩ := bind_some hm
          obtain ⟨h2, h3, h4, cs1, h5, h6⟩ := h1.get e3 (by decide)
          obtain rfl : cs1 = [(mkS x1)] := h5
          refine wq rfl rfl rfl (ov_indexAddr Tryd.underlying44 Tryd.sizeOf9 rfl rfl rfl h2 h3 h4) ?_
          refine wq rfl rfl rfl (ov_load_elem (v := (mkS x1)) Tryd.isAgg9 rfl rfl h6) ?_
          refine wq rfl rfl rfl (ov_assign rfl rfl) ?_
          refine WL.nil (then_normal (WP.seq (WP.region ?_)))
          refine wq rfl rfl rfl (ov_move rfl rfl) ?_
          refine wq rfl rfl rfl (ov_seql rfl rfl rfl) ?_
          refine wq rfl rfl rfl (ov_move rfl rfl) ?_
          obtain ⟨c1, e4, hm⟩ := bind_some hm
          refine WL.cut_bool 3 23 (x := c1) ?_ ?_
          · rcases Bool.eq_false_or_eq_true (x1 == []) with hc4 | hc4
            · skip
              replace hm := ite_t hc4 e4
              refine WL.idle (Idle.no rfl rfl rfl hc4) rfl rfl ?_
              refine WL.idle (Idle.no rfl rfl rfl hc4) rfl rfl ?_
              refine wq rfl rfl rfl (ov_pick_true rfl (guard_eq rfl hc4) rfl) ?_
              exact WL.nil ⟨Sub.cons' rfl (congrArg Value.bool (Option.some.inj hm)) (Sub.skip rfl (Sub.skip rfl (Sub.skip rfl (Sub.refl _)))), fun _ s => s⟩
            · skip
              replace hm := ite_f hc4 e4
              refine WL.quiet (Runs.yes rfl rfl rfl hc4) rfl rfl (OV.quiet (ov_move rfl rfl)) ?_
              obtain ⟨r3, e5, hm⟩ := bind_some hm
              refine WL.quiet (Runs.yes rfl rfl rfl hc4) rfl rfl (oq_con (r := (.bool r3)) Tryd.call39 rfl rfl (fun w' s => ⟨_, (strings_Contains_con x1 [32]  w' H1 s.hold hG r3 e5)⟩)) ?_
              refine wq rfl rfl rfl (ov_pick_false rfl (guard_eq rfl hc4) rfl) ?_
              exact WL.nil ⟨Sub.cons' rfl (congrArg Value.bool (Option.some.inj hm)) (Sub.skip rfl (Sub.skip rfl (Sub.skip rfl (Sub.refl _)))), fun _ s => s⟩
          refine WL.nil (then_normal ?_)
          refine WP.cond rfl (fun hc5 => ?_) (fun hc5 => ?_)
          · replace hm := ite_t hc5 hm
            refine WP.seq (WP.region ?_)
            refine wq rfl rfl rfl (ov_assign rfl rfl) ?_
            refine WL.nil (then_normal (WP.ret (block_ret (then_ret (then_ret (block_ret (then_ret ?_)))))))
            obtain rfl := Option.some.inj hm
            refine retQ_ret Tryd.results9 (Res.tmp rfl Res.nil) rfl (fun w' s => ⟨s.below, ?_⟩)
            exact rfl
          · replace hm := ite_f hc5 hm
            refine WP.skip (block_normal (then_normal (WP.region ?_)))
            refine wq rfl rfl rfl (ov_add rfl rfl rfl) ?_
            refine wq rfl rfl rfl (ov_move rfl rfl) ?_
            refine WL.nil (then_normal ?_)
            exact ⟨(IntKind.wrap .i64 (i1 + 1)), (Sub.cons rfl (Sub.cons rfl (Sub.cons rfl (Sub.cons rfl (Sub.cons rfl (Sub.cons rfl (Sub.nil _))))))), fun w' s => s, hm⟩
        · replace hm := ite_f hc3 hm
          refine WP.exit (then_exit (then_exit (block_here (then_normal ?_))))
          exact ⟨(Sub.cons rfl (Sub.cons rfl (Sub.cons rfl (Sub.nil _)))), fun w' s => s, hm⟩
    · rintro g' S' ⟨hsub2, hS2, hm⟩
      refine WP.sub hsub2 (WP.weaken hS2 ?_)
      replace hm := hk1.symm.trans hm
      refine WP.seq (WP.region ?_)
      refine wq rfl rfl rfl (ov_move rfl rfl) ?_
      obtain ⟨r4, e6, hm⟩ := bind_some hm
      refine WL.quiet (Runs.free rfl) rfl rfl (oq_con (r := (mkS r4)) Tryd.call40 rfl rfl (fun w' s => ⟨_, (joinS_con r2 [] ao1 cap1  w' H1 s.hold h1 hc2 hG r4 e6)⟩)) ?_
      refine wq rfl rfl rfl (ov_move rfl rfl) ?_
      obtain ⟨r5, e7, hm⟩ := bind_some hm
      refine WL.quiet (Runs.free rfl) rfl rfl (oq_con (r := (mkS r5)) Tryd.call41 rfl rfl (fun w' s => ⟨_, (replAll_con p_s [32] []  w' H1 s.hold hG r5 e7)⟩)) ?_
      refine wq rfl rfl rfl (ov_seql rfl rfl rfl) ?_
      refine wq rfl rfl rfl (ov_move rfl rfl) ?_
      obtain ⟨c2, e8, hm⟩ := bind_some hm
      refine WL.cut_bool 6 36 (x := c2) ?_ ?_
      · rcases Bool.eq_false_or_eq_true (r4 == r5) with hc6 | hc6
        · skip
          replace hm := ite_t hc6 e8
          refine WL.quiet (Runs.yes rfl rfl rfl hc6) rfl rfl (OV.quiet (ov_move rfl rfl)) ?_
          obtain ⟨r6, e9, hm⟩ := bind_some hm
          refine WL.quiet (Runs.yes rfl rfl rfl hc6) rfl rfl (oq_con (r := (mkS r6)) Tryd.call40 rfl rfl (fun w' s => ⟨_, (joinS_con r2 [32] ao1 cap1  w' H1 s.hold h1 hc2 hG r6 e9)⟩)) ?_
          obtain ⟨r7, e10, hm⟩ := bind_some hm
          refine WL.step (Runs.yes rfl rfl rfl hc6) rfl rfl (os_con Tryd.call37 rfl rfl (fun w' s => (lexer_Fields_con r6  w' H1 s.hold hG r7 e10)) (fun rr2 H2 hle2 hR2 => ?_))
          replace h1 := h1.mono hle2
          replace hG := hG.mono hle2
          obtain ⟨ao2, cap2, rfl, h7, hc7⟩ := hR2
          refine WL.quiet (Runs.yes rfl rfl rfl hc6) rfl rfl (OV.quiet (ov_move rfl rfl)) ?_
          obtain ⟨r8, e11, hm⟩ := bind_some hm
          refine WL.quiet (Runs.yes rfl rfl rfl hc6) rfl rfl (oq_con (r := (.bool r8)) Tryd.call30 rfl rfl (fun w' s => ⟨_, (slices_Equal_stringstring_con r7 r2 ao2 cap2 ao1 cap1  w' H2 s.hold h7 hc7 h1 hc2 hG r8 e11)⟩)) ?_
          refine wq rfl rfl rfl (ov_pick_true rfl (guard_eq rfl hc6) rfl) ?_
          exact WL.nil ⟨Sub.cons' rfl (congrArg Value.bool (Option.some.inj hm)) (Sub.skip rfl (Sub.skip rfl (Sub.skip rfl (Sub.skip rfl (Sub.skip rfl (Sub.skip rfl (Sub.refl _))))))), fun _ s => (s.heap hle2)⟩
        · skip
          replace hm := ite_f hc6 e8
          refine WL.idle (Idle.no rfl rfl rfl hc6) rfl rfl ?_
          refine WL.idle (Idle.no rfl rfl rfl hc6) rfl rfl ?_
          refine WL.idle (Idle.no rfl rfl rfl hc6) rfl rfl ?_
          refine WL.idle (Idle.no rfl rfl rfl hc6) rfl rfl ?_
          refine WL.idle (Idle.no rfl rfl rfl hc6) rfl rfl ?_
          refine wq rfl rfl rfl (ov_pick_false rfl (guard_eq rfl hc6) rfl) ?_
          exact WL.nil ⟨Sub.cons' rfl (congrArg Value.bool (Option.some.inj hm)) (Sub.skip rfl (Sub.skip rfl (Sub.skip rfl (Sub.skip rfl (Sub.skip rfl (Sub.skip rfl (Sub.refl _))))))), fun _ s => s⟩
      refine wq rfl rfl rfl (ov_move rfl rfl) ?_
      obtain ⟨c3, e12, hm⟩ := bind_some hm
      refine WL.cut_bool 2 39 (x := c3) ?_ ?_
      · rcases Bool.eq_false_or_eq_true c2 with hc8 | hc8
        · skip
          replace hm := ite_t hc8 e12
          obtain ⟨r9, e13, hm⟩ := bind_some hm
          refine WL.quiet (Runs.yes rfl rfl rfl hc8) rfl rfl (oq_con (r := (.bool r9)) Tryd.call12 rfl rfl (fun w' s => ⟨_, (law12_awake_con   w' H1 s.hold hG r9 e13)⟩)) ?_
          refine wq rfl rfl rfl (ov_pick_true rfl (guard_eq rfl hc8) rfl) ?_
          exact WL.nil ⟨Sub.cons' rfl (congrArg Value.bool (Option.some.inj hm)) (Sub.skip rfl (Sub.skip rfl (Sub.refl _))), fun _ s => s⟩
        · skip
          replace hm := ite_f hc8 e12
          refine WL.idle (Idle.no rfl rfl rfl hc8) rfl rfl ?_
          refine wq rfl rfl rfl (ov_pick_false rfl (guard_eq rfl hc8) rfl) ?_
          exact WL.nil ⟨Sub.cons' rfl (congrArg Value.bool (Option.some.inj hm)) (Sub.skip rfl (Sub.skip rfl (Sub.refl _))), fun _ s => s⟩
      refine wq rfl rfl rfl (ov_assign rfl rfl) ?_
      refine WL.nil (then_normal (WP.ret ?_))
      obtain rfl := Option.some.inj hm
      refine retQ_ret Tryd.results9 (Res.tmp rfl Res.nil) rfl (fun w' s => ⟨s.below, ?_⟩)
      exact rfl

end Go.Proofs.YtmfphbdafgmplaaDoor.W
