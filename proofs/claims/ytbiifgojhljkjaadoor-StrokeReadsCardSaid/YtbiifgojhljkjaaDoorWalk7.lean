/- The walks. Written by our own program gen.py; Lean checks it. -/
import Derived.Test.YtbiifgojhljkjaaDoorPlain
import Derived.Test.YtbiifgojhljkjaaDoorEqs
import Derived.Test.YtbiifgojhljkjaaDoorProg
import Derived.Test.YtbiifgojhljkjaaDoorExt
import Derived.Test.YtbiifgojhljkjaaDoorClone
import Derived.Test.YtbiifgojhljkjaaDoorWalk0
import Derived.Test.YtbiifgojhljkjaaDoorWalk1
import Derived.Test.YtbiifgojhljkjaaDoorWalk2
import Derived.Test.YtbiifgojhljkjaaDoorWalk4
set_option linter.unusedVariables false
set_option maxRecDepth 100000
set_option maxHeartbeats 4000000
namespace Go.Proofs.YtbiifgojhljkjaaDoor.W
open Go Go.RowKit
theorem law13_StrokeReads_con (p_l : (List Step)) (p_text : (List UInt8)) (ao1 : Option Addr) (cap1 : Nat) (w : World) (H : Heap) (hH : Le H (hp w)) (h1 : SL H encStep ao1 p_l) (hc1 : p_l.length ≤ cap1) (hG : Glob H) (r : Bool) (hm : law13_StrokeReads p_l p_text = some r) :
    Con Tryd.prog 3 [(.slice ao1 p_l.length cap1), (mkS p_text)] w H (fun v _ => v = (.bool r)) := by
  unfold law13_StrokeReads at hm
  refine con_of hH Tryd.func3 rfl 74 Tryd.ntmps3 rfl ?_
  refine WP.seq (WP.region ?_)
  refine wq rfl rfl rfl (ov_assign rfl rfl) ?_
  refine WL.nil (then_normal (WP.seq (WP.seq (WP.region ?_))))
  refine wq rfl rfl rfl (ov_move rfl rfl) ?_
  refine wq rfl rfl rfl (ov_len_slice Tryd.underlying22 rfl rfl) ?_
  refine wq rfl rfl rfl (ov_gtr rfl rfl rfl) ?_
  refine wq rfl rfl rfl (ov_move rfl rfl) ?_
  obtain ⟨c1, e1, hm⟩ := bind_some hm
  refine WL.cut_bool 3 21 (x := c1) ?_ ?_
  · rcases Bool.eq_false_or_eq_true (decide ((p_l.length : Int) > 128)) with hc2 | hc2
    · skip
      replace hm := ite_t hc2 e1
      refine WL.idle (Idle.no rfl rfl rfl hc2) rfl rfl ?_
      refine WL.idle (Idle.no rfl rfl rfl hc2) rfl rfl ?_
      refine wq rfl rfl rfl (ov_pick_true rfl (guard_eq rfl hc2) rfl) ?_
      exact WL.nil ⟨Sub.cons' rfl (congrArg Value.bool (Option.some.inj hm)) (Sub.skip rfl (Sub.skip rfl (Sub.skip rfl (Sub.refl _)))), fun _ s => s⟩
    · skip
      replace hm := ite_f hc2 e1
      refine WL.quiet (Runs.yes rfl rfl rfl hc2) rfl rfl (OV.quiet (ov_move rfl rfl)) ?_
      obtain ⟨r1, e2, hm⟩ := bind_some hm
      refine WL.quiet (Runs.yes rfl rfl rfl hc2) rfl rfl (oq_con (r := (.bool r1)) Tryd.call8 rfl rfl (fun w' s => ⟨_, (slices_ContainsFunc_api_Stepapi_Step_law13_StrokeReads_1_con p_l ao1 cap1  w' H s.hold h1 hc1 hG r1 e2)⟩)) ?_
      refine wq rfl rfl rfl (ov_pick_false rfl (guard_eq rfl hc2) rfl) ?_
      exact WL.nil ⟨Sub.cons' rfl (congrArg Value.bool (Option.some.inj hm)) (Sub.skip rfl (Sub.skip rfl (Sub.skip rfl (Sub.refl _)))), fun _ s => s⟩
  refine wq rfl rfl rfl (ov_move rfl rfl) ?_
  refine WL.cut_bool 4 26 (x := (c1 || (decide ((p_text.length : Int) > 800)))) ?_ ?_
  · rcases Bool.eq_false_or_eq_true c1 with hc3 | hc3
    · skip
      refine WL.idle (Idle.no rfl rfl rfl hc3) rfl rfl ?_
      refine WL.idle (Idle.no rfl rfl rfl hc3) rfl rfl ?_
      refine WL.idle (Idle.no rfl rfl rfl hc3) rfl rfl ?_
      refine wq rfl rfl rfl (ov_pick_true rfl (guard_eq rfl hc3) rfl) ?_
      exact WL.nil ⟨Sub.cons' rfl (congrArg Value.bool (orT hc3)) (Sub.skip rfl (Sub.skip rfl (Sub.skip rfl (Sub.skip rfl (Sub.refl _))))), fun _ s => s⟩
    · skip
      refine WL.quiet (Runs.yes rfl rfl rfl hc3) rfl rfl (OV.quiet (ov_move rfl rfl)) ?_
      refine WL.quiet (Runs.yes rfl rfl rfl hc3) rfl rfl (OV.quiet (ov_len_string Tryd.underlying9 rfl rfl)) ?_
      refine WL.quiet (Runs.yes rfl rfl rfl hc3) rfl rfl (OV.quiet (ov_gtr rfl rfl rfl)) ?_
      refine wq rfl rfl rfl (ov_pick_false rfl (guard_eq rfl hc3) rfl) ?_
      exact WL.nil ⟨Sub.cons' rfl (congrArg Value.bool (orF hc3)) (Sub.skip rfl (Sub.skip rfl (Sub.skip rfl (Sub.skip rfl (Sub.refl _))))), fun _ s => s⟩
  refine WL.nil (then_normal ?_)
  refine WP.cond rfl (fun hc4 => ?_) (fun hc4 => ?_)
  · replace hm := ite_t hc4 hm
    refine WP.seq (WP.region ?_)
    obtain ⟨r2, e3, hm⟩ := bind_some hm
    refine WL.quiet (Runs.free rfl) rfl rfl (oq_con (r := (.bool r2)) Tryd.call11 rfl rfl (fun w' s => ⟨_, (law13_awake_con   w' H s.hold hG r2 e3)⟩)) ?_
    refine wq rfl rfl rfl (ov_assign rfl rfl) ?_
    refine WL.nil (then_normal (WP.ret (then_ret ?_)))
    obtain rfl := Option.some.inj hm
    refine retQ_ret Tryd.results3 (Res.tmp rfl Res.nil) rfl (fun w' s => ⟨s.below, ?_⟩)
    exact rfl
  · replace hm := ite_f hc4 hm
    refine WP.skip (then_normal ?_)
    obtain ⟨k1, hk1, hm⟩ := joinK_some hm
    refine WP.seq_join (fun g' S' => ∃ (H2 : Heap), Le H H2 ∧ Sub [(1, (mkS p_text)), (1000000007, (.bool false))] g' ∧ (∀ w', S' w' → St w H [] H2 w') ∧ k1 = some r) ?_ ?_
    · skip
      refine WP.seq (WP.region ?_)
      refine wq rfl rfl rfl (ov_move rfl rfl) ?_
      obtain ⟨r3, e4, hm⟩ := bind_some hm
      refine WL.quiet (Runs.free rfl) rfl rfl (oq_con (r := (.tuple #[(mkS r3.1), (.int .i64 r3.2)])) Tryd.call12 rfl rfl (fun w' s => ⟨_, (stroke_Format_con p_l ao1 cap1  w' H s.hold h1 hc1 hG r3 e4)⟩)) ?_
      refine wq rfl rfl rfl (ov_move rfl rfl) ?_
      refine wq rfl rfl rfl (ov_extract rfl rfl rfl) ?_
      refine wq rfl rfl rfl (ov_extract rfl rfl rfl) ?_
      refine wq rfl rfl rfl (ov_assign rfl rfl) ?_
      refine wq rfl rfl rfl (ov_assign rfl rfl) ?_
      refine WL.nil (then_normal (WP.seq (WP.region ?_)))
      refine wq rfl rfl rfl (ov_move rfl rfl) ?_
      refine wq rfl rfl rfl (ov_eql rfl rfl rfl) ?_
      refine WL.nil (then_normal ?_)
      refine WP.cond rfl (fun hc5 => ?_) (fun hc5 => ?_)
      · replace hm := ite_t hc5 hm
        refine WP.seq (WP.region ?_)
        refine wq rfl rfl rfl (ov_move rfl rfl) ?_
        obtain ⟨r4, e5, hm⟩ := bind_some hm
        refine WL.step (Runs.free rfl) rfl rfl (os_con Tryd.call13 rfl rfl (fun w' s => (stroke_Parse_con r3.1  w' H s.hold hG r4 e5)) (fun rr1 H1 hle1 hR1 => ?_))
        replace h1 := h1.mono hle1
        replace hG := hG.mono hle1
        obtain ⟨ao2, cap2, rfl, h2, hc6⟩ := hR1
        refine wq rfl rfl rfl (ov_move rfl rfl) ?_
        refine wq rfl rfl rfl (ov_extract rfl rfl rfl) ?_
        refine wq rfl rfl rfl (ov_extract rfl rfl rfl) ?_
        refine wq rfl rfl rfl (ov_extract rfl rfl rfl) ?_
        refine wq rfl rfl rfl (ov_assign rfl rfl) ?_
        refine wq rfl rfl rfl (ov_assign rfl rfl) ?_
        refine wq rfl rfl rfl (ov_assign rfl rfl) ?_
        refine WL.nil (then_normal (WP.seq (WP.region ?_)))
        refine wq rfl rfl rfl (ov_move rfl rfl) ?_
        refine wq rfl rfl rfl (ov_neq rfl rfl rfl) ?_
        refine wq rfl rfl rfl (ov_move rfl rfl) ?_
        refine WL.cut_bool 3 46 (x := ((r4.2.2 != 0) || (r4.2.1 != 0))) ?_ ?_
        · rcases Bool.eq_false_or_eq_true (r4.2.2 != 0) with hc7 | hc7
          · skip
            refine WL.idle (Idle.no rfl rfl rfl hc7) rfl rfl ?_
            refine WL.idle (Idle.no rfl rfl rfl hc7) rfl rfl ?_
            refine wq rfl rfl rfl (ov_pick_true rfl (guard_eq rfl hc7) rfl) ?_
            exact WL.nil ⟨Sub.cons' rfl (congrArg Value.bool (orT hc7)) (Sub.skip rfl (Sub.skip rfl (Sub.skip rfl (Sub.refl _)))), fun _ s => s⟩
          · skip
            refine WL.quiet (Runs.yes rfl rfl rfl hc7) rfl rfl (OV.quiet (ov_move rfl rfl)) ?_
            refine WL.quiet (Runs.yes rfl rfl rfl hc7) rfl rfl (OV.quiet (ov_neq rfl rfl rfl)) ?_
            refine wq rfl rfl rfl (ov_pick_false rfl (guard_eq rfl hc7) rfl) ?_
            exact WL.nil ⟨Sub.cons' rfl (congrArg Value.bool (orF hc7)) (Sub.skip rfl (Sub.skip rfl (Sub.skip rfl (Sub.refl _)))), fun _ s => s⟩
        refine wq rfl rfl rfl (ov_move rfl rfl) ?_
        obtain ⟨c2, e6, hm⟩ := bind_some hm
        refine WL.cut_bool 5 52 (x := c2) ?_ ?_
        · rcases Bool.eq_false_or_eq_true ((r4.2.2 != 0) || (r4.2.1 != 0)) with hc8 | hc8
          · skip
            replace hm := ite_t hc8 e6
            refine WL.idle (Idle.no rfl rfl rfl hc8) rfl rfl ?_
            refine WL.idle (Idle.no rfl rfl rfl hc8) rfl rfl ?_
            refine WL.idle (Idle.no rfl rfl rfl hc8) rfl rfl ?_
            refine WL.idle (Idle.no rfl rfl rfl hc8) rfl rfl ?_
            refine wq rfl rfl rfl (ov_pick_true rfl (guard_eq rfl hc8) rfl) ?_
            exact WL.nil ⟨Sub.cons' rfl (congrArg Value.bool (Option.some.inj hm)) (Sub.skip rfl (Sub.skip rfl (Sub.skip rfl (Sub.skip rfl (Sub.skip rfl (Sub.refl _)))))), fun _ s => s⟩
          · skip
            replace hm := ite_f hc8 e6
            refine WL.quiet (Runs.yes rfl rfl rfl hc8) rfl rfl (OV.quiet (ov_move rfl rfl)) ?_
            refine WL.quiet (Runs.yes rfl rfl rfl hc8) rfl rfl (OV.quiet (ov_move rfl rfl)) ?_
            obtain ⟨r5, e7, hm⟩ := bind_some hm
            refine WL.quiet (Runs.yes rfl rfl rfl hc8) rfl rfl (oq_con (r := (.bool r5)) Tryd.call14 rfl rfl (fun w' s => ⟨_, (ref13_SameSteps_con p_l r4.1 ao1 cap1 ao2 cap2  w' H1 s.hold h1 hc1 h2 hc6 hG r5 e7)⟩)) ?_
            refine WL.quiet (Runs.yes rfl rfl rfl hc8) rfl rfl (OV.quiet (ov_not rfl rfl)) ?_
            refine wq rfl rfl rfl (ov_pick_false rfl (guard_eq rfl hc8) rfl) ?_
            exact WL.nil ⟨Sub.cons' rfl (congrArg Value.bool (Option.some.inj hm)) (Sub.skip rfl (Sub.skip rfl (Sub.skip rfl (Sub.skip rfl (Sub.skip rfl (Sub.refl _)))))), fun _ s => s⟩
        refine WL.nil (then_normal ?_)
        refine WP.cond rfl (fun hc9 => ?_) (fun hc9 => ?_)
        · replace hm := ite_t hc9 hm
          refine WP.seq (WP.region ?_)
          refine wq rfl rfl rfl (ov_assign rfl rfl) ?_
          refine WL.nil (then_normal (WP.ret (then_ret ?_)))
          obtain rfl := Option.some.inj hm
          refine retQ_ret Tryd.results3 (Res.tmp rfl Res.nil) rfl (fun w' s => ⟨s.below, ?_⟩)
          exact rfl
        · replace hm := ite_f hc9 hm
          refine WP.skip (then_normal ?_)
          exact ⟨H1, hle1, (Sub.cons rfl (Sub.cons rfl (Sub.nil _))), fun w' s => s, hm⟩
      · replace hm := ite_f hc5 hm
        refine WP.skip (then_normal ?_)
        exact ⟨H, (Le.refl _), (Sub.cons rfl (Sub.cons rfl (Sub.nil _))), fun w' s => s, hm⟩
    · rintro g' S' ⟨H2, hle2, hsub1, hS1, hm⟩
      refine WP.sub hsub1 (WP.weaken hS1 ?_)
      replace hm := hk1.symm.trans hm
      replace hG := hG.mono hle2
      obtain ⟨k2, hk2, hm⟩ := joinK_some hm
      refine WP.seq_join (fun g' S' => ∃ (H4 : Heap), Le H2 H4 ∧ Sub [(1000000007, (.bool false))] g' ∧ (∀ w', S' w' → St w H [] H4 w') ∧ k2 = some r) ?_ ?_
      · skip
        refine WP.seq (WP.region ?_)
        refine wq rfl rfl rfl (ov_move rfl rfl) ?_
        obtain ⟨r6, e8, hm⟩ := bind_some hm
        refine WL.step (Runs.free rfl) rfl rfl (os_con Tryd.call13 rfl rfl (fun w' s => (stroke_Parse_con p_text  w' H2 s.hold hG r6 e8)) (fun rr2 H3 hle3 hR2 => ?_))
        replace hG := hG.mono hle3
        obtain ⟨ao3, cap3, rfl, h3, hc10⟩ := hR2
        refine wq rfl rfl rfl (ov_move rfl rfl) ?_
        refine wq rfl rfl rfl (ov_extract rfl rfl rfl) ?_
        refine wq rfl rfl rfl (ov_extract rfl rfl rfl) ?_
        refine wq rfl rfl rfl (ov_extract rfl rfl rfl) ?_
        refine wq rfl rfl rfl (ov_assign rfl rfl) ?_
        refine wq rfl rfl rfl (ov_assign rfl rfl) ?_
        refine wq rfl rfl rfl (ov_assign rfl rfl) ?_
        refine WL.nil (then_normal (WP.seq (WP.region ?_)))
        refine wq rfl rfl rfl (ov_move rfl rfl) ?_
        refine wq rfl rfl rfl (ov_eql rfl rfl rfl) ?_
        refine WL.nil (then_normal ?_)
        refine WP.cond rfl (fun hc11 => ?_) (fun hc11 => ?_)
        · replace hm := ite_t hc11 hm
          refine WP.seq (WP.region ?_)
          refine wq rfl rfl rfl (ov_move rfl rfl) ?_
          obtain ⟨r7, e9, hm⟩ := bind_some hm
          refine WL.quiet (Runs.free rfl) rfl rfl (oq_con (r := (.tuple #[(mkS r7.1), (.int .i64 r7.2)])) Tryd.call12 rfl rfl (fun w' s => ⟨_, (stroke_Format_con r6.1 ao3 cap3  w' H3 s.hold h3 hc10 hG r7 e9)⟩)) ?_
          refine wq rfl rfl rfl (ov_move rfl rfl) ?_
          refine wq rfl rfl rfl (ov_extract rfl rfl rfl) ?_
          refine wq rfl rfl rfl (ov_extract rfl rfl rfl) ?_
          refine wq rfl rfl rfl (ov_assign rfl rfl) ?_
          refine wq rfl rfl rfl (ov_assign rfl rfl) ?_
          refine WL.nil (then_normal (WP.seq (WP.region ?_)))
          refine wq rfl rfl rfl (ov_move rfl rfl) ?_
          refine wq rfl rfl rfl (ov_neq rfl rfl rfl) ?_
          refine wq rfl rfl rfl (ov_move rfl rfl) ?_
          refine WL.cut_bool 4 72 (x := ((r7.2 != 0) || (!(r7.1 == p_text)))) ?_ ?_
          · rcases Bool.eq_false_or_eq_true (r7.2 != 0) with hc12 | hc12
            · skip
              refine WL.idle (Idle.no rfl rfl rfl hc12) rfl rfl ?_
              refine WL.idle (Idle.no rfl rfl rfl hc12) rfl rfl ?_
              refine WL.idle (Idle.no rfl rfl rfl hc12) rfl rfl ?_
              refine wq rfl rfl rfl (ov_pick_true rfl (guard_eq rfl hc12) rfl) ?_
              exact WL.nil ⟨Sub.cons' rfl (congrArg Value.bool (orT hc12)) (Sub.skip rfl (Sub.skip rfl (Sub.skip rfl (Sub.skip rfl (Sub.refl _))))), fun _ s => s⟩
            · skip
              refine WL.quiet (Runs.yes rfl rfl rfl hc12) rfl rfl (OV.quiet (ov_move rfl rfl)) ?_
              refine WL.quiet (Runs.yes rfl rfl rfl hc12) rfl rfl (OV.quiet (ov_move rfl rfl)) ?_
              refine WL.quiet (Runs.yes rfl rfl rfl hc12) rfl rfl (OV.quiet (ov_sneq rfl rfl rfl)) ?_
              refine wq rfl rfl rfl (ov_pick_false rfl (guard_eq rfl hc12) rfl) ?_
              exact WL.nil ⟨Sub.cons' rfl (congrArg Value.bool (orF hc12)) (Sub.skip rfl (Sub.skip rfl (Sub.skip rfl (Sub.skip rfl (Sub.refl _))))), fun _ s => s⟩
          refine WL.nil (then_normal ?_)
          refine WP.cond rfl (fun hc13 => ?_) (fun hc13 => ?_)
          · replace hm := ite_t hc13 hm
            refine WP.seq (WP.region ?_)
            refine wq rfl rfl rfl (ov_assign rfl rfl) ?_
            refine WL.nil (then_normal (WP.ret (then_ret ?_)))
            obtain rfl := Option.some.inj hm
            refine retQ_ret Tryd.results3 (Res.tmp rfl Res.nil) rfl (fun w' s => ⟨s.below, ?_⟩)
            exact rfl
          · replace hm := ite_f hc13 hm
            refine WP.skip (then_normal ?_)
            exact ⟨H3, hle3, (Sub.cons rfl (Sub.nil _)), fun w' s => s, hm⟩
        · replace hm := ite_f hc11 hm
          refine WP.skip (then_normal ?_)
          exact ⟨H3, hle3, (Sub.cons rfl (Sub.nil _)), fun w' s => s, hm⟩
      · rintro g' S' ⟨H4, hle4, hsub2, hS2, hm⟩
        refine WP.sub hsub2 (WP.weaken hS2 ?_)
        replace hm := hk2.symm.trans hm
        replace hG := hG.mono hle4
        refine WP.seq (WP.region ?_)
        obtain ⟨r8, e10, hm⟩ := bind_some hm
        refine WL.quiet (Runs.free rfl) rfl rfl (oq_con (r := (.bool r8)) Tryd.call11 rfl rfl (fun w' s => ⟨_, (law13_awake_con   w' H4 s.hold hG r8 e10)⟩)) ?_
        refine wq rfl rfl rfl (ov_assign rfl rfl) ?_
        refine WL.nil (then_normal (WP.ret ?_))
        obtain rfl := Option.some.inj hm
        refine retQ_ret Tryd.results3 (Res.tmp rfl Res.nil) rfl (fun w' s => ⟨s.below, ?_⟩)
        exact rfl

end Go.Proofs.YtbiifgojhljkjaaDoor.W
