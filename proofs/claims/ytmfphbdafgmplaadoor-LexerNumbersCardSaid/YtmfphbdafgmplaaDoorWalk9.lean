/- The walks. Written by our own program gen.py; Lean checks it. -/
import Derived.Test.YtmfphbdafgmplaaDoorPlain
import Derived.Test.YtmfphbdafgmplaaDoorEqs
import Derived.Test.YtmfphbdafgmplaaDoorProg
import Derived.Test.YtmfphbdafgmplaaDoorExt
import Derived.Test.YtmfphbdafgmplaaDoorClone
import Derived.Test.YtmfphbdafgmplaaDoorBuild
import Derived.Test.YtmfphbdafgmplaaDoorWalk1
import Derived.Test.YtmfphbdafgmplaaDoorWalk2
import Derived.Test.YtmfphbdafgmplaaDoorWalk3
import Derived.Test.YtmfphbdafgmplaaDoorWalk4
set_option linter.unusedVariables false
set_option maxRecDepth 100000
set_option maxHeartbeats 4000000
namespace Go.Proofs.YtmfphbdafgmplaaDoor.W
open Go Go.RowKit
theorem law12_LexerNumbers_con (p_k : Int) (w : World) (H : Heap) (hH : Le H (hp w)) (hG : Glob H) (r : Bool) (hm : law12_LexerNumbers p_k = some r) :
    Con Tryd.prog 5 [(.int .u32 p_k)] w H (fun v _ => v = (.bool r)) := by
  unfold law12_LexerNumbers at hm
  refine con_of hH Tryd.func5 rfl 60 Tryd.ntmps5 rfl ?_
  refine WP.seq (WP.region ?_)
  refine wq rfl rfl rfl (ov_assign rfl rfl) ?_
  refine WL.nil (then_normal (WP.seq (WP.region ?_)))
  refine wq rfl rfl rfl (ov_move rfl rfl) ?_
  refine wq rfl rfl rfl (ov_convert_int Tryd.underlying38 Tryd.underlying3 rfl rfl) ?_
  refine wq rfl rfl rfl (ov_rem rfl rfl rfl (by decide)) ?_
  refine wq rfl rfl rfl (ov_assign rfl rfl) ?_
  refine WL.nil (then_normal (WP.seq (WP.region ?_)))
  refine wq rfl rfl rfl (ov_move rfl rfl) ?_
  obtain ⟨r1, e1, hm⟩ := bind_some hm
  refine WL.quiet (Runs.free rfl) rfl rfl (oq_con (r := (mkS r1)) Tryd.call18 rfl rfl (fun w' s => ⟨_, (ref12_Digits_con (Int.tmod (IntKind.wrap .i64 p_k) 10000000)  w' H s.hold hG r1 e1)⟩)) ?_
  refine wq rfl rfl rfl (ov_assign rfl rfl) ?_
  refine WL.nil (then_normal (WP.seq (WP.region ?_)))
  refine wq rfl rfl rfl (ov_move rfl rfl) ?_
  obtain ⟨r2, e2, hm⟩ := bind_some hm
  refine WL.quiet (Runs.free rfl) rfl rfl (oq_con (r := (.tuple #[(.int .i64 r2.1), (.int .i64 r2.2)])) Tryd.call19 rfl rfl (fun w' s => ⟨_, (lexer_Value_con r1  w' H s.hold hG r2 e2)⟩)) ?_
  refine wq rfl rfl rfl (ov_move rfl rfl) ?_
  refine wq rfl rfl rfl (ov_extract rfl rfl rfl) ?_
  refine wq rfl rfl rfl (ov_extract rfl rfl rfl) ?_
  refine wq rfl rfl rfl (ov_assign rfl rfl) ?_
  refine wq rfl rfl rfl (ov_assign rfl rfl) ?_
  refine WL.nil (then_normal (WP.seq (WP.region ?_)))
  refine wq rfl rfl rfl (ov_move rfl rfl) ?_
  obtain ⟨s1, e3, hm⟩ := bind_some hm
  refine wq rfl rfl rfl (ov_sadd' e3 rfl rfl rfl) ?_
  obtain ⟨r3, e4, hm⟩ := bind_some hm
  refine WL.quiet (Runs.free rfl) rfl rfl (oq_con (r := (.tuple #[(.int .i64 r3.1), (.int .i64 r3.2)])) Tryd.call19 rfl rfl (fun w' s => ⟨_, (lexer_Value_con s1  w' H s.hold hG r3 e4)⟩)) ?_
  refine wq rfl rfl rfl (ov_move rfl rfl) ?_
  refine wq rfl rfl rfl (ov_extract rfl rfl rfl) ?_
  refine wq rfl rfl rfl (ov_extract rfl rfl rfl) ?_
  refine wq rfl rfl rfl (ov_assign rfl rfl) ?_
  refine wq rfl rfl rfl (ov_assign rfl rfl) ?_
  refine WL.nil (then_normal (WP.seq (WP.seq (WP.region ?_))))
  refine wq rfl rfl rfl (ov_move rfl rfl) ?_
  refine wq rfl rfl rfl (ov_neq rfl rfl rfl) ?_
  refine wq rfl rfl rfl (ov_move rfl rfl) ?_
  refine WL.cut_bool 4 31 (x := ((r2.2 != 0) || (r2.1 != (Int.tmod (IntKind.wrap .i64 p_k) 10000000)))) ?_ ?_
  · rcases Bool.eq_false_or_eq_true (r2.2 != 0) with hc1 | hc1
    · skip
      refine WL.idle (Idle.no rfl rfl rfl hc1) rfl rfl ?_
      refine WL.idle (Idle.no rfl rfl rfl hc1) rfl rfl ?_
      refine WL.idle (Idle.no rfl rfl rfl hc1) rfl rfl ?_
      refine wq rfl rfl rfl (ov_pick_true rfl (guard_eq rfl hc1) rfl) ?_
      exact WL.nil ⟨Sub.cons' rfl (congrArg Value.bool (orT hc1)) (Sub.skip rfl (Sub.skip rfl (Sub.skip rfl (Sub.skip rfl (Sub.refl _))))), fun _ s => s⟩
    · skip
      refine WL.quiet (Runs.yes rfl rfl rfl hc1) rfl rfl (OV.quiet (ov_move rfl rfl)) ?_
      refine WL.quiet (Runs.yes rfl rfl rfl hc1) rfl rfl (OV.quiet (ov_move rfl rfl)) ?_
      refine WL.quiet (Runs.yes rfl rfl rfl hc1) rfl rfl (OV.quiet (ov_neq rfl rfl rfl)) ?_
      refine wq rfl rfl rfl (ov_pick_false rfl (guard_eq rfl hc1) rfl) ?_
      exact WL.nil ⟨Sub.cons' rfl (congrArg Value.bool (orF hc1)) (Sub.skip rfl (Sub.skip rfl (Sub.skip rfl (Sub.skip rfl (Sub.refl _))))), fun _ s => s⟩
  refine wq rfl rfl rfl (ov_move rfl rfl) ?_
  obtain ⟨c1, e5, hm⟩ := bind_some hm
  refine WL.cut_bool 4 36 (x := c1) ?_ ?_
  · rcases Bool.eq_false_or_eq_true ((r2.2 != 0) || (r2.1 != (Int.tmod (IntKind.wrap .i64 p_k) 10000000))) with hc2 | hc2
    · skip
      replace hm := ite_t hc2 e5
      refine WL.idle (Idle.no rfl rfl rfl hc2) rfl rfl ?_
      refine WL.idle (Idle.no rfl rfl rfl hc2) rfl rfl ?_
      refine WL.idle (Idle.no rfl rfl rfl hc2) rfl rfl ?_
      refine wq rfl rfl rfl (ov_pick_true rfl (guard_eq rfl hc2) rfl) ?_
      exact WL.nil ⟨Sub.cons' rfl (congrArg Value.bool (Option.some.inj hm)) (Sub.skip rfl (Sub.skip rfl (Sub.skip rfl (Sub.skip rfl (Sub.refl _))))), fun _ s => s⟩
    · skip
      replace hm := ite_f hc2 e5
      refine WL.quiet (Runs.yes rfl rfl rfl hc2) rfl rfl (OV.quiet (ov_move rfl rfl)) ?_
      obtain ⟨r4, e6, hm⟩ := bind_some hm
      refine WL.quiet (Runs.yes rfl rfl rfl hc2) rfl rfl (oq_con (r := (.int .i64 r4)) Tryd.call20 rfl rfl (fun w' s => ⟨_, (lexer_Number_con r1  w' H s.hold hG r4 e6)⟩)) ?_
      refine WL.quiet (Runs.yes rfl rfl rfl hc2) rfl rfl (OV.quiet (ov_neq rfl rfl rfl)) ?_
      refine wq rfl rfl rfl (ov_pick_false rfl (guard_eq rfl hc2) rfl) ?_
      exact WL.nil ⟨Sub.cons' rfl (congrArg Value.bool (Option.some.inj hm)) (Sub.skip rfl (Sub.skip rfl (Sub.skip rfl (Sub.skip rfl (Sub.refl _))))), fun _ s => s⟩
  refine wq rfl rfl rfl (ov_move rfl rfl) ?_
  obtain ⟨c2, e7, hm⟩ := bind_some hm
  refine WL.cut_bool 4 41 (x := c2) ?_ ?_
  · rcases Bool.eq_false_or_eq_true c1 with hc3 | hc3
    · skip
      replace hm := ite_t hc3 e7
      refine WL.idle (Idle.no rfl rfl rfl hc3) rfl rfl ?_
      refine WL.idle (Idle.no rfl rfl rfl hc3) rfl rfl ?_
      refine WL.idle (Idle.no rfl rfl rfl hc3) rfl rfl ?_
      refine wq rfl rfl rfl (ov_pick_true rfl (guard_eq rfl hc3) rfl) ?_
      exact WL.nil ⟨Sub.cons' rfl (congrArg Value.bool (Option.some.inj hm)) (Sub.skip rfl (Sub.skip rfl (Sub.skip rfl (Sub.skip rfl (Sub.refl _))))), fun _ s => s⟩
    · skip
      replace hm := ite_f hc3 e7
      refine WL.quiet (Runs.yes rfl rfl rfl hc3) rfl rfl (OV.quiet (ov_move rfl rfl)) ?_
      obtain ⟨r5, e8, hm⟩ := bind_some hm
      refine WL.quiet (Runs.yes rfl rfl rfl hc3) rfl rfl (oq_con (r := (.int .i64 r5)) Tryd.call21 rfl rfl (fun w' s => ⟨_, (lexer_Word_con r1  w' H s.hold hG r5 e8)⟩)) ?_
      refine WL.quiet (Runs.yes rfl rfl rfl hc3) rfl rfl (OV.quiet (ov_neq rfl rfl rfl)) ?_
      refine wq rfl rfl rfl (ov_pick_false rfl (guard_eq rfl hc3) rfl) ?_
      exact WL.nil ⟨Sub.cons' rfl (congrArg Value.bool (Option.some.inj hm)) (Sub.skip rfl (Sub.skip rfl (Sub.skip rfl (Sub.skip rfl (Sub.refl _))))), fun _ s => s⟩
  refine WL.nil (then_normal ?_)
  refine WP.cond rfl (fun hc4 => ?_) (fun hc4 => ?_)
  · replace hm := ite_t hc4 hm
    refine WP.seq (WP.region ?_)
    refine wq rfl rfl rfl (ov_assign rfl rfl) ?_
    refine WL.nil (then_normal (WP.ret (then_ret ?_)))
    obtain rfl := Option.some.inj hm
    refine retQ_ret Tryd.results5 (Res.tmp rfl Res.nil) rfl (fun w' s => ⟨s.below, ?_⟩)
    exact rfl
  · replace hm := ite_f hc4 hm
    refine WP.skip (then_normal (WP.seq (WP.seq (WP.region ?_))))
    refine wq rfl rfl rfl (ov_move rfl rfl) ?_
    refine wq rfl rfl rfl (ov_eql rfl rfl rfl) ?_
    refine WL.nil (then_normal ?_)
    refine WP.cond rfl (fun hc5 => ?_) (fun hc5 => ?_)
    · replace hm := ite_t hc5 hm
      refine WP.seq (WP.region ?_)
      refine wq rfl rfl rfl (ov_move rfl rfl) ?_
      refine wq rfl rfl rfl (ov_eql rfl rfl rfl) ?_
      refine wq rfl rfl rfl (ov_move rfl rfl) ?_
      obtain ⟨c3, e9, hm⟩ := bind_some hm
      refine WL.cut_bool 2 48 (x := c3) ?_ ?_
      · rcases Bool.eq_false_or_eq_true (r3.2 == 3) with hc6 | hc6
        · skip
          replace hm := ite_t hc6 e9
          obtain ⟨r6, e10, hm⟩ := bind_some hm
          refine WL.quiet (Runs.yes rfl rfl rfl hc6) rfl rfl (oq_con (r := (.bool r6)) Tryd.call12 rfl rfl (fun w' s => ⟨_, (law12_awake_con   w' H s.hold hG r6 e10)⟩)) ?_
          refine wq rfl rfl rfl (ov_pick_true rfl (guard_eq rfl hc6) rfl) ?_
          exact WL.nil ⟨Sub.cons' rfl (congrArg Value.bool (Option.some.inj hm)) (Sub.skip rfl (Sub.skip rfl (Sub.refl _))), fun _ s => s⟩
        · skip
          replace hm := ite_f hc6 e9
          refine WL.idle (Idle.no rfl rfl rfl hc6) rfl rfl ?_
          refine wq rfl rfl rfl (ov_pick_false rfl (guard_eq rfl hc6) rfl) ?_
          exact WL.nil ⟨Sub.cons' rfl (congrArg Value.bool (Option.some.inj hm)) (Sub.skip rfl (Sub.skip rfl (Sub.refl _))), fun _ s => s⟩
      refine wq rfl rfl rfl (ov_assign rfl rfl) ?_
      refine WL.nil (then_normal (WP.ret (then_ret ?_)))
      obtain rfl := Option.some.inj hm
      refine retQ_ret Tryd.results5 (Res.tmp rfl Res.nil) rfl (fun w' s => ⟨s.below, ?_⟩)
      exact rfl
    · replace hm := ite_f hc5 hm
      refine WP.skip (then_normal (WP.seq (WP.region ?_)))
      refine wq rfl rfl rfl (ov_move rfl rfl) ?_
      refine wq rfl rfl rfl (ov_eql rfl rfl rfl) ?_
      refine wq rfl rfl rfl (ov_move rfl rfl) ?_
      refine WL.cut_bool 5 56 (x := ((r3.2 == 0) && (r3.1 == (IntKind.wrap .i64 (0 - (Int.tmod (IntKind.wrap .i64 p_k) 10000000)))))) ?_ ?_
      · rcases Bool.eq_false_or_eq_true (r3.2 == 0) with hc7 | hc7
        · skip
          refine WL.quiet (Runs.yes rfl rfl rfl hc7) rfl rfl (OV.quiet (ov_move rfl rfl)) ?_
          refine WL.quiet (Runs.yes rfl rfl rfl hc7) rfl rfl (OV.quiet (ov_move rfl rfl)) ?_
          refine WL.quiet (Runs.yes rfl rfl rfl hc7) rfl rfl (OV.quiet (ov_neg rfl rfl)) ?_
          refine WL.quiet (Runs.yes rfl rfl rfl hc7) rfl rfl (OV.quiet (ov_eql rfl rfl rfl)) ?_
          refine wq rfl rfl rfl (ov_pick_true rfl (guard_eq rfl hc7) rfl) ?_
          exact WL.nil ⟨Sub.cons' rfl (congrArg Value.bool (andT hc7)) (Sub.skip rfl (Sub.skip rfl (Sub.skip rfl (Sub.skip rfl (Sub.skip rfl (Sub.refl _)))))), fun _ s => s⟩
        · skip
          refine WL.idle (Idle.no rfl rfl rfl hc7) rfl rfl ?_
          refine WL.idle (Idle.no rfl rfl rfl hc7) rfl rfl ?_
          refine WL.idle (Idle.no rfl rfl rfl hc7) rfl rfl ?_
          refine WL.idle (Idle.no rfl rfl rfl hc7) rfl rfl ?_
          refine wq rfl rfl rfl (ov_pick_false rfl (guard_eq rfl hc7) rfl) ?_
          exact WL.nil ⟨Sub.cons' rfl (congrArg Value.bool (andF hc7)) (Sub.skip rfl (Sub.skip rfl (Sub.skip rfl (Sub.skip rfl (Sub.skip rfl (Sub.refl _)))))), fun _ s => s⟩
      refine wq rfl rfl rfl (ov_move rfl rfl) ?_
      obtain ⟨c4, e11, hm⟩ := bind_some hm
      refine WL.cut_bool 2 59 (x := c4) ?_ ?_
      · rcases Bool.eq_false_or_eq_true ((r3.2 == 0) && (r3.1 == (IntKind.wrap .i64 (0 - (Int.tmod (IntKind.wrap .i64 p_k) 10000000))))) with hc8 | hc8
        · skip
          replace hm := ite_t hc8 e11
          obtain ⟨r7, e12, hm⟩ := bind_some hm
          refine WL.quiet (Runs.yes rfl rfl rfl hc8) rfl rfl (oq_con (r := (.bool r7)) Tryd.call12 rfl rfl (fun w' s => ⟨_, (law12_awake_con   w' H s.hold hG r7 e12)⟩)) ?_
          refine wq rfl rfl rfl (ov_pick_true rfl (guard_eq rfl hc8) rfl) ?_
          exact WL.nil ⟨Sub.cons' rfl (congrArg Value.bool (Option.some.inj hm)) (Sub.skip rfl (Sub.skip rfl (Sub.refl _))), fun _ s => s⟩
        · skip
          replace hm := ite_f hc8 e11
          refine WL.idle (Idle.no rfl rfl rfl hc8) rfl rfl ?_
          refine wq rfl rfl rfl (ov_pick_false rfl (guard_eq rfl hc8) rfl) ?_
          exact WL.nil ⟨Sub.cons' rfl (congrArg Value.bool (Option.some.inj hm)) (Sub.skip rfl (Sub.skip rfl (Sub.refl _))), fun _ s => s⟩
      refine wq rfl rfl rfl (ov_assign rfl rfl) ?_
      refine WL.nil (then_normal (WP.ret ?_))
      obtain rfl := Option.some.inj hm
      refine retQ_ret Tryd.results5 (Res.tmp rfl Res.nil) rfl (fun w' s => ⟨s.below, ?_⟩)
      exact rfl

end Go.Proofs.YtmfphbdafgmplaaDoor.W
