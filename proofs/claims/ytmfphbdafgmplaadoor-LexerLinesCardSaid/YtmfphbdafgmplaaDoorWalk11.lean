/- The walks. Written by our own program gen.py; Lean checks it. -/
import Derived.Test.YtmfphbdafgmplaaDoorPlain
import Derived.Test.YtmfphbdafgmplaaDoorEqs
import Derived.Test.YtmfphbdafgmplaaDoorProg
import Derived.Test.YtmfphbdafgmplaaDoorExt
import Derived.Test.YtmfphbdafgmplaaDoorClone
import Derived.Test.YtmfphbdafgmplaaDoorBuild
import Derived.Test.YtmfphbdafgmplaaDoorWalk0
import Derived.Test.YtmfphbdafgmplaaDoorWalk1
import Derived.Test.YtmfphbdafgmplaaDoorWalk3
import Derived.Test.YtmfphbdafgmplaaDoorWalk5
set_option linter.unusedVariables false
set_option maxRecDepth 100000
set_option maxHeartbeats 4000000
namespace Go.Proofs.YtmfphbdafgmplaaDoor.W
open Go Go.RowKit
theorem law12_LexerLines_con (p_s : (List UInt8)) (p_at : Int) (w : World) (H : Heap) (hH : Le H (hp w)) (hG : Glob H) (r : Bool) (hm : law12_LexerLines p_s p_at = some r) :
    Con Tryd.prog 7 [(mkS p_s), (.int .u16 p_at)] w H (fun v _ => v = (.bool r)) := by
  unfold law12_LexerLines at hm
  refine con_of hH Tryd.func7 rfl 86 Tryd.ntmps7 rfl ?_
  refine WP.seq (WP.region ?_)
  refine wq rfl rfl rfl (ov_assign rfl rfl) ?_
  refine WL.nil (then_normal (WP.seq (WP.seq (WP.region ?_))))
  refine wq rfl rfl rfl (ov_move rfl rfl) ?_
  refine wq rfl rfl rfl (ov_len_string Tryd.underlying9 rfl rfl) ?_
  refine wq rfl rfl rfl (ov_gtr rfl rfl rfl) ?_
  refine WL.nil (then_normal ?_)
  refine WP.cond rfl (fun hc1 => ?_) (fun hc1 => ?_)
  · replace hm := ite_t hc1 hm
    refine WP.seq (WP.region ?_)
    obtain ⟨r1, e1, hm⟩ := bind_some hm
    refine WL.quiet (Runs.free rfl) rfl rfl (oq_con (r := (.bool r1)) Tryd.call12 rfl rfl (fun w' s => ⟨_, (law12_awake_con   w' H s.hold hG r1 e1)⟩)) ?_
    refine wq rfl rfl rfl (ov_assign rfl rfl) ?_
    refine WL.nil (then_normal (WP.ret (then_ret ?_)))
    obtain rfl := Option.some.inj hm
    refine retQ_ret Tryd.results7 (Res.tmp rfl Res.nil) rfl (fun w' s => ⟨s.below, ?_⟩)
    exact rfl
  · replace hm := ite_f hc1 hm
    refine WP.skip (then_normal (WP.seq (WP.region ?_)))
    refine wq rfl rfl rfl (ov_move rfl rfl) ?_
    obtain ⟨r2, e2, hm⟩ := bind_some hm
    refine WL.step (Runs.free rfl) rfl rfl (os_con Tryd.call26 rfl rfl (fun w' s => (lexer_Lines_con p_s  w' H s.hold hG r2 e2)) (fun rr1 H1 hle1 hR1 => ?_))
    replace hG := hG.mono hle1
    obtain ⟨ao1, cap1, rfl, h1, hc2⟩ := hR1
    refine wq rfl rfl rfl (ov_move rfl rfl) ?_
    refine wq rfl rfl rfl (ov_extract rfl rfl rfl) ?_
    refine wq rfl rfl rfl (ov_extract rfl rfl rfl) ?_
    refine wq rfl rfl rfl (ov_assign rfl rfl) ?_
    refine wq rfl rfl rfl (ov_assign rfl rfl) ?_
    refine WL.nil (then_normal (WP.seq (WP.seq (WP.region ?_))))
    refine wq rfl rfl rfl (ov_move rfl rfl) ?_
    refine wq rfl rfl rfl (ov_eql rfl rfl rfl) ?_
    refine wq rfl rfl rfl (ov_move rfl rfl) ?_
    refine wq rfl rfl rfl (ov_seql rfl rfl rfl) ?_
    refine wq rfl rfl rfl (ov_move rfl rfl) ?_
    obtain ⟨c1, e3, hm⟩ := bind_some hm
    refine WL.cut_bool 3 28 (x := c1) ?_ ?_
    · rcases Bool.eq_false_or_eq_true (p_s == []) with hc3 | hc3
      · skip
        replace hm := ite_t hc3 e3
        refine WL.idle (Idle.no rfl rfl rfl hc3) rfl rfl ?_
        refine WL.idle (Idle.no rfl rfl rfl hc3) rfl rfl ?_
        refine wq rfl rfl rfl (ov_pick_true rfl (guard_eq rfl hc3) rfl) ?_
        exact WL.nil ⟨Sub.cons' rfl (congrArg Value.bool (Option.some.inj hm)) (Sub.skip rfl (Sub.skip rfl (Sub.skip rfl (Sub.refl _)))), fun _ s => s⟩
      · skip
        replace hm := ite_f hc3 e3
        refine WL.quiet (Runs.yes rfl rfl rfl hc3) rfl rfl (OV.quiet (ov_move rfl rfl)) ?_
        obtain ⟨r3, e4, hm⟩ := bind_some hm
        refine WL.quiet (Runs.yes rfl rfl rfl hc3) rfl rfl (oq_con (r := (.bool r3)) Tryd.call31 rfl rfl (fun w' s => ⟨_, (strings_HasSuffix_con p_s [10]  w' H1 s.hold hG r3 e4)⟩)) ?_
        refine wq rfl rfl rfl (ov_pick_false rfl (guard_eq rfl hc3) rfl) ?_
        exact WL.nil ⟨Sub.cons' rfl (congrArg Value.bool (Option.some.inj hm)) (Sub.skip rfl (Sub.skip rfl (Sub.skip rfl (Sub.refl _)))), fun _ s => s⟩
    refine wq rfl rfl rfl (ov_bneq Tryd.underlying4 rfl rfl rfl) ?_
    refine WL.nil (then_normal ?_)
    refine WP.cond rfl (fun hc4 => ?_) (fun hc4 => ?_)
    · replace hm := ite_t hc4 hm
      refine WP.seq (WP.region ?_)
      refine wq rfl rfl rfl (ov_assign rfl rfl) ?_
      refine WL.nil (then_normal (WP.ret (then_ret ?_)))
      obtain rfl := Option.some.inj hm
      refine retQ_ret Tryd.results7 (Res.tmp rfl Res.nil) rfl (fun w' s => ⟨s.below, ?_⟩)
      exact rfl
    · replace hm := ite_f hc4 hm
      refine WP.skip (then_normal ?_)
      obtain ⟨k1, hk1, hm⟩ := joinK_some hm
      refine WP.seq_join (fun g' S' => Sub [(0, (mkS p_s)), (1, (.int .u16 p_at)), (1000000007, (.bool false))] g' ∧ (∀ w', S' w' → St w H [] H1 w') ∧ k1 = some r) ?_ ?_
      · skip
        refine WP.seq (WP.region ?_)
        refine wq rfl rfl rfl (ov_move rfl rfl) ?_
        refine wq rfl rfl rfl (ov_eql rfl rfl rfl) ?_
        refine WL.nil (then_normal ?_)
        refine WP.cond rfl (fun hc5 => ?_) (fun hc5 => ?_)
        · replace hm := ite_t hc5 hm
          refine WP.seq (WP.region ?_)
          refine wq rfl rfl rfl (ov_move rfl rfl) ?_
          obtain ⟨r4, e5, hm⟩ := bind_some hm
          refine WL.quiet (Runs.free rfl) rfl rfl (oq_con (r := (.tuple #[(mkS r4.1), (.int .i64 r4.2)])) Tryd.call28 rfl rfl (fun w' s => ⟨_, (lexer_Unlines_con r2.1 ao1 cap1  w' H1 s.hold h1 hc2 hG r4 e5)⟩)) ?_
          refine wq rfl rfl rfl (ov_move rfl rfl) ?_
          refine wq rfl rfl rfl (ov_extract rfl rfl rfl) ?_
          refine wq rfl rfl rfl (ov_extract rfl rfl rfl) ?_
          refine wq rfl rfl rfl (ov_assign rfl rfl) ?_
          refine wq rfl rfl rfl (ov_assign rfl rfl) ?_
          refine WL.nil (then_normal (WP.seq (WP.region ?_)))
          refine wq rfl rfl rfl (ov_move rfl rfl) ?_
          refine wq rfl rfl rfl (ov_neq rfl rfl rfl) ?_
          refine wq rfl rfl rfl (ov_move rfl rfl) ?_
          refine WL.cut_bool 4 43 (x := ((r4.2 != 0) || (!(r4.1 == p_s)))) ?_ ?_
          · rcases Bool.eq_false_or_eq_true (r4.2 != 0) with hc6 | hc6
            · skip
              refine WL.idle (Idle.no rfl rfl rfl hc6) rfl rfl ?_
              refine WL.idle (Idle.no rfl rfl rfl hc6) rfl rfl ?_
              refine WL.idle (Idle.no rfl rfl rfl hc6) rfl rfl ?_
              refine wq rfl rfl rfl (ov_pick_true rfl (guard_eq rfl hc6) rfl) ?_
              exact WL.nil ⟨Sub.cons' rfl (congrArg Value.bool (orT hc6)) (Sub.skip rfl (Sub.skip rfl (Sub.skip rfl (Sub.skip rfl (Sub.refl _))))), fun _ s => s⟩
            · skip
              refine WL.quiet (Runs.yes rfl rfl rfl hc6) rfl rfl (OV.quiet (ov_move rfl rfl)) ?_
              refine WL.quiet (Runs.yes rfl rfl rfl hc6) rfl rfl (OV.quiet (ov_move rfl rfl)) ?_
              refine WL.quiet (Runs.yes rfl rfl rfl hc6) rfl rfl (OV.quiet (ov_sneq rfl rfl rfl)) ?_
              refine wq rfl rfl rfl (ov_pick_false rfl (guard_eq rfl hc6) rfl) ?_
              exact WL.nil ⟨Sub.cons' rfl (congrArg Value.bool (orF hc6)) (Sub.skip rfl (Sub.skip rfl (Sub.skip rfl (Sub.skip rfl (Sub.refl _))))), fun _ s => s⟩
          refine wq rfl rfl rfl (ov_move rfl rfl) ?_
          obtain ⟨c2, e6, hm⟩ := bind_some hm
          refine WL.cut_bool 6 50 (x := c2) ?_ ?_
          · rcases Bool.eq_false_or_eq_true ((r4.2 != 0) || (!(r4.1 == p_s))) with hc7 | hc7
            · skip
              replace hm := ite_t hc7 e6
              refine WL.idle (Idle.no rfl rfl rfl hc7) rfl rfl ?_
              refine WL.idle (Idle.no rfl rfl rfl hc7) rfl rfl ?_
              refine WL.idle (Idle.no rfl rfl rfl hc7) rfl rfl ?_
              refine WL.idle (Idle.no rfl rfl rfl hc7) rfl rfl ?_
              refine WL.idle (Idle.no rfl rfl rfl hc7) rfl rfl ?_
              refine wq rfl rfl rfl (ov_pick_true rfl (guard_eq rfl hc7) rfl) ?_
              exact WL.nil ⟨Sub.cons' rfl (congrArg Value.bool (Option.some.inj hm)) (Sub.skip rfl (Sub.skip rfl (Sub.skip rfl (Sub.skip rfl (Sub.skip rfl (Sub.skip rfl (Sub.refl _))))))), fun _ s => s⟩
            · skip
              replace hm := ite_f hc7 e6
              refine WL.quiet (Runs.yes rfl rfl rfl hc7) rfl rfl (OV.quiet (ov_move rfl rfl)) ?_
              refine WL.quiet (Runs.yes rfl rfl rfl hc7) rfl rfl (OV.quiet (ov_len_slice Tryd.underlying44 rfl rfl)) ?_
              refine WL.quiet (Runs.yes rfl rfl rfl hc7) rfl rfl (OV.quiet (ov_move rfl rfl)) ?_
              obtain ⟨r5, e7, hm⟩ := bind_some hm
              refine WL.quiet (Runs.yes rfl rfl rfl hc7) rfl rfl (oq_con (r := (.int .i64 r5)) Tryd.call32 rfl rfl (fun w' s => ⟨_, (countS_con p_s [10]  w' H1 s.hold hG r5 e7)⟩)) ?_
              refine WL.quiet (Runs.yes rfl rfl rfl hc7) rfl rfl (OV.quiet (ov_neq rfl rfl rfl)) ?_
              refine wq rfl rfl rfl (ov_pick_false rfl (guard_eq rfl hc7) rfl) ?_
              exact WL.nil ⟨Sub.cons' rfl (congrArg Value.bool (Option.some.inj hm)) (Sub.skip rfl (Sub.skip rfl (Sub.skip rfl (Sub.skip rfl (Sub.skip rfl (Sub.skip rfl (Sub.refl _))))))), fun _ s => s⟩
          refine WL.nil (then_normal ?_)
          refine WP.cond rfl (fun hc8 => ?_) (fun hc8 => ?_)
          · replace hm := ite_t hc8 hm
            refine WP.seq (WP.region ?_)
            refine wq rfl rfl rfl (ov_assign rfl rfl) ?_
            refine WL.nil (then_normal (WP.ret (then_ret ?_)))
            obtain rfl := Option.some.inj hm
            refine retQ_ret Tryd.results7 (Res.tmp rfl Res.nil) rfl (fun w' s => ⟨s.below, ?_⟩)
            exact rfl
          · replace hm := ite_f hc8 hm
            refine WP.skip (then_normal ?_)
            exact ⟨(Sub.cons rfl (Sub.cons rfl (Sub.cons rfl (Sub.nil _)))), fun w' s => s, hm⟩
        · replace hm := ite_f hc5 hm
          refine WP.skip (then_normal ?_)
          exact ⟨(Sub.cons rfl (Sub.cons rfl (Sub.cons rfl (Sub.nil _)))), fun w' s => s, hm⟩
      · rintro g' S' ⟨hsub1, hS1, hm⟩
        refine WP.sub hsub1 (WP.weaken hS1 ?_)
        replace hm := hk1.symm.trans hm
        refine WP.seq (WP.region ?_)
        refine wq rfl rfl rfl (ov_move rfl rfl) ?_
        refine wq rfl rfl rfl (ov_convert_int Tryd.underlying59 Tryd.underlying3 rfl rfl) ?_
        refine wq rfl rfl rfl (ov_move rfl rfl) ?_
        refine wq rfl rfl rfl (ov_len_string Tryd.underlying9 rfl rfl) ?_
        refine wq rfl rfl rfl (ov_add rfl rfl rfl) ?_
        obtain ⟨u1, e8, hm⟩ := bind_some hm
        replace e8 := guardO_some e8
        refine wq rfl rfl rfl (ov_rem rfl rfl rfl (by simpa using e8)) ?_
        refine wq rfl rfl rfl (ov_assign rfl rfl) ?_
        refine WL.nil (then_normal (WP.seq (WP.region ?_)))
        refine wq rfl rfl rfl (ov_move rfl rfl) ?_
        refine wq rfl rfl rfl (ov_move rfl rfl) ?_
        obtain ⟨r6, e9, hm⟩ := bind_some hm
        refine WL.quiet (Runs.free rfl) rfl rfl (oq_con (r := (.tuple #[(.int .i64 r6.1), (.int .i64 r6.2.1), (.int .i64 r6.2.2)])) Tryd.call13 rfl rfl (fun w' s => ⟨_, (lexer_Position_con p_s (Int.tmod (IntKind.wrap .i64 p_at) (IntKind.wrap .i64 ((p_s.length : Int) + 1)))  w' H1 s.hold hG r6 e9)⟩)) ?_
        refine wq rfl rfl rfl (ov_move rfl rfl) ?_
        refine wq rfl rfl rfl (ov_extract rfl rfl rfl) ?_
        refine wq rfl rfl rfl (ov_extract rfl rfl rfl) ?_
        refine wq rfl rfl rfl (ov_extract rfl rfl rfl) ?_
        refine wq rfl rfl rfl (ov_assign rfl rfl) ?_
        refine wq rfl rfl rfl (ov_assign rfl rfl) ?_
        refine wq rfl rfl rfl (ov_assign rfl rfl) ?_
        refine WL.nil (then_normal (WP.seq (WP.seq (WP.region ?_))))
        refine wq rfl rfl rfl (ov_move rfl rfl) ?_
        refine wq rfl rfl rfl (ov_neq rfl rfl rfl) ?_
        refine wq rfl rfl rfl (ov_move rfl rfl) ?_
        obtain ⟨c3, e10, hm⟩ := bind_some hm
        refine WL.cut_bool 7 73 (x := c3) ?_ ?_
        · rcases Bool.eq_false_or_eq_true (r6.2.2 != 0) with hc9 | hc9
          · skip
            replace hm := ite_t hc9 e10
            refine WL.idle (Idle.no rfl rfl rfl hc9) rfl rfl ?_
            refine WL.idle (Idle.no rfl rfl rfl hc9) rfl rfl ?_
            refine WL.idle (Idle.no rfl rfl rfl hc9) rfl rfl ?_
            refine WL.idle (Idle.no rfl rfl rfl hc9) rfl rfl ?_
            refine WL.idle (Idle.no rfl rfl rfl hc9) rfl rfl ?_
            refine WL.idle (Idle.no rfl rfl rfl hc9) rfl rfl ?_
            refine wq rfl rfl rfl (ov_pick_true rfl (guard_eq rfl hc9) rfl) ?_
            exact WL.nil ⟨Sub.cons' rfl (congrArg Value.bool (Option.some.inj hm)) (Sub.skip rfl (Sub.skip rfl (Sub.skip rfl (Sub.skip rfl (Sub.skip rfl (Sub.skip rfl (Sub.skip rfl (Sub.refl _)))))))), fun _ s => s⟩
          · skip
            replace hm := ite_f hc9 e10
            refine WL.quiet (Runs.yes rfl rfl rfl hc9) rfl rfl (OV.quiet (ov_move rfl rfl)) ?_
            refine WL.quiet (Runs.yes rfl rfl rfl hc9) rfl rfl (OV.quiet (ov_move rfl rfl)) ?_
            refine WL.quiet (Runs.yes rfl rfl rfl hc9) rfl rfl (OV.quiet (ov_move rfl rfl)) ?_
            obtain ⟨s1, e11, hm⟩ := bind_some hm
            refine WL.quiet (Runs.yes rfl rfl rfl hc9) rfl rfl (OV.quiet (ov_slice_string_to Tryd.underlying9 rfl rfl rfl e11)) ?_
            obtain ⟨r7, e12, hm⟩ := bind_some hm
            refine WL.quiet (Runs.yes rfl rfl rfl hc9) rfl rfl (oq_con (r := (.int .i64 r7)) Tryd.call32 rfl rfl (fun w' s => ⟨_, (countS_con s1 [10]  w' H1 s.hold hG r7 e12)⟩)) ?_
            refine WL.quiet (Runs.yes rfl rfl rfl hc9) rfl rfl (OV.quiet (ov_neq rfl rfl rfl)) ?_
            refine wq rfl rfl rfl (ov_pick_false rfl (guard_eq rfl hc9) rfl) ?_
            exact WL.nil ⟨Sub.cons' rfl (congrArg Value.bool (Option.some.inj hm)) (Sub.skip rfl (Sub.skip rfl (Sub.skip rfl (Sub.skip rfl (Sub.skip rfl (Sub.skip rfl (Sub.skip rfl (Sub.refl _)))))))), fun _ s => s⟩
        refine WL.nil (then_normal ?_)
        refine WP.cond rfl (fun hc10 => ?_) (fun hc10 => ?_)
        · replace hm := ite_t hc10 hm
          refine WP.seq (WP.region ?_)
          refine wq rfl rfl rfl (ov_assign rfl rfl) ?_
          refine WL.nil (then_normal (WP.ret (then_ret ?_)))
          obtain rfl := Option.some.inj hm
          refine retQ_ret Tryd.results7 (Res.tmp rfl Res.nil) rfl (fun w' s => ⟨s.below, ?_⟩)
          exact rfl
        · replace hm := ite_f hc10 hm
          refine WP.skip (then_normal (WP.seq (WP.region ?_)))
          refine wq rfl rfl rfl (ov_move rfl rfl) ?_
          refine wq rfl rfl rfl (ov_move rfl rfl) ?_
          refine wq rfl rfl rfl (ov_sub rfl rfl rfl) ?_
          refine wq rfl rfl rfl (ov_move rfl rfl) ?_
          refine wq rfl rfl rfl (ov_move rfl rfl) ?_
          obtain ⟨s2, e13, hm⟩ := bind_some hm
          refine wq rfl rfl rfl (ov_slice_string_to Tryd.underlying9 rfl rfl rfl e13) ?_
          obtain ⟨r8, e14, hm⟩ := bind_some hm
          refine WL.quiet (Runs.free rfl) rfl rfl (oq_con (r := (.int .i64 r8)) Tryd.call33 rfl rfl (fun w' s => ⟨_, (lastIdx_con s2 [10]  w' H1 s.hold hG r8 e14)⟩)) ?_
          refine wq rfl rfl rfl (ov_sub rfl rfl rfl) ?_
          refine wq rfl rfl rfl (ov_eql rfl rfl rfl) ?_
          refine wq rfl rfl rfl (ov_move rfl rfl) ?_
          obtain ⟨c4, e15, hm⟩ := bind_some hm
          refine WL.cut_bool 2 85 (x := c4) ?_ ?_
          · rcases Bool.eq_false_or_eq_true (r6.2.1 == (IntKind.wrap .i64 ((IntKind.wrap .i64 ((Int.tmod (IntKind.wrap .i64 p_at) (IntKind.wrap .i64 ((p_s.length : Int) + 1))) - 1)) - r8))) with hc11 | hc11
            · skip
              replace hm := ite_t hc11 e15
              obtain ⟨r9, e16, hm⟩ := bind_some hm
              refine WL.quiet (Runs.yes rfl rfl rfl hc11) rfl rfl (oq_con (r := (.bool r9)) Tryd.call12 rfl rfl (fun w' s => ⟨_, (law12_awake_con   w' H1 s.hold hG r9 e16)⟩)) ?_
              refine wq rfl rfl rfl (ov_pick_true rfl (guard_eq rfl hc11) rfl) ?_
              exact WL.nil ⟨Sub.cons' rfl (congrArg Value.bool (Option.some.inj hm)) (Sub.skip rfl (Sub.skip rfl (Sub.refl _))), fun _ s => s⟩
            · skip
              replace hm := ite_f hc11 e15
              refine WL.idle (Idle.no rfl rfl rfl hc11) rfl rfl ?_
              refine wq rfl rfl rfl (ov_pick_false rfl (guard_eq rfl hc11) rfl) ?_
              exact WL.nil ⟨Sub.cons' rfl (congrArg Value.bool (Option.some.inj hm)) (Sub.skip rfl (Sub.skip rfl (Sub.refl _))), fun _ s => s⟩
          refine wq rfl rfl rfl (ov_assign rfl rfl) ?_
          refine WL.nil (then_normal (WP.ret ?_))
          obtain rfl := Option.some.inj hm
          refine retQ_ret Tryd.results7 (Res.tmp rfl Res.nil) rfl (fun w' s => ⟨s.below, ?_⟩)
          exact rfl

end Go.Proofs.YtmfphbdafgmplaaDoor.W
