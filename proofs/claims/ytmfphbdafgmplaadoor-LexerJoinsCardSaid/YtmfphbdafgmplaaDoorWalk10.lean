/- The walks. Written by our own program gen.py; Lean checks it. -/
import Derived.Test.YtmfphbdafgmplaaDoorPlain
import Derived.Test.YtmfphbdafgmplaaDoorEqs
import Derived.Test.YtmfphbdafgmplaaDoorProg
import Derived.Test.YtmfphbdafgmplaaDoorExt
import Derived.Test.YtmfphbdafgmplaaDoorClone
import Derived.Test.YtmfphbdafgmplaaDoorBuild
import Derived.Test.YtmfphbdafgmplaaDoorWalk1
import Derived.Test.YtmfphbdafgmplaaDoorWalk2
import Derived.Test.YtmfphbdafgmplaaDoorWalk3
import Derived.Test.YtmfphbdafgmplaaDoorWalk4
import Derived.Test.YtmfphbdafgmplaaDoorWalk5
set_option linter.unusedVariables false
set_option maxRecDepth 100000
set_option maxHeartbeats 4000000
namespace Go.Proofs.YtmfphbdafgmplaaDoor.W
open Go Go.RowKit
theorem law12_LexerJoins_con (p_l : (List Token)) (p_s : (List UInt8)) (p_lines : (List (List UInt8))) (ao1 : Option Addr) (cap1 : Nat) (ao2 : Option Addr) (cap2 : Nat) (w : World) (H : Heap) (hH : Le H (hp w)) (h1 : SL H encToken ao1 p_l) (hc1 : p_l.length ≤ cap1) (h2 : SL H encStr ao2 p_lines) (hc2 : p_lines.length ≤ cap2) (hG : Glob H) (r : Bool) (hm : law12_LexerJoins p_l p_s p_lines = some r) :
    Con Tryd.prog 6 [(.slice ao1 p_l.length cap1), (mkS p_s), (.slice ao2 p_lines.length cap2)] w H (fun v _ => v = (.bool r)) := by
  unfold law12_LexerJoins at hm
  refine con_of hH Tryd.func6 rfl 94 Tryd.ntmps6 rfl ?_
  refine WP.seq (WP.region ?_)
  refine wq rfl rfl rfl (ov_assign rfl rfl) ?_
  refine WL.nil (then_normal (WP.seq (WP.seq (WP.region ?_))))
  refine wq rfl rfl rfl (ov_move rfl rfl) ?_
  obtain ⟨r1, e1, hm⟩ := bind_some hm
  refine WL.quiet (Runs.free rfl) rfl rfl (oq_con (r := (.bool r1)) Tryd.call22 rfl rfl (fun w' s => ⟨_, (ref12_Few_con p_l ao1 cap1  w' H s.hold h1 hc1 hG r1 e1)⟩)) ?_
  refine wq rfl rfl rfl (ov_not rfl rfl) ?_
  refine wq rfl rfl rfl (ov_move rfl rfl) ?_
  obtain ⟨c1, e2, hm⟩ := bind_some hm
  refine WL.cut_bool 4 26 (x := c1) ?_ ?_
  · rcases Bool.eq_false_or_eq_true (!r1) with hc3 | hc3
    · skip
      replace hm := ite_t hc3 e2
      refine WL.idle (Idle.no rfl rfl rfl hc3) rfl rfl ?_
      refine WL.idle (Idle.no rfl rfl rfl hc3) rfl rfl ?_
      refine WL.idle (Idle.no rfl rfl rfl hc3) rfl rfl ?_
      refine wq rfl rfl rfl (ov_pick_true rfl (guard_eq rfl hc3) rfl) ?_
      exact WL.nil ⟨Sub.cons' rfl (congrArg Value.bool (Option.some.inj hm)) (Sub.skip rfl (Sub.skip rfl (Sub.skip rfl (Sub.skip rfl (Sub.refl _))))), fun _ s => s⟩
    · skip
      replace hm := ite_f hc3 e2
      refine WL.quiet (Runs.yes rfl rfl rfl hc3) rfl rfl (OV.quiet (ov_move rfl rfl)) ?_
      obtain ⟨r2, e3, hm⟩ := bind_some hm
      refine WL.quiet (Runs.yes rfl rfl rfl hc3) rfl rfl (oq_con (r := (.bool r2)) Tryd.call11 rfl rfl (fun w' s => ⟨_, (ref12_Short_con p_s  w' H s.hold hG r2 e3)⟩)) ?_
      refine WL.quiet (Runs.yes rfl rfl rfl hc3) rfl rfl (OV.quiet (ov_not rfl rfl)) ?_
      refine wq rfl rfl rfl (ov_pick_false rfl (guard_eq rfl hc3) rfl) ?_
      exact WL.nil ⟨Sub.cons' rfl (congrArg Value.bool (Option.some.inj hm)) (Sub.skip rfl (Sub.skip rfl (Sub.skip rfl (Sub.skip rfl (Sub.refl _))))), fun _ s => s⟩
  refine wq rfl rfl rfl (ov_move rfl rfl) ?_
  obtain ⟨c2, e4, hm⟩ := bind_some hm
  refine WL.cut_bool 4 31 (x := c2) ?_ ?_
  · rcases Bool.eq_false_or_eq_true c1 with hc4 | hc4
    · skip
      replace hm := ite_t hc4 e4
      refine WL.idle (Idle.no rfl rfl rfl hc4) rfl rfl ?_
      refine WL.idle (Idle.no rfl rfl rfl hc4) rfl rfl ?_
      refine WL.idle (Idle.no rfl rfl rfl hc4) rfl rfl ?_
      refine wq rfl rfl rfl (ov_pick_true rfl (guard_eq rfl hc4) rfl) ?_
      exact WL.nil ⟨Sub.cons' rfl (congrArg Value.bool (Option.some.inj hm)) (Sub.skip rfl (Sub.skip rfl (Sub.skip rfl (Sub.skip rfl (Sub.refl _))))), fun _ s => s⟩
    · skip
      replace hm := ite_f hc4 e4
      refine WL.quiet (Runs.yes rfl rfl rfl hc4) rfl rfl (OV.quiet (ov_move rfl rfl)) ?_
      obtain ⟨r3, e5, hm⟩ := bind_some hm
      refine WL.quiet (Runs.yes rfl rfl rfl hc4) rfl rfl (oq_con (r := (.bool r3)) Tryd.call23 rfl rfl (fun w' s => ⟨_, (ref12_FewTexts_con p_lines ao2 cap2  w' H s.hold h2 hc2 hG r3 e5)⟩)) ?_
      refine WL.quiet (Runs.yes rfl rfl rfl hc4) rfl rfl (OV.quiet (ov_not rfl rfl)) ?_
      refine wq rfl rfl rfl (ov_pick_false rfl (guard_eq rfl hc4) rfl) ?_
      exact WL.nil ⟨Sub.cons' rfl (congrArg Value.bool (Option.some.inj hm)) (Sub.skip rfl (Sub.skip rfl (Sub.skip rfl (Sub.skip rfl (Sub.refl _))))), fun _ s => s⟩
  refine WL.nil (then_normal ?_)
  refine WP.cond rfl (fun hc5 => ?_) (fun hc5 => ?_)
  · replace hm := ite_t hc5 hm
    refine WP.seq (WP.region ?_)
    obtain ⟨r4, e6, hm⟩ := bind_some hm
    refine WL.quiet (Runs.free rfl) rfl rfl (oq_con (r := (.bool r4)) Tryd.call12 rfl rfl (fun w' s => ⟨_, (law12_awake_con   w' H s.hold hG r4 e6)⟩)) ?_
    refine wq rfl rfl rfl (ov_assign rfl rfl) ?_
    refine WL.nil (then_normal (WP.ret (then_ret ?_)))
    obtain rfl := Option.some.inj hm
    refine retQ_ret Tryd.results6 (Res.tmp rfl Res.nil) rfl (fun w' s => ⟨s.below, ?_⟩)
    exact rfl
  · replace hm := ite_f hc5 hm
    refine WP.skip (then_normal (WP.seq (WP.region ?_)))
    refine wq rfl rfl rfl (ov_move rfl rfl) ?_
    obtain ⟨r5, e7, hm⟩ := bind_some hm
    refine WL.quiet (Runs.free rfl) rfl rfl (oq_con (r := (.tuple #[(mkS r5.1), (.int .i64 r5.2)])) Tryd.call24 rfl rfl (fun w' s => ⟨_, (lexer_Join_con p_l ao1 cap1  w' H s.hold h1 hc1 hG r5 e7)⟩)) ?_
    refine wq rfl rfl rfl (ov_move rfl rfl) ?_
    refine wq rfl rfl rfl (ov_extract rfl rfl rfl) ?_
    refine wq rfl rfl rfl (ov_extract rfl rfl rfl) ?_
    refine wq rfl rfl rfl (ov_assign rfl rfl) ?_
    refine wq rfl rfl rfl (ov_assign rfl rfl) ?_
    refine WL.nil (then_normal (WP.seq (WP.region ?_)))
    refine wq rfl rfl rfl (ov_move rfl rfl) ?_
    obtain ⟨r6, e8, hm⟩ := bind_some hm
    refine WL.quiet (Runs.free rfl) rfl rfl (oq_con (r := (.tuple #[(mkS r6.1), (.int .i64 r6.2)])) Tryd.call25 rfl rfl (fun w' s => ⟨_, (ref12_Join_con p_l ao1 cap1  w' H s.hold h1 hc1 hG r6 e8)⟩)) ?_
    refine wq rfl rfl rfl (ov_move rfl rfl) ?_
    refine wq rfl rfl rfl (ov_extract rfl rfl rfl) ?_
    refine wq rfl rfl rfl (ov_extract rfl rfl rfl) ?_
    refine wq rfl rfl rfl (ov_assign rfl rfl) ?_
    refine wq rfl rfl rfl (ov_assign rfl rfl) ?_
    refine WL.nil (then_normal (WP.seq (WP.region ?_)))
    refine wq rfl rfl rfl (ov_move rfl rfl) ?_
    obtain ⟨r7, e9, hm⟩ := bind_some hm
    refine WL.step (Runs.free rfl) rfl rfl (os_con Tryd.call26 rfl rfl (fun w' s => (lexer_Lines_con p_s  w' H s.hold hG r7 e9)) (fun rr1 H1 hle1 hR1 => ?_))
    replace h1 := h1.mono hle1
    replace h2 := h2.mono hle1
    replace hG := hG.mono hle1
    obtain ⟨ao3, cap3, rfl, h3, hc6⟩ := hR1
    refine wq rfl rfl rfl (ov_move rfl rfl) ?_
    refine wq rfl rfl rfl (ov_extract rfl rfl rfl) ?_
    refine wq rfl rfl rfl (ov_extract rfl rfl rfl) ?_
    refine wq rfl rfl rfl (ov_assign rfl rfl) ?_
    refine wq rfl rfl rfl (ov_assign rfl rfl) ?_
    refine WL.nil (then_normal (WP.seq (WP.region ?_)))
    refine wq rfl rfl rfl (ov_move rfl rfl) ?_
    obtain ⟨r8, e10, hm⟩ := bind_some hm
    refine WL.step (Runs.free rfl) rfl rfl (os_con Tryd.call27 rfl rfl (fun w' s => (ref12_Lines_con p_s  w' H1 s.hold hG r8 e10)) (fun rr2 H2 hle2 hR2 => ?_))
    replace h1 := h1.mono hle2
    replace h2 := h2.mono hle2
    replace h3 := h3.mono hle2
    replace hG := hG.mono hle2
    obtain ⟨ao4, cap4, rfl, h4, hc7⟩ := hR2
    refine wq rfl rfl rfl (ov_move rfl rfl) ?_
    refine wq rfl rfl rfl (ov_extract rfl rfl rfl) ?_
    refine wq rfl rfl rfl (ov_extract rfl rfl rfl) ?_
    refine wq rfl rfl rfl (ov_assign rfl rfl) ?_
    refine wq rfl rfl rfl (ov_assign rfl rfl) ?_
    refine WL.nil (then_normal (WP.seq (WP.region ?_)))
    refine wq rfl rfl rfl (ov_move rfl rfl) ?_
    obtain ⟨r9, e11, hm⟩ := bind_some hm
    refine WL.quiet (Runs.free rfl) rfl rfl (oq_con (r := (.tuple #[(mkS r9.1), (.int .i64 r9.2)])) Tryd.call28 rfl rfl (fun w' s => ⟨_, (lexer_Unlines_con p_lines ao2 cap2  w' H2 s.hold h2 hc2 hG r9 e11)⟩)) ?_
    refine wq rfl rfl rfl (ov_move rfl rfl) ?_
    refine wq rfl rfl rfl (ov_extract rfl rfl rfl) ?_
    refine wq rfl rfl rfl (ov_extract rfl rfl rfl) ?_
    refine wq rfl rfl rfl (ov_assign rfl rfl) ?_
    refine wq rfl rfl rfl (ov_assign rfl rfl) ?_
    refine WL.nil (then_normal (WP.seq (WP.region ?_)))
    refine wq rfl rfl rfl (ov_move rfl rfl) ?_
    obtain ⟨r10, e12, hm⟩ := bind_some hm
    refine WL.quiet (Runs.free rfl) rfl rfl (oq_con (r := (.tuple #[(mkS r10.1), (.int .i64 r10.2)])) Tryd.call29 rfl rfl (fun w' s => ⟨_, (ref12_Unlines_con p_lines ao2 cap2  w' H2 s.hold h2 hc2 hG r10 e12)⟩)) ?_
    refine wq rfl rfl rfl (ov_move rfl rfl) ?_
    refine wq rfl rfl rfl (ov_extract rfl rfl rfl) ?_
    refine wq rfl rfl rfl (ov_extract rfl rfl rfl) ?_
    refine wq rfl rfl rfl (ov_assign rfl rfl) ?_
    refine wq rfl rfl rfl (ov_assign rfl rfl) ?_
    refine WL.nil (then_normal (WP.seq (WP.region ?_)))
    obtain ⟨r11, e13, hm⟩ := bind_some hm
    refine WL.quiet (Runs.free rfl) rfl rfl (oq_con (r := (.bool r11)) Tryd.call12 rfl rfl (fun w' s => ⟨_, (law12_awake_con   w' H2 s.hold hG r11 e13)⟩)) ?_
    refine wq rfl rfl rfl (ov_move rfl rfl) ?_
    refine WL.cut_bool 4 68 (x := (r11 && (r5.1 == r6.1))) ?_ ?_
    · rcases Bool.eq_false_or_eq_true r11 with hc8 | hc8
      · skip
        refine WL.quiet (Runs.yes rfl rfl rfl hc8) rfl rfl (OV.quiet (ov_move rfl rfl)) ?_
        refine WL.quiet (Runs.yes rfl rfl rfl hc8) rfl rfl (OV.quiet (ov_move rfl rfl)) ?_
        refine WL.quiet (Runs.yes rfl rfl rfl hc8) rfl rfl (OV.quiet (ov_seql rfl rfl rfl)) ?_
        refine wq rfl rfl rfl (ov_pick_true rfl (guard_eq rfl hc8) rfl) ?_
        exact WL.nil ⟨Sub.cons' rfl (congrArg Value.bool (andT hc8)) (Sub.skip rfl (Sub.skip rfl (Sub.skip rfl (Sub.skip rfl (Sub.refl _))))), fun _ s => s⟩
      · skip
        refine WL.idle (Idle.no rfl rfl rfl hc8) rfl rfl ?_
        refine WL.idle (Idle.no rfl rfl rfl hc8) rfl rfl ?_
        refine WL.idle (Idle.no rfl rfl rfl hc8) rfl rfl ?_
        refine wq rfl rfl rfl (ov_pick_false rfl (guard_eq rfl hc8) rfl) ?_
        exact WL.nil ⟨Sub.cons' rfl (congrArg Value.bool (andF hc8)) (Sub.skip rfl (Sub.skip rfl (Sub.skip rfl (Sub.skip rfl (Sub.refl _))))), fun _ s => s⟩
    refine wq rfl rfl rfl (ov_move rfl rfl) ?_
    refine WL.cut_bool 4 73 (x := ((r11 && (r5.1 == r6.1)) && (r5.2 == r6.2))) ?_ ?_
    · rcases Bool.eq_false_or_eq_true (r11 && (r5.1 == r6.1)) with hc9 | hc9
      · skip
        refine WL.quiet (Runs.yes rfl rfl rfl hc9) rfl rfl (OV.quiet (ov_move rfl rfl)) ?_
        refine WL.quiet (Runs.yes rfl rfl rfl hc9) rfl rfl (OV.quiet (ov_move rfl rfl)) ?_
        refine WL.quiet (Runs.yes rfl rfl rfl hc9) rfl rfl (OV.quiet (ov_eql rfl rfl rfl)) ?_
        refine wq rfl rfl rfl (ov_pick_true rfl (guard_eq rfl hc9) rfl) ?_
        exact WL.nil ⟨Sub.cons' rfl (congrArg Value.bool (andT hc9)) (Sub.skip rfl (Sub.skip rfl (Sub.skip rfl (Sub.skip rfl (Sub.refl _))))), fun _ s => s⟩
      · skip
        refine WL.idle (Idle.no rfl rfl rfl hc9) rfl rfl ?_
        refine WL.idle (Idle.no rfl rfl rfl hc9) rfl rfl ?_
        refine WL.idle (Idle.no rfl rfl rfl hc9) rfl rfl ?_
        refine wq rfl rfl rfl (ov_pick_false rfl (guard_eq rfl hc9) rfl) ?_
        exact WL.nil ⟨Sub.cons' rfl (congrArg Value.bool (andF hc9)) (Sub.skip rfl (Sub.skip rfl (Sub.skip rfl (Sub.skip rfl (Sub.refl _))))), fun _ s => s⟩
    refine wq rfl rfl rfl (ov_move rfl rfl) ?_
    obtain ⟨c3, e14, hm⟩ := bind_some hm
    refine WL.cut_bool 4 78 (x := c3) ?_ ?_
    · rcases Bool.eq_false_or_eq_true ((r11 && (r5.1 == r6.1)) && (r5.2 == r6.2)) with hc10 | hc10
      · skip
        replace hm := ite_t hc10 e14
        refine WL.quiet (Runs.yes rfl rfl rfl hc10) rfl rfl (OV.quiet (ov_move rfl rfl)) ?_
        refine WL.quiet (Runs.yes rfl rfl rfl hc10) rfl rfl (OV.quiet (ov_move rfl rfl)) ?_
        obtain ⟨r12, e15, hm⟩ := bind_some hm
        refine WL.quiet (Runs.yes rfl rfl rfl hc10) rfl rfl (oq_con (r := (.bool r12)) Tryd.call30 rfl rfl (fun w' s => ⟨_, (slices_Equal_stringstring_con r7.1 r8.1 ao3 cap3 ao4 cap4  w' H2 s.hold h3 hc6 h4 hc7 hG r12 e15)⟩)) ?_
        refine wq rfl rfl rfl (ov_pick_true rfl (guard_eq rfl hc10) rfl) ?_
        exact WL.nil ⟨Sub.cons' rfl (congrArg Value.bool (Option.some.inj hm)) (Sub.skip rfl (Sub.skip rfl (Sub.skip rfl (Sub.skip rfl (Sub.refl _))))), fun _ s => s⟩
      · skip
        replace hm := ite_f hc10 e14
        refine WL.idle (Idle.no rfl rfl rfl hc10) rfl rfl ?_
        refine WL.idle (Idle.no rfl rfl rfl hc10) rfl rfl ?_
        refine WL.idle (Idle.no rfl rfl rfl hc10) rfl rfl ?_
        refine wq rfl rfl rfl (ov_pick_false rfl (guard_eq rfl hc10) rfl) ?_
        exact WL.nil ⟨Sub.cons' rfl (congrArg Value.bool (Option.some.inj hm)) (Sub.skip rfl (Sub.skip rfl (Sub.skip rfl (Sub.skip rfl (Sub.refl _))))), fun _ s => s⟩
    refine wq rfl rfl rfl (ov_move rfl rfl) ?_
    refine WL.cut_bool 4 83 (x := (c3 && (r7.2 == r8.2))) ?_ ?_
    · rcases Bool.eq_false_or_eq_true c3 with hc11 | hc11
      · skip
        refine WL.quiet (Runs.yes rfl rfl rfl hc11) rfl rfl (OV.quiet (ov_move rfl rfl)) ?_
        refine WL.quiet (Runs.yes rfl rfl rfl hc11) rfl rfl (OV.quiet (ov_move rfl rfl)) ?_
        refine WL.quiet (Runs.yes rfl rfl rfl hc11) rfl rfl (OV.quiet (ov_eql rfl rfl rfl)) ?_
        refine wq rfl rfl rfl (ov_pick_true rfl (guard_eq rfl hc11) rfl) ?_
        exact WL.nil ⟨Sub.cons' rfl (congrArg Value.bool (andT hc11)) (Sub.skip rfl (Sub.skip rfl (Sub.skip rfl (Sub.skip rfl (Sub.refl _))))), fun _ s => s⟩
      · skip
        refine WL.idle (Idle.no rfl rfl rfl hc11) rfl rfl ?_
        refine WL.idle (Idle.no rfl rfl rfl hc11) rfl rfl ?_
        refine WL.idle (Idle.no rfl rfl rfl hc11) rfl rfl ?_
        refine wq rfl rfl rfl (ov_pick_false rfl (guard_eq rfl hc11) rfl) ?_
        exact WL.nil ⟨Sub.cons' rfl (congrArg Value.bool (andF hc11)) (Sub.skip rfl (Sub.skip rfl (Sub.skip rfl (Sub.skip rfl (Sub.refl _))))), fun _ s => s⟩
    refine wq rfl rfl rfl (ov_move rfl rfl) ?_
    refine WL.cut_bool 4 88 (x := ((c3 && (r7.2 == r8.2)) && (r9.1 == r10.1))) ?_ ?_
    · rcases Bool.eq_false_or_eq_true (c3 && (r7.2 == r8.2)) with hc12 | hc12
      · skip
        refine WL.quiet (Runs.yes rfl rfl rfl hc12) rfl rfl (OV.quiet (ov_move rfl rfl)) ?_
        refine WL.quiet (Runs.yes rfl rfl rfl hc12) rfl rfl (OV.quiet (ov_move rfl rfl)) ?_
        refine WL.quiet (Runs.yes rfl rfl rfl hc12) rfl rfl (OV.quiet (ov_seql rfl rfl rfl)) ?_
        refine wq rfl rfl rfl (ov_pick_true rfl (guard_eq rfl hc12) rfl) ?_
        exact WL.nil ⟨Sub.cons' rfl (congrArg Value.bool (andT hc12)) (Sub.skip rfl (Sub.skip rfl (Sub.skip rfl (Sub.skip rfl (Sub.refl _))))), fun _ s => s⟩
      · skip
        refine WL.idle (Idle.no rfl rfl rfl hc12) rfl rfl ?_
        refine WL.idle (Idle.no rfl rfl rfl hc12) rfl rfl ?_
        refine WL.idle (Idle.no rfl rfl rfl hc12) rfl rfl ?_
        refine wq rfl rfl rfl (ov_pick_false rfl (guard_eq rfl hc12) rfl) ?_
        exact WL.nil ⟨Sub.cons' rfl (congrArg Value.bool (andF hc12)) (Sub.skip rfl (Sub.skip rfl (Sub.skip rfl (Sub.skip rfl (Sub.refl _))))), fun _ s => s⟩
    refine wq rfl rfl rfl (ov_move rfl rfl) ?_
    refine WL.cut_bool 4 93 (x := (((c3 && (r7.2 == r8.2)) && (r9.1 == r10.1)) && (r9.2 == r10.2))) ?_ ?_
    · rcases Bool.eq_false_or_eq_true ((c3 && (r7.2 == r8.2)) && (r9.1 == r10.1)) with hc13 | hc13
      · skip
        refine WL.quiet (Runs.yes rfl rfl rfl hc13) rfl rfl (OV.quiet (ov_move rfl rfl)) ?_
        refine WL.quiet (Runs.yes rfl rfl rfl hc13) rfl rfl (OV.quiet (ov_move rfl rfl)) ?_
        refine WL.quiet (Runs.yes rfl rfl rfl hc13) rfl rfl (OV.quiet (ov_eql rfl rfl rfl)) ?_
        refine wq rfl rfl rfl (ov_pick_true rfl (guard_eq rfl hc13) rfl) ?_
        exact WL.nil ⟨Sub.cons' rfl (congrArg Value.bool (andT hc13)) (Sub.skip rfl (Sub.skip rfl (Sub.skip rfl (Sub.skip rfl (Sub.refl _))))), fun _ s => s⟩
      · skip
        refine WL.idle (Idle.no rfl rfl rfl hc13) rfl rfl ?_
        refine WL.idle (Idle.no rfl rfl rfl hc13) rfl rfl ?_
        refine WL.idle (Idle.no rfl rfl rfl hc13) rfl rfl ?_
        refine wq rfl rfl rfl (ov_pick_false rfl (guard_eq rfl hc13) rfl) ?_
        exact WL.nil ⟨Sub.cons' rfl (congrArg Value.bool (andF hc13)) (Sub.skip rfl (Sub.skip rfl (Sub.skip rfl (Sub.skip rfl (Sub.refl _))))), fun _ s => s⟩
    refine wq rfl rfl rfl (ov_assign rfl rfl) ?_
    refine WL.nil (then_normal (WP.ret ?_))
    obtain rfl := Option.some.inj hm
    refine retQ_ret Tryd.results6 (Res.tmp rfl Res.nil) rfl (fun w' s => ⟨s.below, ?_⟩)
    exact rfl

end Go.Proofs.YtmfphbdafgmplaaDoor.W
