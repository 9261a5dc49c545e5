/- The walks. Written by our own program gen.py; Lean checks it. -/
import Derived.Test.YtpigfknmlmeihaaDoorPlain
import Derived.Test.YtpigfknmlmeihaaDoorEqs
import Derived.Test.YtpigfknmlmeihaaDoorProg
import Derived.Test.YtpigfknmlmeihaaDoorExt
import Derived.Test.YtpigfknmlmeihaaDoorClone
import Derived.Test.YtpigfknmlmeihaaDoorInsert
import Derived.Test.YtpigfknmlmeihaaDoorBuild
import Derived.Test.YtpigfknmlmeihaaDoorWalk2
set_option linter.unusedVariables false
set_option maxRecDepth 100000
set_option maxHeartbeats 4000000
namespace Go.Proofs.YtpigfknmlmeihaaDoor.W
open Go Go.RowKit
theorem ref12_Letter_con (p_b : Int) (w : World) (H : Heap) (hH : Le H (hp w)) (hG : Glob H) (r : Bool) (hm : ref12_Letter p_b = some r) :
    Con Tryd.prog 59 [(.int .u8 p_b)] w H (fun v _ => v = (.bool r)) := by
  unfold ref12_Letter at hm
  refine con_of hH Tryd.func59 rfl 17 Tryd.ntmps59 rfl ?_
  refine WP.seq ?_
  refine WP.region ?_
  refine WL.quiet (Runs.free rfl) rfl rfl (OV.quiet (ov_assign rfl rfl)) ?_
  refine WL.nil ?_
  refine then_normal ?_
  refine WP.seq ?_
  refine WP.region ?_
  refine WL.quiet (Runs.free rfl) rfl rfl (OV.quiet (ov_move rfl rfl)) ?_
  refine WL.quiet (Runs.free rfl) rfl rfl (OV.quiet (ov_geq rfl rfl rfl)) ?_
  refine WL.quiet (Runs.free rfl) rfl rfl (OV.quiet (ov_move rfl rfl)) ?_
  refine WL.cut_bool 3 8 (x := ((decide (p_b ≥ 97)) && (decide (p_b ≤ 122)))) ?_ ?_
  · rcases Bool.eq_false_or_eq_true (decide (p_b ≥ 97)) with hc1 | hc1
    · skip
      refine WL.quiet (Runs.yes rfl rfl rfl hc1) rfl rfl (OV.quiet (ov_move rfl rfl)) ?_
      refine WL.quiet (Runs.yes rfl rfl rfl hc1) rfl rfl (OV.quiet (ov_leq rfl rfl rfl)) ?_
      refine WL.quiet (Runs.free rfl) rfl rfl (OV.quiet (ov_pick_true rfl (guard_eq rfl hc1) rfl)) ?_
      exact WL.nil ⟨Sub.cons' rfl (congrArg Value.bool (by rw [hc1]; rfl)) (Sub.skip rfl (Sub.skip rfl (Sub.skip rfl (Sub.refl _)))), fun _ s => s⟩
    · skip
      refine WL.idle (Idle.no rfl rfl rfl hc1) rfl rfl ?_
      refine WL.idle (Idle.no rfl rfl rfl hc1) rfl rfl ?_
      refine WL.quiet (Runs.free rfl) rfl rfl (OV.quiet (ov_pick_false rfl (guard_eq rfl hc1) rfl)) ?_
      exact WL.nil ⟨Sub.cons' rfl (congrArg Value.bool (by rw [hc1]; rfl)) (Sub.skip rfl (Sub.skip rfl (Sub.skip rfl (Sub.refl _)))), fun _ s => s⟩
  refine WL.quiet (Runs.free rfl) rfl rfl (OV.quiet (ov_move rfl rfl)) ?_
  refine WL.cut_bool 7 16 (x := (((decide (p_b ≥ 97)) && (decide (p_b ≤ 122))) || ((decide (p_b ≥ 65)) && (decide (p_b ≤ 90))))) ?_ ?_
  · rcases Bool.eq_false_or_eq_true ((decide (p_b ≥ 97)) && (decide (p_b ≤ 122))) with hc2 | hc2
    · skip
      refine WL.idle (Idle.no rfl rfl rfl hc2) rfl rfl ?_
      refine WL.idle (Idle.no rfl rfl rfl hc2) rfl rfl ?_
      refine WL.idle (Idle.no rfl rfl rfl hc2) rfl rfl ?_
      refine WL.idle (Idle.undef rfl rfl rfl) rfl rfl ?_
      refine WL.idle (Idle.undef rfl rfl rfl) rfl rfl ?_
      refine WL.idle (Idle.no rfl rfl rfl hc2) rfl rfl ?_
      refine WL.quiet (Runs.free rfl) rfl rfl (OV.quiet (ov_pick_true rfl (guard_eq rfl hc2) rfl)) ?_
      exact WL.nil ⟨Sub.cons' rfl (congrArg Value.bool (by rw [hc2]; rfl)) (Sub.skip rfl (Sub.skip rfl (Sub.skip rfl (Sub.skip rfl (Sub.skip rfl (Sub.skip rfl (Sub.skip rfl (Sub.refl _)))))))), fun _ s => s⟩
    · skip
      refine WL.quiet (Runs.yes rfl rfl rfl hc2) rfl rfl (OV.quiet (ov_move rfl rfl)) ?_
      refine WL.quiet (Runs.yes rfl rfl rfl hc2) rfl rfl (OV.quiet (ov_geq rfl rfl rfl)) ?_
      refine WL.quiet (Runs.yes rfl rfl rfl hc2) rfl rfl (OV.quiet (ov_move rfl rfl)) ?_
      refine WL.cut_bool 3 15 (x := ((decide (p_b ≥ 65)) && (decide (p_b ≤ 90)))) ?_ ?_
      · rcases Bool.eq_false_or_eq_true (decide (p_b ≥ 65)) with hc3 | hc3
        · skip
          refine WL.quiet (Runs.yes rfl rfl rfl hc3) rfl rfl (OV.quiet (ov_move rfl rfl)) ?_
          refine WL.quiet (Runs.yes rfl rfl rfl hc3) rfl rfl (OV.quiet (ov_leq rfl rfl rfl)) ?_
          refine WL.quiet (Runs.yes rfl rfl rfl hc2) rfl rfl (OV.quiet (ov_pick_true rfl (guard_eq rfl hc3) rfl)) ?_
          exact WL.nil ⟨Sub.cons' rfl (congrArg Value.bool (by rw [hc3]; rfl)) (Sub.skip rfl (Sub.skip rfl (Sub.skip rfl (Sub.refl _)))), fun _ s => s⟩
        · skip
          refine WL.idle (Idle.no rfl rfl rfl hc3) rfl rfl ?_
          refine WL.idle (Idle.no rfl rfl rfl hc3) rfl rfl ?_
          refine WL.quiet (Runs.yes rfl rfl rfl hc2) rfl rfl (OV.quiet (ov_pick_false rfl (guard_eq rfl hc3) rfl)) ?_
          exact WL.nil ⟨Sub.cons' rfl (congrArg Value.bool (by rw [hc3]; rfl)) (Sub.skip rfl (Sub.skip rfl (Sub.skip rfl (Sub.refl _)))), fun _ s => s⟩
      refine WL.quiet (Runs.free rfl) rfl rfl (OV.quiet (ov_pick_false rfl (guard_eq rfl hc2) rfl)) ?_
      exact WL.nil ⟨Sub.cons' rfl (congrArg Value.bool (by rw [hc2]; rfl)) (Sub.skip rfl (Sub.skip rfl (Sub.skip rfl (Sub.skip rfl (Sub.skip rfl (Sub.refl _)))))), fun _ s => s⟩
  refine WL.quiet (Runs.free rfl) rfl rfl (OV.quiet (ov_assign rfl rfl)) ?_
  refine WL.nil ?_
  refine then_normal ?_
  refine WP.ret ?_
  obtain rfl := Option.some.inj hm
  refine retQ_ret Tryd.results59 (Res.tmp rfl Res.nil) rfl (fun w' s => ⟨s.below, ?_⟩)
  exact rfl

theorem ref12_Digit_con (p_b : Int) (w : World) (H : Heap) (hH : Le H (hp w)) (hG : Glob H) (r : Bool) (hm : ref12_Digit p_b = some r) :
    Con Tryd.prog 75 [(.int .u8 p_b)] w H (fun v _ => v = (.bool r)) := by
  unfold ref12_Digit at hm
  refine con_of hH Tryd.func75 rfl 9 Tryd.ntmps75 rfl ?_
  refine WP.seq ?_
  refine WP.region ?_
  refine WL.quiet (Runs.free rfl) rfl rfl (OV.quiet (ov_assign rfl rfl)) ?_
  refine WL.nil ?_
  refine then_normal ?_
  refine WP.seq ?_
  refine WP.region ?_
  refine WL.quiet (Runs.free rfl) rfl rfl (OV.quiet (ov_move rfl rfl)) ?_
  refine WL.quiet (Runs.free rfl) rfl rfl (OV.quiet (ov_geq rfl rfl rfl)) ?_
  refine WL.quiet (Runs.free rfl) rfl rfl (OV.quiet (ov_move rfl rfl)) ?_
  refine WL.cut_bool 3 8 (x := ((decide (p_b ≥ 48)) && (decide (p_b ≤ 57)))) ?_ ?_
  · rcases Bool.eq_false_or_eq_true (decide (p_b ≥ 48)) with hc1 | hc1
    · skip
      refine WL.quiet (Runs.yes rfl rfl rfl hc1) rfl rfl (OV.quiet (ov_move rfl rfl)) ?_
      refine WL.quiet (Runs.yes rfl rfl rfl hc1) rfl rfl (OV.quiet (ov_leq rfl rfl rfl)) ?_
      refine WL.quiet (Runs.free rfl) rfl rfl (OV.quiet (ov_pick_true rfl (guard_eq rfl hc1) rfl)) ?_
      exact WL.nil ⟨Sub.cons' rfl (congrArg Value.bool (by rw [hc1]; rfl)) (Sub.skip rfl (Sub.skip rfl (Sub.skip rfl (Sub.refl _)))), fun _ s => s⟩
    · skip
      refine WL.idle (Idle.no rfl rfl rfl hc1) rfl rfl ?_
      refine WL.idle (Idle.no rfl rfl rfl hc1) rfl rfl ?_
      refine WL.quiet (Runs.free rfl) rfl rfl (OV.quiet (ov_pick_false rfl (guard_eq rfl hc1) rfl)) ?_
      exact WL.nil ⟨Sub.cons' rfl (congrArg Value.bool (by rw [hc1]; rfl)) (Sub.skip rfl (Sub.skip rfl (Sub.skip rfl (Sub.refl _)))), fun _ s => s⟩
  refine WL.quiet (Runs.free rfl) rfl rfl (OV.quiet (ov_assign rfl rfl)) ?_
  refine WL.nil ?_
  refine then_normal ?_
  refine WP.ret ?_
  obtain rfl := Option.some.inj hm
  refine retQ_ret Tryd.results75 (Res.tmp rfl Res.nil) rfl (fun w' s => ⟨s.below, ?_⟩)
  exact rfl

theorem ref12_inner_con (p_b : Int) (w : World) (H : Heap) (hH : Le H (hp w)) (hG : Glob H) (r : Bool) (hm : ref12_inner p_b = some r) :
    Con Tryd.prog 60 [(.int .u8 p_b)] w H (fun v _ => v = (.bool r)) := by
  unfold ref12_inner at hm
  refine con_of hH Tryd.func60 rfl 13 Tryd.ntmps60 rfl ?_
  refine WP.seq ?_
  refine WP.region ?_
  refine WL.quiet (Runs.free rfl) rfl rfl (OV.quiet (ov_assign rfl rfl)) ?_
  refine WL.nil ?_
  refine then_normal ?_
  refine WP.seq ?_
  refine WP.region ?_
  refine WL.quiet (Runs.free rfl) rfl rfl (OV.quiet (ov_move rfl rfl)) ?_
  obtain ⟨r1, e1, hm⟩ := bind_some hm
  refine WL.quiet (Runs.free rfl) rfl rfl (oq_con (r := (.bool r1)) Tryd.call59 rfl rfl (fun w' s => ⟨_, (ref12_Letter_con p_b  w' H s.hold hG r1 e1)⟩)) ?_
  refine WL.quiet (Runs.free rfl) rfl rfl (OV.quiet (ov_move rfl rfl)) ?_
  obtain ⟨c1, e2, hm⟩ := bind_some hm
  refine WL.cut_bool 3 8 (x := c1) ?_ ?_
  · rcases Bool.eq_false_or_eq_true r1 with hc1 | hc1
    · skip
      replace hm := ite_t hc1 e2
      refine WL.idle (Idle.no rfl rfl rfl hc1) rfl rfl ?_
      refine WL.idle (Idle.no rfl rfl rfl hc1) rfl rfl ?_
      refine WL.quiet (Runs.free rfl) rfl rfl (OV.quiet (ov_pick_true rfl (guard_eq rfl hc1) rfl)) ?_
      exact WL.nil ⟨Sub.cons' rfl (congrArg Value.bool (Option.some.inj hm)) (Sub.skip rfl (Sub.skip rfl (Sub.skip rfl (Sub.refl _)))), fun _ s => s⟩
    · skip
      replace hm := ite_f hc1 e2
      refine WL.quiet (Runs.yes rfl rfl rfl hc1) rfl rfl (OV.quiet (ov_move rfl rfl)) ?_
      obtain ⟨r2, e3, hm⟩ := bind_some hm
      refine WL.quiet (Runs.yes rfl rfl rfl hc1) rfl rfl (oq_con (r := (.bool r2)) Tryd.call75 rfl rfl (fun w' s => ⟨_, (ref12_Digit_con p_b  w' H s.hold hG r2 e3)⟩)) ?_
      refine WL.quiet (Runs.free rfl) rfl rfl (OV.quiet (ov_pick_false rfl (guard_eq rfl hc1) rfl)) ?_
      exact WL.nil ⟨Sub.cons' rfl (congrArg Value.bool (Option.some.inj hm)) (Sub.skip rfl (Sub.skip rfl (Sub.skip rfl (Sub.refl _)))), fun _ s => s⟩
  refine WL.quiet (Runs.free rfl) rfl rfl (OV.quiet (ov_move rfl rfl)) ?_
  refine WL.cut_bool 3 12 (x := (c1 || (p_b == 95))) ?_ ?_
  · rcases Bool.eq_false_or_eq_true c1 with hc2 | hc2
    · skip
      refine WL.idle (Idle.no rfl rfl rfl hc2) rfl rfl ?_
      refine WL.idle (Idle.no rfl rfl rfl hc2) rfl rfl ?_
      refine WL.quiet (Runs.free rfl) rfl rfl (OV.quiet (ov_pick_true rfl (guard_eq rfl hc2) rfl)) ?_
      exact WL.nil ⟨Sub.cons' rfl (congrArg Value.bool (by rw [hc2]; rfl)) (Sub.skip rfl (Sub.skip rfl (Sub.skip rfl (Sub.refl _)))), fun _ s => s⟩
    · skip
      refine WL.quiet (Runs.yes rfl rfl rfl hc2) rfl rfl (OV.quiet (ov_move rfl rfl)) ?_
      refine WL.quiet (Runs.yes rfl rfl rfl hc2) rfl rfl (OV.quiet (ov_eql rfl rfl rfl)) ?_
      refine WL.quiet (Runs.free rfl) rfl rfl (OV.quiet (ov_pick_false rfl (guard_eq rfl hc2) rfl)) ?_
      exact WL.nil ⟨Sub.cons' rfl (congrArg Value.bool (by rw [hc2]; rfl)) (Sub.skip rfl (Sub.skip rfl (Sub.skip rfl (Sub.refl _)))), fun _ s => s⟩
  refine WL.quiet (Runs.free rfl) rfl rfl (OV.quiet (ov_assign rfl rfl)) ?_
  refine WL.nil ?_
  refine then_normal ?_
  refine WP.ret ?_
  obtain rfl := Option.some.inj hm
  refine retQ_ret Tryd.results60 (Res.tmp rfl Res.nil) rfl (fun w' s => ⟨s.below, ?_⟩)
  exact rfl

theorem ref12_Word_con (p_s : (List UInt8)) (w : World) (H : Heap) (hH : Le H (hp w)) (hG : Glob H) (r : Int) (hm : ref12_Word p_s = some r) :
    Con Tryd.prog 41 [(mkS p_s)] w H (fun v _ => v = (.int .i64 r)) := by
  unfold ref12_Word at hm
  refine con_of hH Tryd.func41 rfl 27 Tryd.ntmps41 rfl ?_
  refine WP.seq ?_
  refine WP.region ?_
  refine WL.quiet (Runs.free rfl) rfl rfl (OV.quiet (ov_assign rfl rfl)) ?_
  refine WL.nil ?_
  refine then_normal ?_
  refine WP.seq ?_
  refine WP.seq ?_
  refine WP.region ?_
  refine WL.quiet (Runs.free rfl) rfl rfl (OV.quiet (ov_move rfl rfl)) ?_
  refine WL.quiet (Runs.free rfl) rfl rfl (OV.quiet (ov_len_string Tryd.underlying9 rfl rfl)) ?_
  refine WL.quiet (Runs.free rfl) rfl rfl (OV.quiet (ov_eql rfl rfl rfl)) ?_
  refine WL.quiet (Runs.free rfl) rfl rfl (OV.quiet (ov_move rfl rfl)) ?_
  obtain ⟨c1, e1, hm⟩ := bind_some hm
  refine WL.cut_bool 5 12 (x := c1) ?_ ?_
  · rcases Bool.eq_false_or_eq_true ((p_s.length : Int) == 0) with hc1 | hc1
    · skip
      replace hm := ite_t hc1 e1
      refine WL.idle (Idle.no rfl rfl rfl hc1) rfl rfl ?_
      refine WL.idle (Idle.no rfl rfl rfl hc1) rfl rfl ?_
      refine WL.idle (Idle.no rfl rfl rfl hc1) rfl rfl ?_
      refine WL.idle (Idle.no rfl rfl rfl hc1) rfl rfl ?_
      refine WL.quiet (Runs.free rfl) rfl rfl (OV.quiet (ov_pick_true rfl (guard_eq rfl hc1) rfl)) ?_
      exact WL.nil ⟨Sub.cons' rfl (congrArg Value.bool (Option.some.inj hm)) (Sub.skip rfl (Sub.skip rfl (Sub.skip rfl (Sub.skip rfl (Sub.skip rfl (Sub.refl _)))))), fun _ s => s⟩
    · skip
      replace hm := ite_f hc1 e1
      refine WL.quiet (Runs.yes rfl rfl rfl hc1) rfl rfl (OV.quiet (ov_move rfl rfl)) ?_
      obtain ⟨b1, e2, hm⟩ := bind_some hm
      refine WL.quiet (Runs.yes rfl rfl rfl hc1) rfl rfl (OV.quiet (ov_index_string Tryd.underlying9 rfl rfl rfl e2)) ?_
      obtain ⟨r1, e3, hm⟩ := bind_some hm
      refine WL.quiet (Runs.yes rfl rfl rfl hc1) rfl rfl (oq_con (r := (.bool r1)) Tryd.call59 rfl rfl (fun w' s => ⟨_, (ref12_Letter_con (b1.toNat : Int)  w' H s.hold hG r1 e3)⟩)) ?_
      refine WL.quiet (Runs.yes rfl rfl rfl hc1) rfl rfl (OV.quiet (ov_not rfl rfl)) ?_
      refine WL.quiet (Runs.free rfl) rfl rfl (OV.quiet (ov_pick_false rfl (guard_eq rfl hc1) rfl)) ?_
      exact WL.nil ⟨Sub.cons' rfl (congrArg Value.bool (Option.some.inj hm)) (Sub.skip rfl (Sub.skip rfl (Sub.skip rfl (Sub.skip rfl (Sub.skip rfl (Sub.refl _)))))), fun _ s => s⟩
  refine WL.nil ?_
  refine then_normal ?_
  refine WP.cond rfl (fun hc2 => ?_) (fun hc2 => ?_)
  · replace hm := ite_t hc2 hm
    refine WP.seq ?_
    refine WP.region ?_
    refine WL.quiet (Runs.free rfl) rfl rfl (OV.quiet (ov_assign rfl rfl)) ?_
    refine WL.nil ?_
    refine then_normal ?_
    refine WP.ret ?_
    refine then_ret ?_
    obtain rfl := Option.some.inj hm
    refine retQ_ret Tryd.results41 (Res.tmp rfl Res.nil) rfl (fun w' s => ⟨s.below, ?_⟩)
    exact rfl
  · replace hm := ite_f hc2 hm
    refine WP.skip ?_
    refine then_normal ?_
    obtain ⟨k1, hk1, hm⟩ := joinK_some hm
    refine WP.seq_join (fun g' S' => Sub [(0, (mkS p_s))] g' ∧ (∀ w', S' w' → St w H [] H w') ∧ k1 = some r) ?_ ?_
    · skip
      refine WP.seq ?_
      refine WP.region ?_
      refine WL.quiet (Runs.free rfl) rfl rfl (OV.quiet (ov_assign rfl rfl)) ?_
      refine WL.nil ?_
      refine then_normal ?_
      refine WP.block ?_
      refine WP.loop (fun m1 g' S' => ∃ (i1 : Int), Sub [(0, (mkS p_s)), (3, (.int .i64 i1))] g' ∧ (∀ w', S' w' → St w H [] H w') ∧ ref12_Word_loop1 p_s k1 m1 i1 = some r) ((Int.toNat ((p_s.length : Int) - 0) + 1)) ⟨0, (Sub.cons rfl (Sub.cons rfl (Sub.nil _))), fun w' s => s, hm⟩ ?_ ?_
      · rintro g' S' ⟨_, _, _, hm⟩
        exact none_some hm
      · rintro m1 g' S' ⟨i1, hsub1, hS1, hm⟩
        refine WP.sub hsub1 (WP.weaken hS1 ?_)
        rw [ref12_Word_loop1] at hm
        refine WP.seq ?_
        refine WP.seq ?_
        refine WP.region ?_
        refine WL.quiet (Runs.free rfl) rfl rfl (OV.quiet (ov_move rfl rfl)) ?_
        refine WL.quiet (Runs.free rfl) rfl rfl (OV.quiet (ov_move rfl rfl)) ?_
        refine WL.quiet (Runs.free rfl) rfl rfl (OV.quiet (ov_len_string Tryd.underlying9 rfl rfl)) ?_
        refine WL.quiet (Runs.free rfl) rfl rfl (OV.quiet (ov_lss rfl rfl rfl)) ?_
        refine WL.nil ?_
        refine then_normal ?_
        refine WP.cond rfl (fun hc3 => ?_) (fun hc3 => ?_)
        · replace hm := ite_t hc3 hm
          refine WP.skip ?_
          refine then_normal ?_
          refine WP.seq ?_
          refine WP.block ?_
          refine WP.seq ?_
          refine WP.region ?_
          refine WL.quiet (Runs.free rfl) rfl rfl (OV.quiet (ov_move rfl rfl)) ?_
          refine WL.quiet (Runs.free rfl) rfl rfl (OV.quiet (ov_move rfl rfl)) ?_
          obtain ⟨b2, e4, hm⟩ := bind_some hm
          refine WL.quiet (Runs.free rfl) rfl rfl (OV.quiet (ov_index_string Tryd.underlying9 rfl rfl rfl e4)) ?_
          obtain ⟨r2, e5, hm⟩ := bind_some hm
          refine WL.quiet (Runs.free rfl) rfl rfl (oq_con (r := (.bool r2)) Tryd.call60 rfl rfl (fun w' s => ⟨_, (ref12_inner_con (b2.toNat : Int)  w' H s.hold hG r2 e5)⟩)) ?_
          refine WL.quiet (Runs.free rfl) rfl rfl (OV.quiet (ov_not rfl rfl)) ?_
          refine WL.nil ?_
          refine then_normal ?_
          refine WP.cond rfl (fun hc4 => ?_) (fun hc4 => ?_)
          · replace hm := ite_t hc4 hm
            refine WP.seq ?_
            refine WP.region ?_
            refine WL.quiet (Runs.free rfl) rfl rfl (OV.quiet (ov_assign rfl rfl)) ?_
            refine WL.nil ?_
            refine then_normal ?_
            refine WP.ret ?_
            refine block_ret ?_
            refine then_ret ?_
            refine then_ret ?_
            refine block_ret ?_
            refine then_ret ?_
            obtain rfl := Option.some.inj hm
            refine retQ_ret Tryd.results41 (Res.tmp rfl Res.nil) rfl (fun w' s => ⟨s.below, ?_⟩)
            exact rfl
          · replace hm := ite_f hc4 hm
            refine WP.skip ?_
            refine block_normal ?_
            refine then_normal ?_
            refine WP.region ?_
            refine WL.quiet (Runs.free rfl) rfl rfl (OV.quiet (ov_move rfl rfl)) ?_
            refine WL.quiet (Runs.free rfl) rfl rfl (OV.quiet (ov_add rfl rfl rfl)) ?_
            refine WL.quiet (Runs.free rfl) rfl rfl (OV.quiet (ov_assign rfl rfl)) ?_
            refine WL.nil ?_
            refine then_normal ?_
            exact ⟨(IntKind.wrap .i64 (i1 + 1)), (Sub.cons rfl (Sub.cons rfl (Sub.nil _))), fun w' s => s, hm⟩
        · replace hm := ite_f hc3 hm
          refine WP.exit ?_
          refine then_exit ?_
          refine then_exit ?_
          refine block_here ?_
          refine then_normal ?_
          exact ⟨(Sub.cons rfl (Sub.nil _)), fun w' s => s, hm⟩
    · rintro g' S' ⟨hsub2, hS2, hm⟩
      refine WP.sub hsub2 (WP.weaken hS2 ?_)
      replace hm := hk1.symm.trans hm
      refine WP.seq ?_
      refine WP.seq ?_
      refine WP.region ?_
      refine WL.quiet (Runs.free rfl) rfl rfl (OV.quiet (ov_move rfl rfl)) ?_
      refine WL.quiet (Runs.free rfl) rfl rfl (OV.quiet (ov_len_string Tryd.underlying9 rfl rfl)) ?_
      refine WL.quiet (Runs.free rfl) rfl rfl (OV.quiet (ov_gtr rfl rfl rfl)) ?_
      refine WL.nil ?_
      refine then_normal ?_
      refine WP.cond rfl (fun hc5 => ?_) (fun hc5 => ?_)
      · replace hm := ite_t hc5 hm
        refine WP.seq ?_
        refine WP.region ?_
        refine WL.quiet (Runs.free rfl) rfl rfl (OV.quiet (ov_assign rfl rfl)) ?_
        refine WL.nil ?_
        refine then_normal ?_
        refine WP.ret ?_
        refine then_ret ?_
        obtain rfl := Option.some.inj hm
        refine retQ_ret Tryd.results41 (Res.tmp rfl Res.nil) rfl (fun w' s => ⟨s.below, ?_⟩)
        exact rfl
      · replace hm := ite_f hc5 hm
        refine WP.skip ?_
        refine then_normal ?_
        refine WP.seq ?_
        refine WP.region ?_
        refine WL.quiet (Runs.free rfl) rfl rfl (OV.quiet (ov_assign rfl rfl)) ?_
        refine WL.nil ?_
        refine then_normal ?_
        refine WP.ret ?_
        obtain rfl := Option.some.inj hm
        refine retQ_ret Tryd.results41 (Res.tmp rfl Res.nil) rfl (fun w' s => ⟨s.below, ?_⟩)
        exact rfl

theorem ref58_item_con (p_x : Item) (p_cycles : Int) (w : World) (H : Heap) (hH : Le H (hp w)) (hG : Glob H) (r : Int) (hm : ref58_item p_x p_cycles = some r) :
    Con Tryd.prog 42 [(.agg #[(mkS p_x.name), (.int .i64 p_x.life), (.int .i64 p_x.used), (.int .i64 p_x.faults), (.bool p_x.faulty), (.int .i64 p_x.since), (.int .i64 p_x.cycles)]), (.int .i64 p_cycles)] w H (fun v _ => v = (.int .i64 r)) := by
  unfold ref58_item at hm
  refine con_of hH Tryd.func42 rfl 49 Tryd.ntmps42 rfl ?_
  refine WP.seq ?_
  refine WP.region ?_
  refine WL.step (Runs.free rfl) rfl rfl (os_box (cs := [(mkS p_x.name), (.int .i64 p_x.life), (.int .i64 p_x.used), (.int .i64 p_x.faults), (.bool p_x.faulty), (.int .i64 p_x.since), (.int .i64 p_x.cycles)]) rfl rfl rfl (fun b1 => ?_))
  refine WL.quiet (Runs.free rfl) rfl rfl (OV.quiet (ov_assign rfl rfl)) ?_
  refine WL.nil ?_
  refine then_normal ?_
  refine WP.seq ?_
  refine WP.seq ?_
  refine WP.region ?_
  refine WL.quiet (Runs.free rfl) rfl rfl (OV.quiet (ov_fieldAddr Tryd.underlying80 rfl rfl rfl Tryd.sizeOf3 rfl rfl)) ?_
  refine WL.quiet (Runs.free rfl) rfl rfl (OV.quiet (ov_load_box (i := 0) Tryd.isAgg3 rfl rfl rfl rfl)) ?_
  obtain ⟨r1, e1, hm⟩ := bind_some hm
  refine WL.quiet (Runs.free rfl) rfl rfl (oq_con (r := (.bool r1)) Tryd.call40 rfl rfl (fun w' s => ⟨_, (ref58_in_con p_x.life 1 1048576  w' H s.hold hG r1 e1)⟩)) ?_
  refine WL.quiet (Runs.free rfl) rfl rfl (OV.quiet (ov_not rfl rfl)) ?_
  refine WL.quiet (Runs.free rfl) rfl rfl (OV.quiet (ov_move rfl rfl)) ?_
  obtain ⟨c1, e2, hm⟩ := bind_some hm
  refine WL.cut_bool 5 14 (x := c1) ?_ ?_
  · rcases Bool.eq_false_or_eq_true (!r1) with hc1 | hc1
    · skip
      replace hm := ite_t hc1 e2
      refine WL.idle (Idle.no rfl rfl rfl hc1) rfl rfl ?_
      refine WL.idle (Idle.no rfl rfl rfl hc1) rfl rfl ?_
      refine WL.idle (Idle.no rfl rfl rfl hc1) rfl rfl ?_
      refine WL.idle (Idle.no rfl rfl rfl hc1) rfl rfl ?_
      refine WL.quiet (Runs.free rfl) rfl rfl (OV.quiet (ov_pick_true rfl (guard_eq rfl hc1) rfl)) ?_
      exact WL.nil ⟨Sub.cons' rfl (congrArg Value.bool (Option.some.inj hm)) (Sub.skip rfl (Sub.skip rfl (Sub.skip rfl (Sub.skip rfl (Sub.skip rfl (Sub.refl _)))))), fun _ s => s⟩
    · skip
      replace hm := ite_f hc1 e2
      refine WL.quiet (Runs.yes rfl rfl rfl hc1) rfl rfl (OV.quiet (ov_fieldAddr Tryd.underlying80 rfl rfl rfl Tryd.sizeOf3 rfl rfl)) ?_
      refine WL.quiet (Runs.yes rfl rfl rfl hc1) rfl rfl (OV.quiet (ov_load_box (i := 0) Tryd.isAgg3 rfl rfl rfl rfl)) ?_
      obtain ⟨r2, e3, hm⟩ := bind_some hm
      refine WL.quiet (Runs.yes rfl rfl rfl hc1) rfl rfl (oq_con (r := (.bool r2)) Tryd.call40 rfl rfl (fun w' s => ⟨_, (ref58_in_con p_x.used 0 1048576  w' H s.hold hG r2 e3)⟩)) ?_
      refine WL.quiet (Runs.yes rfl rfl rfl hc1) rfl rfl (OV.quiet (ov_not rfl rfl)) ?_
      refine WL.quiet (Runs.free rfl) rfl rfl (OV.quiet (ov_pick_false rfl (guard_eq rfl hc1) rfl)) ?_
      exact WL.nil ⟨Sub.cons' rfl (congrArg Value.bool (Option.some.inj hm)) (Sub.skip rfl (Sub.skip rfl (Sub.skip rfl (Sub.skip rfl (Sub.skip rfl (Sub.refl _)))))), fun _ s => s⟩
  refine WL.quiet (Runs.free rfl) rfl rfl (OV.quiet (ov_move rfl rfl)) ?_
  obtain ⟨c2, e4, hm⟩ := bind_some hm
  refine WL.cut_bool 5 20 (x := c2) ?_ ?_
  · rcases Bool.eq_false_or_eq_true c1 with hc2 | hc2
    · skip
      replace hm := ite_t hc2 e4
      refine WL.idle (Idle.no rfl rfl rfl hc2) rfl rfl ?_
      refine WL.idle (Idle.no rfl rfl rfl hc2) rfl rfl ?_
      refine WL.idle (Idle.no rfl rfl rfl hc2) rfl rfl ?_
      refine WL.idle (Idle.no rfl rfl rfl hc2) rfl rfl ?_
      refine WL.quiet (Runs.free rfl) rfl rfl (OV.quiet (ov_pick_true rfl (guard_eq rfl hc2) rfl)) ?_
      exact WL.nil ⟨Sub.cons' rfl (congrArg Value.bool (Option.some.inj hm)) (Sub.skip rfl (Sub.skip rfl (Sub.skip rfl (Sub.skip rfl (Sub.skip rfl (Sub.refl _)))))), fun _ s => s⟩
    · skip
      replace hm := ite_f hc2 e4
      refine WL.quiet (Runs.yes rfl rfl rfl hc2) rfl rfl (OV.quiet (ov_fieldAddr Tryd.underlying80 rfl rfl rfl Tryd.sizeOf3 rfl rfl)) ?_
      refine WL.quiet (Runs.yes rfl rfl rfl hc2) rfl rfl (OV.quiet (ov_load_box (i := 0) Tryd.isAgg3 rfl rfl rfl rfl)) ?_
      obtain ⟨r3, e5, hm⟩ := bind_some hm
      refine WL.quiet (Runs.yes rfl rfl rfl hc2) rfl rfl (oq_con (r := (.bool r3)) Tryd.call40 rfl rfl (fun w' s => ⟨_, (ref58_in_con p_x.faults 0 4096  w' H s.hold hG r3 e5)⟩)) ?_
      refine WL.quiet (Runs.yes rfl rfl rfl hc2) rfl rfl (OV.quiet (ov_not rfl rfl)) ?_
      refine WL.quiet (Runs.free rfl) rfl rfl (OV.quiet (ov_pick_false rfl (guard_eq rfl hc2) rfl)) ?_
      exact WL.nil ⟨Sub.cons' rfl (congrArg Value.bool (Option.some.inj hm)) (Sub.skip rfl (Sub.skip rfl (Sub.skip rfl (Sub.skip rfl (Sub.skip rfl (Sub.refl _)))))), fun _ s => s⟩
  refine WL.nil ?_
  refine then_normal ?_
  refine WP.cond rfl (fun hc3 => ?_) (fun hc3 => ?_)
  · replace hm := ite_t hc3 hm
    refine WP.seq ?_
    refine WP.region ?_
    refine WL.quiet (Runs.free rfl) rfl rfl (OV.quiet (ov_assign rfl rfl)) ?_
    refine WL.nil ?_
    refine then_normal ?_
    refine WP.ret ?_
    refine then_ret ?_
    obtain rfl := Option.some.inj hm
    refine retQ_ret Tryd.results42 (Res.tmp rfl Res.nil) rfl (fun w' s => ⟨s.below, ?_⟩)
    exact rfl
  · replace hm := ite_f hc3 hm
    refine WP.skip ?_
    refine then_normal ?_
    refine WP.seq ?_
    refine WP.seq ?_
    refine WP.region ?_
    refine WL.quiet (Runs.free rfl) rfl rfl (OV.quiet (ov_fieldAddr Tryd.underlying80 rfl rfl rfl Tryd.sizeOf3 rfl rfl)) ?_
    refine WL.quiet (Runs.free rfl) rfl rfl (OV.quiet (ov_load_box (i := 0) Tryd.isAgg3 rfl rfl rfl rfl)) ?_
    refine WL.quiet (Runs.free rfl) rfl rfl (OV.quiet (ov_move rfl rfl)) ?_
    obtain ⟨r4, e6, hm⟩ := bind_some hm
    refine WL.quiet (Runs.free rfl) rfl rfl (oq_con (r := (.bool r4)) Tryd.call40 rfl rfl (fun w' s => ⟨_, (ref58_in_con p_x.since 0 p_cycles  w' H s.hold hG r4 e6)⟩)) ?_
    refine WL.quiet (Runs.free rfl) rfl rfl (OV.quiet (ov_not rfl rfl)) ?_
    refine WL.quiet (Runs.free rfl) rfl rfl (OV.quiet (ov_move rfl rfl)) ?_
    obtain ⟨c3, e7, hm⟩ := bind_some hm
    refine WL.cut_bool 6 32 (x := c3) ?_ ?_
    · rcases Bool.eq_false_or_eq_true (!r4) with hc4 | hc4
      · skip
        replace hm := ite_t hc4 e7
        refine WL.idle (Idle.no rfl rfl rfl hc4) rfl rfl ?_
        refine WL.idle (Idle.no rfl rfl rfl hc4) rfl rfl ?_
        refine WL.idle (Idle.no rfl rfl rfl hc4) rfl rfl ?_
        refine WL.idle (Idle.no rfl rfl rfl hc4) rfl rfl ?_
        refine WL.idle (Idle.no rfl rfl rfl hc4) rfl rfl ?_
        refine WL.quiet (Runs.free rfl) rfl rfl (OV.quiet (ov_pick_true rfl (guard_eq rfl hc4) rfl)) ?_
        exact WL.nil ⟨Sub.cons' rfl (congrArg Value.bool (Option.some.inj hm)) (Sub.skip rfl (Sub.skip rfl (Sub.skip rfl (Sub.skip rfl (Sub.skip rfl (Sub.skip rfl (Sub.refl _))))))), fun _ s => s⟩
      · skip
        replace hm := ite_f hc4 e7
        refine WL.quiet (Runs.yes rfl rfl rfl hc4) rfl rfl (OV.quiet (ov_fieldAddr Tryd.underlying80 rfl rfl rfl Tryd.sizeOf3 rfl rfl)) ?_
        refine WL.quiet (Runs.yes rfl rfl rfl hc4) rfl rfl (OV.quiet (ov_load_box (i := 0) Tryd.isAgg3 rfl rfl rfl rfl)) ?_
        refine WL.quiet (Runs.yes rfl rfl rfl hc4) rfl rfl (OV.quiet (ov_move rfl rfl)) ?_
        obtain ⟨r5, e8, hm⟩ := bind_some hm
        refine WL.quiet (Runs.yes rfl rfl rfl hc4) rfl rfl (oq_con (r := (.bool r5)) Tryd.call40 rfl rfl (fun w' s => ⟨_, (ref58_in_con p_x.cycles 0 p_cycles  w' H s.hold hG r5 e8)⟩)) ?_
        refine WL.quiet (Runs.yes rfl rfl rfl hc4) rfl rfl (OV.quiet (ov_not rfl rfl)) ?_
        refine WL.quiet (Runs.free rfl) rfl rfl (OV.quiet (ov_pick_false rfl (guard_eq rfl hc4) rfl)) ?_
        exact WL.nil ⟨Sub.cons' rfl (congrArg Value.bool (Option.some.inj hm)) (Sub.skip rfl (Sub.skip rfl (Sub.skip rfl (Sub.skip rfl (Sub.skip rfl (Sub.skip rfl (Sub.refl _))))))), fun _ s => s⟩
    refine WL.quiet (Runs.free rfl) rfl rfl (OV.quiet (ov_move rfl rfl)) ?_
    refine WL.cut_bool 8 41 (x := (c3 || (decide ((IntKind.wrap .i64 (p_x.since + p_x.cycles)) > p_cycles)))) ?_ ?_
    · rcases Bool.eq_false_or_eq_true c3 with hc5 | hc5
      · skip
        refine WL.idle (Idle.no rfl rfl rfl hc5) rfl rfl ?_
        refine WL.idle (Idle.no rfl rfl rfl hc5) rfl rfl ?_
        refine WL.idle (Idle.no rfl rfl rfl hc5) rfl rfl ?_
        refine WL.idle (Idle.no rfl rfl rfl hc5) rfl rfl ?_
        refine WL.idle (Idle.no rfl rfl rfl hc5) rfl rfl ?_
        refine WL.idle (Idle.no rfl rfl rfl hc5) rfl rfl ?_
        refine WL.idle (Idle.no rfl rfl rfl hc5) rfl rfl ?_
        refine WL.quiet (Runs.free rfl) rfl rfl (OV.quiet (ov_pick_true rfl (guard_eq rfl hc5) rfl)) ?_
        exact WL.nil ⟨Sub.cons' rfl (congrArg Value.bool (by rw [hc5]; rfl)) (Sub.skip rfl (Sub.skip rfl (Sub.skip rfl (Sub.skip rfl (Sub.skip rfl (Sub.skip rfl (Sub.skip rfl (Sub.skip rfl (Sub.refl _))))))))), fun _ s => s⟩
      · skip
        refine WL.quiet (Runs.yes rfl rfl rfl hc5) rfl rfl (OV.quiet (ov_fieldAddr Tryd.underlying80 rfl rfl rfl Tryd.sizeOf3 rfl rfl)) ?_
        refine WL.quiet (Runs.yes rfl rfl rfl hc5) rfl rfl (OV.quiet (ov_load_box (i := 0) Tryd.isAgg3 rfl rfl rfl rfl)) ?_
        refine WL.quiet (Runs.yes rfl rfl rfl hc5) rfl rfl (OV.quiet (ov_fieldAddr Tryd.underlying80 rfl rfl rfl Tryd.sizeOf3 rfl rfl)) ?_
        refine WL.quiet (Runs.yes rfl rfl rfl hc5) rfl rfl (OV.quiet (ov_load_box (i := 0) Tryd.isAgg3 rfl rfl rfl rfl)) ?_
        refine WL.quiet (Runs.yes rfl rfl rfl hc5) rfl rfl (OV.quiet (ov_add rfl rfl rfl)) ?_
        refine WL.quiet (Runs.yes rfl rfl rfl hc5) rfl rfl (OV.quiet (ov_move rfl rfl)) ?_
        refine WL.quiet (Runs.yes rfl rfl rfl hc5) rfl rfl (OV.quiet (ov_gtr rfl rfl rfl)) ?_
        refine WL.quiet (Runs.free rfl) rfl rfl (OV.quiet (ov_pick_false rfl (guard_eq rfl hc5) rfl)) ?_
        exact WL.nil ⟨Sub.cons' rfl (congrArg Value.bool (by rw [hc5]; rfl)) (Sub.skip rfl (Sub.skip rfl (Sub.skip rfl (Sub.skip rfl (Sub.skip rfl (Sub.skip rfl (Sub.skip rfl (Sub.skip rfl (Sub.refl _))))))))), fun _ s => s⟩
    refine WL.nil ?_
    refine then_normal ?_
    refine WP.cond rfl (fun hc6 => ?_) (fun hc6 => ?_)
    · replace hm := ite_t hc6 hm
      refine WP.seq ?_
      refine WP.region ?_
      refine WL.quiet (Runs.free rfl) rfl rfl (OV.quiet (ov_assign rfl rfl)) ?_
      refine WL.nil ?_
      refine then_normal ?_
      refine WP.ret ?_
      refine then_ret ?_
      obtain rfl := Option.some.inj hm
      refine retQ_ret Tryd.results42 (Res.tmp rfl Res.nil) rfl (fun w' s => ⟨s.below, ?_⟩)
      exact rfl
    · replace hm := ite_f hc6 hm
      refine WP.skip ?_
      refine then_normal ?_
      refine WP.seq ?_
      refine WP.seq ?_
      refine WP.region ?_
      refine WL.quiet (Runs.free rfl) rfl rfl (OV.quiet (ov_fieldAddr Tryd.underlying80 rfl rfl rfl Tryd.sizeOf4 rfl rfl)) ?_
      refine WL.quiet (Runs.free rfl) rfl rfl (OV.quiet (ov_load_box (i := 0) Tryd.isAgg4 rfl rfl rfl rfl)) ?_
      refine WL.quiet (Runs.free rfl) rfl rfl (OV.quiet (ov_move rfl rfl)) ?_
      refine WL.cut_bool 4 48 (x := (p_x.faulty && (p_x.faults == 0))) ?_ ?_
      · rcases Bool.eq_false_or_eq_true p_x.faulty with hc7 | hc7
        · skip
          refine WL.quiet (Runs.yes rfl rfl rfl hc7) rfl rfl (OV.quiet (ov_fieldAddr Tryd.underlying80 rfl rfl rfl Tryd.sizeOf3 rfl rfl)) ?_
          refine WL.quiet (Runs.yes rfl rfl rfl hc7) rfl rfl (OV.quiet (ov_load_box (i := 0) Tryd.isAgg3 rfl rfl rfl rfl)) ?_
          refine WL.quiet (Runs.yes rfl rfl rfl hc7) rfl rfl (OV.quiet (ov_eql rfl rfl rfl)) ?_
          refine WL.quiet (Runs.free rfl) rfl rfl (OV.quiet (ov_pick_true rfl (guard_eq rfl hc7) rfl)) ?_
          exact WL.nil ⟨Sub.cons' rfl (congrArg Value.bool (by rw [hc7]; rfl)) (Sub.skip rfl (Sub.skip rfl (Sub.skip rfl (Sub.skip rfl (Sub.refl _))))), fun _ s => s⟩
        · skip
          refine WL.idle (Idle.no rfl rfl rfl hc7) rfl rfl ?_
          refine WL.idle (Idle.no rfl rfl rfl hc7) rfl rfl ?_
          refine WL.idle (Idle.no rfl rfl rfl hc7) rfl rfl ?_
          refine WL.quiet (Runs.free rfl) rfl rfl (OV.quiet (ov_pick_false rfl (guard_eq rfl hc7) rfl)) ?_
          exact WL.nil ⟨Sub.cons' rfl (congrArg Value.bool (by rw [hc7]; rfl)) (Sub.skip rfl (Sub.skip rfl (Sub.skip rfl (Sub.skip rfl (Sub.refl _))))), fun _ s => s⟩
      refine WL.nil ?_
      refine then_normal ?_
      refine WP.cond rfl (fun hc8 => ?_) (fun hc8 => ?_)
      · replace hm := ite_t hc8 hm
        refine WP.seq ?_
        refine WP.region ?_
        refine WL.quiet (Runs.free rfl) rfl rfl (OV.quiet (ov_assign rfl rfl)) ?_
        refine WL.nil ?_
        refine then_normal ?_
        refine WP.ret ?_
        refine then_ret ?_
        obtain rfl := Option.some.inj hm
        refine retQ_ret Tryd.results42 (Res.tmp rfl Res.nil) rfl (fun w' s => ⟨s.below, ?_⟩)
        exact rfl
      · replace hm := ite_f hc8 hm
        refine WP.skip ?_
        refine then_normal ?_
        refine WP.seq ?_
        refine WP.region ?_
        refine WL.quiet (Runs.free rfl) rfl rfl (OV.quiet (ov_assign rfl rfl)) ?_
        refine WL.nil ?_
        refine then_normal ?_
        refine WP.ret ?_
        obtain rfl := Option.some.inj hm
        refine retQ_ret Tryd.results42 (Res.tmp rfl Res.nil) rfl (fun w' s => ⟨s.below, ?_⟩)
        exact rfl

theorem ref58_Check_con (p_m : Machine) (ao1 : Option Addr) (cap1 : Nat) (w : World) (H : Heap) (hH : Le H (hp w)) (h1 : SL H encItem ao1 p_m.items) (hc1 : p_m.items.length ≤ cap1) (hG : Glob H) (r : Int) (hm : ref58_Check p_m = some r) :
    Con Tryd.prog 14 [(.agg #[(.slice ao1 p_m.items.length cap1), (.int .i64 p_m.cycles)])] w H (fun v _ => v = (.int .i64 r)) := by
  unfold ref58_Check at hm
  refine con_of hH Tryd.func14 rfl 60 Tryd.ntmps14 rfl ?_
  refine WP.seq ?_
  refine WP.region ?_
  refine WL.step (Runs.free rfl) rfl rfl (os_box (cs := [(.slice ao1 p_m.items.length cap1), (.int .i64 p_m.cycles)]) rfl rfl rfl (fun b1 => ?_))
  refine WL.quiet (Runs.free rfl) rfl rfl (OV.quiet (ov_assign rfl rfl)) ?_
  refine WL.nil ?_
  refine then_normal ?_
  refine WP.seq ?_
  refine WP.seq ?_
  refine WP.region ?_
  refine WL.quiet (Runs.free rfl) rfl rfl (OV.quiet (ov_fieldAddr Tryd.underlying34 rfl rfl rfl Tryd.sizeOf3 rfl rfl)) ?_
  refine WL.quiet (Runs.free rfl) rfl rfl (OV.quiet (ov_load_box (i := 0) Tryd.isAgg3 rfl rfl rfl rfl)) ?_
  obtain ⟨r1, e1, hm⟩ := bind_some hm
  refine WL.quiet (Runs.free rfl) rfl rfl (oq_con (r := (.bool r1)) Tryd.call40 rfl rfl (fun w' s => ⟨_, (ref58_in_con p_m.cycles 0 1048576  w' H s.hold hG r1 e1)⟩)) ?_
  refine WL.quiet (Runs.free rfl) rfl rfl (OV.quiet (ov_not rfl rfl)) ?_
  refine WL.nil ?_
  refine then_normal ?_
  refine WP.cond rfl (fun hc2 => ?_) (fun hc2 => ?_)
  · replace hm := ite_t hc2 hm
    refine WP.seq ?_
    refine WP.region ?_
    refine WL.quiet (Runs.free rfl) rfl rfl (OV.quiet (ov_assign rfl rfl)) ?_
    refine WL.nil ?_
    refine then_normal ?_
    refine WP.ret ?_
    refine then_ret ?_
    obtain rfl := Option.some.inj hm
    refine retQ_ret Tryd.results14 (Res.tmp rfl Res.nil) rfl (fun w' s => ⟨s.below, ?_⟩)
    exact rfl
  · replace hm := ite_f hc2 hm
    refine WP.skip ?_
    refine then_normal ?_
    refine WP.seq ?_
    refine WP.seq ?_
    refine WP.region ?_
    refine WL.quiet (Runs.free rfl) rfl rfl (OV.quiet (ov_fieldAddr Tryd.underlying34 rfl rfl rfl Tryd.sizeOf32 rfl rfl)) ?_
    refine WL.quiet (Runs.free rfl) rfl rfl (OV.quiet (ov_load_box (i := 0) Tryd.isAgg32 rfl rfl rfl rfl)) ?_
    refine WL.quiet (Runs.free rfl) rfl rfl (OV.quiet (ov_len_slice Tryd.underlying32 rfl rfl)) ?_
    refine WL.quiet (Runs.free rfl) rfl rfl (OV.quiet (ov_gtr rfl rfl rfl)) ?_
    refine WL.nil ?_
    refine then_normal ?_
    refine WP.cond rfl (fun hc3 => ?_) (fun hc3 => ?_)
    · replace hm := ite_t hc3 hm
      refine WP.seq ?_
      refine WP.region ?_
      refine WL.quiet (Runs.free rfl) rfl rfl (OV.quiet (ov_assign rfl rfl)) ?_
      refine WL.nil ?_
      refine then_normal ?_
      refine WP.ret ?_
      refine then_ret ?_
      obtain rfl := Option.some.inj hm
      refine retQ_ret Tryd.results14 (Res.tmp rfl Res.nil) rfl (fun w' s => ⟨s.below, ?_⟩)
      exact rfl
    · replace hm := ite_f hc3 hm
      refine WP.skip ?_
      refine then_normal ?_
      obtain ⟨k1, hk1, hm⟩ := joinK_some hm
      refine WP.seq_join (fun g' S' => Sub [] g' ∧ (∀ w', S' w' → St w H [] H w') ∧ k1 = some r) ?_ ?_
      · skip
        refine WP.seq ?_
        refine WP.region ?_
        refine WL.quiet (Runs.free rfl) rfl rfl (OV.quiet (ov_assign rfl rfl)) ?_
        refine WL.nil ?_
        refine then_normal ?_
        refine WP.block ?_
        refine WP.loop (fun m1 g' S' => ∃ (i1 : Int), Sub [(1, (pB b1 0)), (3, (.int .i64 i1))] g' ∧ (∀ w', S' w' → St w H [.blk b1 34 [(.slice ao1 p_m.items.length cap1), (.int .i64 p_m.cycles)]] H w') ∧ ref58_Check_loop1 p_m k1 m1 i1 = some r) ((Int.toNat ((p_m.items.length : Int) - 0) + 1)) ⟨0, (Sub.cons rfl (Sub.cons rfl (Sub.nil _))), fun w' s => s, hm⟩ ?_ ?_
        · rintro g' S' ⟨_, _, _, hm⟩
          exact none_some hm
        · rintro m1 g' S' ⟨i1, hsub1, hS1, hm⟩
          refine WP.sub hsub1 (WP.weaken hS1 ?_)
          rw [ref58_Check_loop1] at hm
          refine WP.seq ?_
          refine WP.seq ?_
          refine WP.region ?_
          refine WL.quiet (Runs.free rfl) rfl rfl (OV.quiet (ov_move rfl rfl)) ?_
          refine WL.quiet (Runs.free rfl) rfl rfl (OV.quiet (ov_fieldAddr Tryd.underlying34 rfl rfl rfl Tryd.sizeOf32 rfl rfl)) ?_
          refine WL.quiet (Runs.free rfl) rfl rfl (OV.quiet (ov_load_box (i := 0) Tryd.isAgg32 rfl rfl rfl rfl)) ?_
          refine WL.quiet (Runs.free rfl) rfl rfl (OV.quiet (ov_len_slice Tryd.underlying32 rfl rfl)) ?_
          refine WL.quiet (Runs.free rfl) rfl rfl (OV.quiet (ov_lss rfl rfl rfl)) ?_
          refine WL.nil ?_
          refine then_normal ?_
          refine WP.cond rfl (fun hc4 => ?_) (fun hc4 => ?_)
          · replace hm := ite_t hc4 hm
            refine WP.skip ?_
            refine then_normal ?_
            refine WP.seq ?_
            refine WP.block ?_
            refine WP.seq ?_
            refine WP.seq ?_
            refine WP.region ?_
            refine WL.quiet (Runs.free rfl) rfl rfl (OV.quiet (ov_fieldAddr Tryd.underlying34 rfl rfl rfl Tryd.sizeOf32 rfl rfl)) ?_
            refine WL.quiet (Runs.free rfl) rfl rfl (OV.quiet (ov_load_box (i := 0) Tryd.isAgg32 rfl rfl rfl rfl)) ?_
            refine WL.quiet (Runs.free rfl) rfl rfl (OV.quiet (ov_move rfl rfl)) ?_
            obtain ⟨x1, e2, hm⟩ := bind_some hm
            obtain ⟨h2, h3, h4, cs1, h5, h6⟩ := h1.get e2 (by decide)
            obtain rfl : cs1 = [(mkS x1.name), (.int .i64 x1.life), (.int .i64 x1.used), (.int .i64 x1.faults), (.bool x1.faulty), (.int .i64 x1.since), (.int .i64 x1.cycles)] := h5
            refine WL.quiet (Runs.free rfl) rfl rfl (OV.quiet (ov_indexAddr Tryd.underlying32 Tryd.sizeOf80 rfl rfl rfl h2 h3 h4)) ?_
            refine WL.quiet (Runs.free rfl) rfl rfl (OV.quiet (ov_fieldAddrE Tryd.underlying80 rfl rfl rfl Tryd.sizeOf9 rfl rfl)) ?_
            refine WL.quiet (Runs.free rfl) rfl rfl (OV.quiet (ov_load_elem (v := (mkS x1.name)) Tryd.isAgg9 rfl rfl (h6.one (off := 0) rfl))) ?_
            obtain ⟨r2, e3, hm⟩ := bind_some hm
            refine WL.quiet (Runs.free rfl) rfl rfl (oq_con (r := (.int .i64 r2)) Tryd.call41 rfl rfl (fun w' s => ⟨_, (ref12_Word_con x1.name  w' H s.hold hG r2 e3)⟩)) ?_
            refine WL.quiet (Runs.free rfl) rfl rfl (OV.quiet (ov_assign rfl rfl)) ?_
            refine WL.nil ?_
            refine then_normal ?_
            refine WP.seq ?_
            refine WP.region ?_
            refine WL.quiet (Runs.free rfl) rfl rfl (OV.quiet (ov_move rfl rfl)) ?_
            refine WL.quiet (Runs.free rfl) rfl rfl (OV.quiet (ov_neq rfl rfl rfl)) ?_
            refine WL.nil ?_
            refine then_normal ?_
            refine WP.cond rfl (fun hc5 => ?_) (fun hc5 => ?_)
            · replace hm := ite_t hc5 hm
              refine WP.seq ?_
              refine WP.region ?_
              refine WL.quiet (Runs.free rfl) rfl rfl (OV.quiet (ov_move rfl rfl)) ?_
              refine WL.quiet (Runs.free rfl) rfl rfl (OV.quiet (ov_assign rfl rfl)) ?_
              refine WL.nil ?_
              refine then_normal ?_
              refine WP.ret ?_
              refine then_ret ?_
              refine block_ret ?_
              refine then_ret ?_
              refine then_ret ?_
              refine block_ret ?_
              refine then_ret ?_
              obtain rfl := Option.some.inj hm
              refine retQ_ret Tryd.results14 (Res.tmp rfl Res.nil) rfl (fun w' s => ⟨s.below, ?_⟩)
              exact rfl
            · replace hm := ite_f hc5 hm
              refine WP.skip ?_
              refine then_normal ?_
              refine WP.seq ?_
              refine WP.seq ?_
              refine WP.region_draws (by kernel_rfl) (by kernel_rfl) (fun _ s => s.drew) ?_
              refine QL.quiet (Runs.free rfl) rfl rfl (OV.quiet (ov_move rfl rfl)) ?_
              refine QL.quiet (Runs.free rfl) rfl rfl (OV.quiet (ov_gtr rfl rfl rfl)) ?_
              refine QL.quiet (Runs.free rfl) rfl rfl (OV.quiet (ov_move rfl rfl)) ?_
              obtain ⟨c1, e4, hm⟩ := bind_some hm
              refine QL.part_bool 15 48 (x := c1) ?_ ?_
              · rcases Bool.eq_false_or_eq_true (decide (i1 > 0)) with hc6 | hc6
                · skip
                  replace hm := ite_t hc6 e4
                  refine QL.quiet (Runs.yes rfl rfl rfl hc6) rfl rfl (OV.quiet (ov_fieldAddr Tryd.underlying34 rfl rfl rfl Tryd.sizeOf32 rfl rfl)) ?_
                  refine QL.quiet (Runs.yes rfl rfl rfl hc6) rfl rfl (OV.quiet (ov_load_box (i := 0) Tryd.isAgg32 rfl rfl rfl rfl)) ?_
                  refine QL.quiet (Runs.yes rfl rfl rfl hc6) rfl rfl (OV.quiet (ov_move rfl rfl)) ?_
                  obtain ⟨x2, e5, hm⟩ := bind_some hm
                  obtain ⟨h7, h8, h9, cs2, h10, h11⟩ := h1.get e5 (by decide)
                  obtain rfl : cs2 = [(mkS x2.name), (.int .i64 x2.life), (.int .i64 x2.used), (.int .i64 x2.faults), (.bool x2.faulty), (.int .i64 x2.since), (.int .i64 x2.cycles)] := h10
                  refine QL.quiet (Runs.yes rfl rfl rfl hc6) rfl rfl (OV.quiet (ov_indexAddr Tryd.underlying32 Tryd.sizeOf80 rfl rfl rfl h7 h8 h9)) ?_
                  refine QL.quiet (Runs.yes rfl rfl rfl hc6) rfl rfl (OV.quiet (ov_fieldAddrE Tryd.underlying80 rfl rfl rfl Tryd.sizeOf9 rfl rfl)) ?_
                  refine QL.quiet (Runs.yes rfl rfl rfl hc6) rfl rfl (OV.quiet (ov_load_elem (v := (mkS x2.name)) Tryd.isAgg9 rfl rfl (h11.one (off := 0) rfl))) ?_
                  refine QL.quiet (Runs.yes rfl rfl rfl hc6) rfl rfl (OV.quiet (ov_fieldAddr Tryd.underlying34 rfl rfl rfl Tryd.sizeOf32 rfl rfl)) ?_
                  refine QL.quiet (Runs.yes rfl rfl rfl hc6) rfl rfl (OV.quiet (ov_load_box (i := 0) Tryd.isAgg32 rfl rfl rfl rfl)) ?_
                  refine QL.quiet (Runs.yes rfl rfl rfl hc6) rfl rfl (OV.quiet (ov_move rfl rfl)) ?_
                  refine QL.quiet (Runs.yes rfl rfl rfl hc6) rfl rfl (OV.quiet (ov_sub rfl rfl rfl)) ?_
                  obtain ⟨x3, e6, hm⟩ := bind_some hm
                  obtain ⟨h12, h13, h14, cs3, h15, h16⟩ := h1.get e6 (by decide)
                  obtain rfl : cs3 = [(mkS x3.name), (.int .i64 x3.life), (.int .i64 x3.used), (.int .i64 x3.faults), (.bool x3.faulty), (.int .i64 x3.since), (.int .i64 x3.cycles)] := h15
                  refine QL.quiet (Runs.yes rfl rfl rfl hc6) rfl rfl (OV.quiet (ov_indexAddr Tryd.underlying32 Tryd.sizeOf80 rfl rfl rfl h12 h13 h14)) ?_
                  refine QL.quiet (Runs.yes rfl rfl rfl hc6) rfl rfl (OV.quiet (ov_fieldAddrE Tryd.underlying80 rfl rfl rfl Tryd.sizeOf9 rfl rfl)) ?_
                  refine QL.quiet (Runs.yes rfl rfl rfl hc6) rfl rfl (OV.quiet (ov_load_elem (v := (mkS x3.name)) Tryd.isAgg9 rfl rfl (h16.one (off := 0) rfl))) ?_
                  refine QL.quiet (Runs.yes rfl rfl rfl hc6) rfl rfl (OV.quiet (ov_sleq rfl rfl rfl)) ?_
                  refine QL.quiet (Runs.free rfl) rfl rfl (OV.quiet (ov_pick_true rfl (guard_eq rfl hc6) rfl)) ?_
                  exact QL.nil (Sub.cons' rfl (congrArg Value.bool (Option.some.inj hm)) (Sub.skip rfl (Sub.skip rfl (Sub.skip rfl (Sub.skip rfl (Sub.skip rfl (Sub.skip rfl (Sub.skip rfl (Sub.skip rfl (Sub.skip rfl (Sub.skip rfl (Sub.skip rfl (Sub.skip rfl (Sub.skip rfl (Sub.skip rfl (Sub.skip rfl (Sub.refl _)))))))))))))))))
                · skip
                  replace hm := ite_f hc6 e4
                  refine QL.idle (Idle.no rfl rfl rfl hc6) rfl rfl ?_
                  refine QL.idle (Idle.no rfl rfl rfl hc6) rfl rfl ?_
                  refine QL.idle (Idle.no rfl rfl rfl hc6) rfl rfl ?_
                  refine QL.idle (Idle.no rfl rfl rfl hc6) rfl rfl ?_
                  refine QL.idle (Idle.no rfl rfl rfl hc6) rfl rfl ?_
                  refine QL.idle (Idle.no rfl rfl rfl hc6) rfl rfl ?_
                  refine QL.idle (Idle.no rfl rfl rfl hc6) rfl rfl ?_
                  refine QL.idle (Idle.no rfl rfl rfl hc6) rfl rfl ?_
                  refine QL.idle (Idle.no rfl rfl rfl hc6) rfl rfl ?_
                  refine QL.idle (Idle.no rfl rfl rfl hc6) rfl rfl ?_
                  refine QL.idle (Idle.no rfl rfl rfl hc6) rfl rfl ?_
                  refine QL.idle (Idle.no rfl rfl rfl hc6) rfl rfl ?_
                  refine QL.idle (Idle.no rfl rfl rfl hc6) rfl rfl ?_
                  refine QL.idle (Idle.no rfl rfl rfl hc6) rfl rfl ?_
                  refine QL.quiet (Runs.free rfl) rfl rfl (OV.quiet (ov_pick_false rfl (guard_eq rfl hc6) rfl)) ?_
                  exact QL.nil (Sub.cons' rfl (congrArg Value.bool (Option.some.inj hm)) (Sub.skip rfl (Sub.skip rfl (Sub.skip rfl (Sub.skip rfl (Sub.skip rfl (Sub.skip rfl (Sub.skip rfl (Sub.skip rfl (Sub.skip rfl (Sub.skip rfl (Sub.skip rfl (Sub.skip rfl (Sub.skip rfl (Sub.skip rfl (Sub.skip rfl (Sub.refl _)))))))))))))))))
              refine QL.nil ?_
              refine then_normal ?_
              refine WP.cond rfl (fun hc7 => ?_) (fun hc7 => ?_)
              · replace hm := ite_t hc7 hm
                refine WP.seq ?_
                refine WP.region ?_
                refine WL.quiet (Runs.free rfl) rfl rfl (OV.quiet (ov_assign rfl rfl)) ?_
                refine WL.nil ?_
                refine then_normal ?_
                refine WP.ret ?_
                refine then_ret ?_
                refine block_ret ?_
                refine then_ret ?_
                refine then_ret ?_
                refine block_ret ?_
                refine then_ret ?_
                obtain rfl := Option.some.inj hm
                refine retQ_ret Tryd.results14 (Res.tmp rfl Res.nil) rfl (fun w' s => ⟨s.below, ?_⟩)
                exact rfl
              · replace hm := ite_f hc7 hm
                refine WP.skip ?_
                refine then_normal ?_
                refine WP.seq ?_
                refine WP.region_draws (by kernel_rfl) (by kernel_rfl) (fun _ s => s.drew) ?_
                refine QL.quiet (Runs.free rfl) rfl rfl (OV.quiet (ov_fieldAddr Tryd.underlying34 rfl rfl rfl Tryd.sizeOf32 rfl rfl)) ?_
                refine QL.quiet (Runs.free rfl) rfl rfl (OV.quiet (ov_load_box (i := 0) Tryd.isAgg32 rfl rfl rfl rfl)) ?_
                refine QL.quiet (Runs.free rfl) rfl rfl (OV.quiet (ov_move rfl rfl)) ?_
                obtain ⟨x4, e7, hm⟩ := bind_some hm
                obtain ⟨h17, h18, h19, cs4, h20, h21⟩ := h1.get e7 (by decide)
                obtain rfl : cs4 = [(mkS x4.name), (.int .i64 x4.life), (.int .i64 x4.used), (.int .i64 x4.faults), (.bool x4.faulty), (.int .i64 x4.since), (.int .i64 x4.cycles)] := h20
                refine QL.quiet (Runs.free rfl) rfl rfl (OV.quiet (ov_indexAddr Tryd.underlying32 Tryd.sizeOf80 rfl rfl rfl h17 h18 h19)) ?_
                refine QL.quiet (Runs.free rfl) rfl rfl (OV.quiet (ov_load_elems (vs := [(mkS x4.name), (.int .i64 x4.life), (.int .i64 x4.used), (.int .i64 x4.faults), (.bool x4.faulty), (.int .i64 x4.since), (.int .i64 x4.cycles)]) Tryd.isAgg80 Tryd.sizeOf80 rfl rfl rfl h21 h19)) ?_
                refine QL.quiet (Runs.free rfl) rfl rfl (OV.quiet (ov_fieldAddr Tryd.underlying34 rfl rfl rfl Tryd.sizeOf3 rfl rfl)) ?_
                refine QL.quiet (Runs.free rfl) rfl rfl (OV.quiet (ov_load_box (i := 0) Tryd.isAgg3 rfl rfl rfl rfl)) ?_
                obtain ⟨r3, e8, hm⟩ := bind_some hm
                refine QL.quiet (Runs.free rfl) rfl rfl (oq_con (r := (.int .i64 r3)) Tryd.call42 rfl rfl (fun w' s => ⟨_, (ref58_item_con x4 p_m.cycles  w' H s.hold hG r3 e8)⟩)) ?_
                refine QL.quiet (Runs.free rfl) rfl rfl (OV.quiet (ov_assign rfl rfl)) ?_
                refine QL.nil ?_
                refine then_normal ?_
                refine WP.seq ?_
                refine WP.region ?_
                refine WL.quiet (Runs.free rfl) rfl rfl (OV.quiet (ov_move rfl rfl)) ?_
                refine WL.quiet (Runs.free rfl) rfl rfl (OV.quiet (ov_neq rfl rfl rfl)) ?_
                refine WL.nil ?_
                refine then_normal ?_
                refine WP.cond rfl (fun hc8 => ?_) (fun hc8 => ?_)
                · replace hm := ite_t hc8 hm
                  refine WP.seq ?_
                  refine WP.region ?_
                  refine WL.quiet (Runs.free rfl) rfl rfl (OV.quiet (ov_move rfl rfl)) ?_
                  refine WL.quiet (Runs.free rfl) rfl rfl (OV.quiet (ov_assign rfl rfl)) ?_
                  refine WL.nil ?_
                  refine then_normal ?_
                  refine WP.ret ?_
                  refine block_ret ?_
                  refine then_ret ?_
                  refine then_ret ?_
                  refine block_ret ?_
                  refine then_ret ?_
                  obtain rfl := Option.some.inj hm
                  refine retQ_ret Tryd.results14 (Res.tmp rfl Res.nil) rfl (fun w' s => ⟨s.below, ?_⟩)
                  exact rfl
                · replace hm := ite_f hc8 hm
                  refine WP.skip ?_
                  refine block_normal ?_
                  refine then_normal ?_
                  refine WP.region ?_
                  refine WL.quiet (Runs.free rfl) rfl rfl (OV.quiet (ov_move rfl rfl)) ?_
                  refine WL.quiet (Runs.free rfl) rfl rfl (OV.quiet (ov_add rfl rfl rfl)) ?_
                  refine WL.quiet (Runs.free rfl) rfl rfl (OV.quiet (ov_assign rfl rfl)) ?_
                  refine WL.nil ?_
                  refine then_normal ?_
                  exact ⟨(IntKind.wrap .i64 (i1 + 1)), (Sub.cons rfl (Sub.cons rfl (Sub.nil _))), fun w' s => s, hm⟩
          · replace hm := ite_f hc4 hm
            refine WP.exit ?_
            refine then_exit ?_
            refine then_exit ?_
            refine block_here ?_
            refine then_normal ?_
            exact ⟨(Sub.nil _), fun w' s => (s.select [] (by decide) rfl), hm⟩
      · rintro g' S' ⟨hsub2, hS2, hm⟩
        refine WP.sub hsub2 (WP.weaken hS2 ?_)
        replace hm := hk1.symm.trans hm
        refine WP.seq ?_
        refine WP.region ?_
        refine WL.quiet (Runs.free rfl) rfl rfl (OV.quiet (ov_assign rfl rfl)) ?_
        refine WL.nil ?_
        refine then_normal ?_
        refine WP.ret ?_
        obtain rfl := Option.some.inj hm
        refine retQ_ret Tryd.results14 (Res.tmp rfl Res.nil) rfl (fun w' s => ⟨s.below, ?_⟩)
        exact rfl

theorem ref58_counted_con (p_kind : Int) (w : World) (H : Heap) (hH : Le H (hp w)) (hG : Glob H) (r : Bool) (hm : ref58_counted p_kind = some r) :
    Con Tryd.prog 44 [(.int .i64 p_kind)] w H (fun v _ => v = (.bool r)) := by
  unfold ref58_counted at hm
  refine con_of hH Tryd.func44 rfl 13 Tryd.ntmps44 rfl ?_
  refine WP.seq ?_
  refine WP.region ?_
  refine WL.quiet (Runs.free rfl) rfl rfl (OV.quiet (ov_assign rfl rfl)) ?_
  refine WL.nil ?_
  refine then_normal ?_
  refine WP.seq ?_
  refine WP.region ?_
  refine WL.quiet (Runs.free rfl) rfl rfl (OV.quiet (ov_move rfl rfl)) ?_
  refine WL.quiet (Runs.free rfl) rfl rfl (OV.quiet (ov_eql rfl rfl rfl)) ?_
  refine WL.quiet (Runs.free rfl) rfl rfl (OV.quiet (ov_move rfl rfl)) ?_
  refine WL.cut_bool 3 8 (x := ((p_kind == 0) || (p_kind == 1))) ?_ ?_
  · rcases Bool.eq_false_or_eq_true (p_kind == 0) with hc1 | hc1
    · skip
      refine WL.idle (Idle.no rfl rfl rfl hc1) rfl rfl ?_
      refine WL.idle (Idle.no rfl rfl rfl hc1) rfl rfl ?_
      refine WL.quiet (Runs.free rfl) rfl rfl (OV.quiet (ov_pick_true rfl (guard_eq rfl hc1) rfl)) ?_
      exact WL.nil ⟨Sub.cons' rfl (congrArg Value.bool (by rw [hc1]; rfl)) (Sub.skip rfl (Sub.skip rfl (Sub.skip rfl (Sub.refl _)))), fun _ s => s⟩
    · skip
      refine WL.quiet (Runs.yes rfl rfl rfl hc1) rfl rfl (OV.quiet (ov_move rfl rfl)) ?_
      refine WL.quiet (Runs.yes rfl rfl rfl hc1) rfl rfl (OV.quiet (ov_eql rfl rfl rfl)) ?_
      refine WL.quiet (Runs.free rfl) rfl rfl (OV.quiet (ov_pick_false rfl (guard_eq rfl hc1) rfl)) ?_
      exact WL.nil ⟨Sub.cons' rfl (congrArg Value.bool (by rw [hc1]; rfl)) (Sub.skip rfl (Sub.skip rfl (Sub.skip rfl (Sub.refl _)))), fun _ s => s⟩
  refine WL.quiet (Runs.free rfl) rfl rfl (OV.quiet (ov_move rfl rfl)) ?_
  refine WL.cut_bool 3 12 (x := (((p_kind == 0) || (p_kind == 1)) || (p_kind == 4))) ?_ ?_
  · rcases Bool.eq_false_or_eq_true ((p_kind == 0) || (p_kind == 1)) with hc2 | hc2
    · skip
      refine WL.idle (Idle.no rfl rfl rfl hc2) rfl rfl ?_
      refine WL.idle (Idle.no rfl rfl rfl hc2) rfl rfl ?_
      refine WL.quiet (Runs.free rfl) rfl rfl (OV.quiet (ov_pick_true rfl (guard_eq rfl hc2) rfl)) ?_
      exact WL.nil ⟨Sub.cons' rfl (congrArg Value.bool (by rw [hc2]; rfl)) (Sub.skip rfl (Sub.skip rfl (Sub.skip rfl (Sub.refl _)))), fun _ s => s⟩
    · skip
      refine WL.quiet (Runs.yes rfl rfl rfl hc2) rfl rfl (OV.quiet (ov_move rfl rfl)) ?_
      refine WL.quiet (Runs.yes rfl rfl rfl hc2) rfl rfl (OV.quiet (ov_eql rfl rfl rfl)) ?_
      refine WL.quiet (Runs.free rfl) rfl rfl (OV.quiet (ov_pick_false rfl (guard_eq rfl hc2) rfl)) ?_
      exact WL.nil ⟨Sub.cons' rfl (congrArg Value.bool (by rw [hc2]; rfl)) (Sub.skip rfl (Sub.skip rfl (Sub.skip rfl (Sub.refl _)))), fun _ s => s⟩
  refine WL.quiet (Runs.free rfl) rfl rfl (OV.quiet (ov_assign rfl rfl)) ?_
  refine WL.nil ?_
  refine then_normal ?_
  refine WP.ret ?_
  obtain rfl := Option.some.inj hm
  refine retQ_ret Tryd.results44 (Res.tmp rfl Res.nil) rfl (fun w' s => ⟨s.below, ?_⟩)
  exact rfl

theorem ref58_Right_con (p_x : Entry) (w : World) (H : Heap) (hH : Le H (hp w)) (hG : Glob H) (r : Int) (hm : ref58_Right p_x = some r) :
    Con Tryd.prog 16 [(.agg #[(.int .i64 p_x.kind), (mkS p_x.name), (.int .i64 p_x.count), (.int .i64 p_x.strokes)])] w H (fun v _ => v = (.int .i64 r)) := by
  unfold ref58_Right at hm
  refine con_of hH Tryd.func16 rfl 53 Tryd.ntmps16 rfl ?_
  refine WP.seq ?_
  refine WP.region ?_
  refine WL.step (Runs.free rfl) rfl rfl (os_box (cs := [(.int .i64 p_x.kind), (mkS p_x.name), (.int .i64 p_x.count), (.int .i64 p_x.strokes)]) rfl rfl rfl (fun b1 => ?_))
  refine WL.quiet (Runs.free rfl) rfl rfl (OV.quiet (ov_assign rfl rfl)) ?_
  refine WL.nil ?_
  refine then_normal ?_
  refine WP.seq ?_
  refine WP.seq ?_
  refine WP.region ?_
  refine WL.quiet (Runs.free rfl) rfl rfl (OV.quiet (ov_fieldAddr Tryd.underlying38 rfl rfl rfl Tryd.sizeOf3 rfl rfl)) ?_
  refine WL.quiet (Runs.free rfl) rfl rfl (OV.quiet (ov_load_box (i := 0) Tryd.isAgg3 rfl rfl rfl rfl)) ?_
  obtain ⟨r1, e1, hm⟩ := bind_some hm
  refine WL.quiet (Runs.free rfl) rfl rfl (oq_con (r := (.bool r1)) Tryd.call40 rfl rfl (fun w' s => ⟨_, (ref58_in_con p_x.kind 0 5  w' H s.hold hG r1 e1)⟩)) ?_
  refine WL.quiet (Runs.free rfl) rfl rfl (OV.quiet (ov_not rfl rfl)) ?_
  refine WL.nil ?_
  refine then_normal ?_
  refine WP.cond rfl (fun hc1 => ?_) (fun hc1 => ?_)
  · replace hm := ite_t hc1 hm
    refine WP.seq ?_
    refine WP.region ?_
    refine WL.quiet (Runs.free rfl) rfl rfl (OV.quiet (ov_assign rfl rfl)) ?_
    refine WL.nil ?_
    refine then_normal ?_
    refine WP.ret ?_
    refine then_ret ?_
    obtain rfl := Option.some.inj hm
    refine retQ_ret Tryd.results16 (Res.tmp rfl Res.nil) rfl (fun w' s => ⟨s.below, ?_⟩)
    exact rfl
  · replace hm := ite_f hc1 hm
    refine WP.skip ?_
    refine then_normal ?_
    refine WP.seq ?_
    refine WP.seq ?_
    refine WP.region ?_
    refine WL.quiet (Runs.free rfl) rfl rfl (OV.quiet (ov_fieldAddr Tryd.underlying38 rfl rfl rfl Tryd.sizeOf9 rfl rfl)) ?_
    refine WL.quiet (Runs.free rfl) rfl rfl (OV.quiet (ov_load_box (i := 0) Tryd.isAgg9 rfl rfl rfl rfl)) ?_
    obtain ⟨r2, e2, hm⟩ := bind_some hm
    refine WL.quiet (Runs.free rfl) rfl rfl (oq_con (r := (.int .i64 r2)) Tryd.call41 rfl rfl (fun w' s => ⟨_, (ref12_Word_con p_x.name  w' H s.hold hG r2 e2)⟩)) ?_
    refine WL.quiet (Runs.free rfl) rfl rfl (OV.quiet (ov_assign rfl rfl)) ?_
    refine WL.nil ?_
    refine then_normal ?_
    refine WP.seq ?_
    refine WP.region ?_
    refine WL.quiet (Runs.free rfl) rfl rfl (OV.quiet (ov_move rfl rfl)) ?_
    refine WL.quiet (Runs.free rfl) rfl rfl (OV.quiet (ov_neq rfl rfl rfl)) ?_
    refine WL.nil ?_
    refine then_normal ?_
    refine WP.cond rfl (fun hc2 => ?_) (fun hc2 => ?_)
    · replace hm := ite_t hc2 hm
      refine WP.seq ?_
      refine WP.region ?_
      refine WL.quiet (Runs.free rfl) rfl rfl (OV.quiet (ov_move rfl rfl)) ?_
      refine WL.quiet (Runs.free rfl) rfl rfl (OV.quiet (ov_assign rfl rfl)) ?_
      refine WL.nil ?_
      refine then_normal ?_
      refine WP.ret ?_
      refine then_ret ?_
      obtain rfl := Option.some.inj hm
      refine retQ_ret Tryd.results16 (Res.tmp rfl Res.nil) rfl (fun w' s => ⟨s.below, ?_⟩)
      exact rfl
    · replace hm := ite_f hc2 hm
      refine WP.skip ?_
      refine then_normal ?_
      refine WP.seq ?_
      refine WP.seq ?_
      refine WP.region ?_
      refine WL.quiet (Runs.free rfl) rfl rfl (OV.quiet (ov_fieldAddr Tryd.underlying38 rfl rfl rfl Tryd.sizeOf3 rfl rfl)) ?_
      refine WL.quiet (Runs.free rfl) rfl rfl (OV.quiet (ov_load_box (i := 0) Tryd.isAgg3 rfl rfl rfl rfl)) ?_
      obtain ⟨r3, e3, hm⟩ := bind_some hm
      refine WL.quiet (Runs.free rfl) rfl rfl (oq_con (r := (.bool r3)) Tryd.call44 rfl rfl (fun w' s => ⟨_, (ref58_counted_con p_x.kind  w' H s.hold hG r3 e3)⟩)) ?_
      refine WL.quiet (Runs.free rfl) rfl rfl (OV.quiet (ov_move rfl rfl)) ?_
      obtain ⟨c1, e4, hm⟩ := bind_some hm
      refine WL.cut_bool 5 22 (x := c1) ?_ ?_
      · rcases Bool.eq_false_or_eq_true r3 with hc3 | hc3
        · skip
          replace hm := ite_t hc3 e4
          refine WL.quiet (Runs.yes rfl rfl rfl hc3) rfl rfl (OV.quiet (ov_fieldAddr Tryd.underlying38 rfl rfl rfl Tryd.sizeOf3 rfl rfl)) ?_
          refine WL.quiet (Runs.yes rfl rfl rfl hc3) rfl rfl (OV.quiet (ov_load_box (i := 0) Tryd.isAgg3 rfl rfl rfl rfl)) ?_
          obtain ⟨r4, e5, hm⟩ := bind_some hm
          refine WL.quiet (Runs.yes rfl rfl rfl hc3) rfl rfl (oq_con (r := (.bool r4)) Tryd.call40 rfl rfl (fun w' s => ⟨_, (ref58_in_con p_x.count 1 1048576  w' H s.hold hG r4 e5)⟩)) ?_
          refine WL.quiet (Runs.yes rfl rfl rfl hc3) rfl rfl (OV.quiet (ov_not rfl rfl)) ?_
          refine WL.quiet (Runs.free rfl) rfl rfl (OV.quiet (ov_pick_true rfl (guard_eq rfl hc3) rfl)) ?_
          exact WL.nil ⟨Sub.cons' rfl (congrArg Value.bool (Option.some.inj hm)) (Sub.skip rfl (Sub.skip rfl (Sub.skip rfl (Sub.skip rfl (Sub.skip rfl (Sub.refl _)))))), fun _ s => s⟩
        · skip
          replace hm := ite_f hc3 e4
          refine WL.idle (Idle.no rfl rfl rfl hc3) rfl rfl ?_
          refine WL.idle (Idle.no rfl rfl rfl hc3) rfl rfl ?_
          refine WL.idle (Idle.no rfl rfl rfl hc3) rfl rfl ?_
          refine WL.idle (Idle.no rfl rfl rfl hc3) rfl rfl ?_
          refine WL.quiet (Runs.free rfl) rfl rfl (OV.quiet (ov_pick_false rfl (guard_eq rfl hc3) rfl)) ?_
          exact WL.nil ⟨Sub.cons' rfl (congrArg Value.bool (Option.some.inj hm)) (Sub.skip rfl (Sub.skip rfl (Sub.skip rfl (Sub.skip rfl (Sub.skip rfl (Sub.refl _)))))), fun _ s => s⟩
      refine WL.quiet (Runs.free rfl) rfl rfl (OV.quiet (ov_move rfl rfl)) ?_
      obtain ⟨c2, e6, hm⟩ := bind_some hm
      refine WL.cut_bool 10 33 (x := c2) ?_ ?_
      · rcases Bool.eq_false_or_eq_true c1 with hc4 | hc4
        · skip
          replace hm := ite_t hc4 e6
          refine WL.idle (Idle.no rfl rfl rfl hc4) rfl rfl ?_
          refine WL.idle (Idle.no rfl rfl rfl hc4) rfl rfl ?_
          refine WL.idle (Idle.no rfl rfl rfl hc4) rfl rfl ?_
          refine WL.idle (Idle.no rfl rfl rfl hc4) rfl rfl ?_
          refine WL.idle (Idle.no rfl rfl rfl hc4) rfl rfl ?_
          refine WL.idle (Idle.undef rfl rfl rfl) rfl rfl ?_
          refine WL.idle (Idle.undef rfl rfl rfl) rfl rfl ?_
          refine WL.idle (Idle.undef rfl rfl rfl) rfl rfl ?_
          refine WL.idle (Idle.no rfl rfl rfl hc4) rfl rfl ?_
          refine WL.quiet (Runs.free rfl) rfl rfl (OV.quiet (ov_pick_true rfl (guard_eq rfl hc4) rfl)) ?_
          exact WL.nil ⟨Sub.cons' rfl (congrArg Value.bool (Option.some.inj hm)) (Sub.skip rfl (Sub.skip rfl (Sub.skip rfl (Sub.skip rfl (Sub.skip rfl (Sub.skip rfl (Sub.skip rfl (Sub.skip rfl (Sub.skip rfl (Sub.skip rfl (Sub.refl _))))))))))), fun _ s => s⟩
        · skip
          replace hm := ite_f hc4 e6
          refine WL.quiet (Runs.yes rfl rfl rfl hc4) rfl rfl (OV.quiet (ov_fieldAddr Tryd.underlying38 rfl rfl rfl Tryd.sizeOf3 rfl rfl)) ?_
          refine WL.quiet (Runs.yes rfl rfl rfl hc4) rfl rfl (OV.quiet (ov_load_box (i := 0) Tryd.isAgg3 rfl rfl rfl rfl)) ?_
          obtain ⟨r5, e7, hm⟩ := bind_some hm
          refine WL.quiet (Runs.yes rfl rfl rfl hc4) rfl rfl (oq_con (r := (.bool r5)) Tryd.call44 rfl rfl (fun w' s => ⟨_, (ref58_counted_con p_x.kind  w' H s.hold hG r5 e7)⟩)) ?_
          refine WL.quiet (Runs.yes rfl rfl rfl hc4) rfl rfl (OV.quiet (ov_not rfl rfl)) ?_
          refine WL.quiet (Runs.yes rfl rfl rfl hc4) rfl rfl (OV.quiet (ov_move rfl rfl)) ?_
          refine WL.cut_bool 4 32 (x := ((!r5) && (p_x.count != 0))) ?_ ?_
          · rcases Bool.eq_false_or_eq_true (!r5) with hc5 | hc5
            · skip
              refine WL.quiet (Runs.yes rfl rfl rfl hc5) rfl rfl (OV.quiet (ov_fieldAddr Tryd.underlying38 rfl rfl rfl Tryd.sizeOf3 rfl rfl)) ?_
              refine WL.quiet (Runs.yes rfl rfl rfl hc5) rfl rfl (OV.quiet (ov_load_box (i := 0) Tryd.isAgg3 rfl rfl rfl rfl)) ?_
              refine WL.quiet (Runs.yes rfl rfl rfl hc5) rfl rfl (OV.quiet (ov_neq rfl rfl rfl)) ?_
              refine WL.quiet (Runs.yes rfl rfl rfl hc4) rfl rfl (OV.quiet (ov_pick_true rfl (guard_eq rfl hc5) rfl)) ?_
              exact WL.nil ⟨Sub.cons' rfl (congrArg Value.bool (by rw [hc5]; rfl)) (Sub.skip rfl (Sub.skip rfl (Sub.skip rfl (Sub.skip rfl (Sub.refl _))))), fun _ s => s⟩
            · skip
              refine WL.idle (Idle.no rfl rfl rfl hc5) rfl rfl ?_
              refine WL.idle (Idle.no rfl rfl rfl hc5) rfl rfl ?_
              refine WL.idle (Idle.no rfl rfl rfl hc5) rfl rfl ?_
              refine WL.quiet (Runs.yes rfl rfl rfl hc4) rfl rfl (OV.quiet (ov_pick_false rfl (guard_eq rfl hc5) rfl)) ?_
              exact WL.nil ⟨Sub.cons' rfl (congrArg Value.bool (by rw [hc5]; rfl)) (Sub.skip rfl (Sub.skip rfl (Sub.skip rfl (Sub.skip rfl (Sub.refl _))))), fun _ s => s⟩
          refine WL.quiet (Runs.free rfl) rfl rfl (OV.quiet (ov_pick_false rfl (guard_eq rfl hc4) rfl)) ?_
          exact WL.nil ⟨Sub.cons' rfl (congrArg Value.bool (Option.some.inj hm)) (Sub.skip rfl (Sub.skip rfl (Sub.skip rfl (Sub.skip rfl (Sub.skip rfl (Sub.skip rfl (Sub.skip rfl (Sub.refl _)))))))), fun _ s => s⟩
      refine WL.nil ?_
      refine then_normal ?_
      refine WP.cond rfl (fun hc6 => ?_) (fun hc6 => ?_)
      · replace hm := ite_t hc6 hm
        refine WP.seq ?_
        refine WP.region ?_
        refine WL.quiet (Runs.free rfl) rfl rfl (OV.quiet (ov_assign rfl rfl)) ?_
        refine WL.nil ?_
        refine then_normal ?_
        refine WP.ret ?_
        refine then_ret ?_
        obtain rfl := Option.some.inj hm
        refine retQ_ret Tryd.results16 (Res.tmp rfl Res.nil) rfl (fun w' s => ⟨s.below, ?_⟩)
        exact rfl
      · replace hm := ite_f hc6 hm
        refine WP.skip ?_
        refine then_normal ?_
        refine WP.seq ?_
        refine WP.seq ?_
        refine WP.region ?_
        refine WL.quiet (Runs.free rfl) rfl rfl (OV.quiet (ov_fieldAddr Tryd.underlying38 rfl rfl rfl Tryd.sizeOf3 rfl rfl)) ?_
        refine WL.quiet (Runs.free rfl) rfl rfl (OV.quiet (ov_load_box (i := 0) Tryd.isAgg3 rfl rfl rfl rfl)) ?_
        refine WL.quiet (Runs.free rfl) rfl rfl (OV.quiet (ov_eql rfl rfl rfl)) ?_
        refine WL.quiet (Runs.free rfl) rfl rfl (OV.quiet (ov_move rfl rfl)) ?_
        obtain ⟨c3, e8, hm⟩ := bind_some hm
        refine WL.cut_bool 5 42 (x := c3) ?_ ?_
        · rcases Bool.eq_false_or_eq_true (p_x.kind == 1) with hc7 | hc7
          · skip
            replace hm := ite_t hc7 e8
            refine WL.quiet (Runs.yes rfl rfl rfl hc7) rfl rfl (OV.quiet (ov_fieldAddr Tryd.underlying38 rfl rfl rfl Tryd.sizeOf3 rfl rfl)) ?_
            refine WL.quiet (Runs.yes rfl rfl rfl hc7) rfl rfl (OV.quiet (ov_load_box (i := 0) Tryd.isAgg3 rfl rfl rfl rfl)) ?_
            obtain ⟨r6, e9, hm⟩ := bind_some hm
            refine WL.quiet (Runs.yes rfl rfl rfl hc7) rfl rfl (oq_con (r := (.bool r6)) Tryd.call40 rfl rfl (fun w' s => ⟨_, (ref58_in_con p_x.strokes 0 1048576  w' H s.hold hG r6 e9)⟩)) ?_
            refine WL.quiet (Runs.yes rfl rfl rfl hc7) rfl rfl (OV.quiet (ov_not rfl rfl)) ?_
            refine WL.quiet (Runs.free rfl) rfl rfl (OV.quiet (ov_pick_true rfl (guard_eq rfl hc7) rfl)) ?_
            exact WL.nil ⟨Sub.cons' rfl (congrArg Value.bool (Option.some.inj hm)) (Sub.skip rfl (Sub.skip rfl (Sub.skip rfl (Sub.skip rfl (Sub.skip rfl (Sub.refl _)))))), fun _ s => s⟩
          · skip
            replace hm := ite_f hc7 e8
            refine WL.idle (Idle.no rfl rfl rfl hc7) rfl rfl ?_
            refine WL.idle (Idle.no rfl rfl rfl hc7) rfl rfl ?_
            refine WL.idle (Idle.no rfl rfl rfl hc7) rfl rfl ?_
            refine WL.idle (Idle.no rfl rfl rfl hc7) rfl rfl ?_
            refine WL.quiet (Runs.free rfl) rfl rfl (OV.quiet (ov_pick_false rfl (guard_eq rfl hc7) rfl)) ?_
            exact WL.nil ⟨Sub.cons' rfl (congrArg Value.bool (Option.some.inj hm)) (Sub.skip rfl (Sub.skip rfl (Sub.skip rfl (Sub.skip rfl (Sub.skip rfl (Sub.refl _)))))), fun _ s => s⟩
        refine WL.quiet (Runs.free rfl) rfl rfl (OV.quiet (ov_move rfl rfl)) ?_
        refine WL.cut_bool 9 52 (x := (c3 || ((p_x.kind != 1) && (p_x.strokes != 0)))) ?_ ?_
        · rcases Bool.eq_false_or_eq_true c3 with hc8 | hc8
          · skip
            refine WL.idle (Idle.no rfl rfl rfl hc8) rfl rfl ?_
            refine WL.idle (Idle.no rfl rfl rfl hc8) rfl rfl ?_
            refine WL.idle (Idle.no rfl rfl rfl hc8) rfl rfl ?_
            refine WL.idle (Idle.no rfl rfl rfl hc8) rfl rfl ?_
            refine WL.idle (Idle.undef rfl rfl rfl) rfl rfl ?_
            refine WL.idle (Idle.undef rfl rfl rfl) rfl rfl ?_
            refine WL.idle (Idle.undef rfl rfl rfl) rfl rfl ?_
            refine WL.idle (Idle.no rfl rfl rfl hc8) rfl rfl ?_
            refine WL.quiet (Runs.free rfl) rfl rfl (OV.quiet (ov_pick_true rfl (guard_eq rfl hc8) rfl)) ?_
            exact WL.nil ⟨Sub.cons' rfl (congrArg Value.bool (by rw [hc8]; rfl)) (Sub.skip rfl (Sub.skip rfl (Sub.skip rfl (Sub.skip rfl (Sub.skip rfl (Sub.skip rfl (Sub.skip rfl (Sub.skip rfl (Sub.skip rfl (Sub.refl _)))))))))), fun _ s => s⟩
          · skip
            refine WL.quiet (Runs.yes rfl rfl rfl hc8) rfl rfl (OV.quiet (ov_fieldAddr Tryd.underlying38 rfl rfl rfl Tryd.sizeOf3 rfl rfl)) ?_
            refine WL.quiet (Runs.yes rfl rfl rfl hc8) rfl rfl (OV.quiet (ov_load_box (i := 0) Tryd.isAgg3 rfl rfl rfl rfl)) ?_
            refine WL.quiet (Runs.yes rfl rfl rfl hc8) rfl rfl (OV.quiet (ov_neq rfl rfl rfl)) ?_
            refine WL.quiet (Runs.yes rfl rfl rfl hc8) rfl rfl (OV.quiet (ov_move rfl rfl)) ?_
            refine WL.cut_bool 4 51 (x := ((p_x.kind != 1) && (p_x.strokes != 0))) ?_ ?_
            · rcases Bool.eq_false_or_eq_true (p_x.kind != 1) with hc9 | hc9
              · skip
                refine WL.quiet (Runs.yes rfl rfl rfl hc9) rfl rfl (OV.quiet (ov_fieldAddr Tryd.underlying38 rfl rfl rfl Tryd.sizeOf3 rfl rfl)) ?_
                refine WL.quiet (Runs.yes rfl rfl rfl hc9) rfl rfl (OV.quiet (ov_load_box (i := 0) Tryd.isAgg3 rfl rfl rfl rfl)) ?_
                refine WL.quiet (Runs.yes rfl rfl rfl hc9) rfl rfl (OV.quiet (ov_neq rfl rfl rfl)) ?_
                refine WL.quiet (Runs.yes rfl rfl rfl hc8) rfl rfl (OV.quiet (ov_pick_true rfl (guard_eq rfl hc9) rfl)) ?_
                exact WL.nil ⟨Sub.cons' rfl (congrArg Value.bool (by rw [hc9]; rfl)) (Sub.skip rfl (Sub.skip rfl (Sub.skip rfl (Sub.skip rfl (Sub.refl _))))), fun _ s => s⟩
              · skip
                refine WL.idle (Idle.no rfl rfl rfl hc9) rfl rfl ?_
                refine WL.idle (Idle.no rfl rfl rfl hc9) rfl rfl ?_
                refine WL.idle (Idle.no rfl rfl rfl hc9) rfl rfl ?_
                refine WL.quiet (Runs.yes rfl rfl rfl hc8) rfl rfl (OV.quiet (ov_pick_false rfl (guard_eq rfl hc9) rfl)) ?_
                exact WL.nil ⟨Sub.cons' rfl (congrArg Value.bool (by rw [hc9]; rfl)) (Sub.skip rfl (Sub.skip rfl (Sub.skip rfl (Sub.skip rfl (Sub.refl _))))), fun _ s => s⟩
            refine WL.quiet (Runs.free rfl) rfl rfl (OV.quiet (ov_pick_false rfl (guard_eq rfl hc8) rfl)) ?_
            exact WL.nil ⟨Sub.cons' rfl (congrArg Value.bool (by rw [hc8]; rfl)) (Sub.skip rfl (Sub.skip rfl (Sub.skip rfl (Sub.skip rfl (Sub.skip rfl (Sub.skip rfl (Sub.refl _))))))), fun _ s => s⟩
        refine WL.nil ?_
        refine then_normal ?_
        refine WP.cond rfl (fun hc10 => ?_) (fun hc10 => ?_)
        · replace hm := ite_t hc10 hm
          refine WP.seq ?_
          refine WP.region ?_
          refine WL.quiet (Runs.free rfl) rfl rfl (OV.quiet (ov_assign rfl rfl)) ?_
          refine WL.nil ?_
          refine then_normal ?_
          refine WP.ret ?_
          refine then_ret ?_
          obtain rfl := Option.some.inj hm
          refine retQ_ret Tryd.results16 (Res.tmp rfl Res.nil) rfl (fun w' s => ⟨s.below, ?_⟩)
          exact rfl
        · replace hm := ite_f hc10 hm
          refine WP.skip ?_
          refine then_normal ?_
          refine WP.seq ?_
          refine WP.region ?_
          refine WL.quiet (Runs.free rfl) rfl rfl (OV.quiet (ov_assign rfl rfl)) ?_
          refine WL.nil ?_
          refine then_normal ?_
          refine WP.ret ?_
          obtain rfl := Option.some.inj hm
          refine retQ_ret Tryd.results16 (Res.tmp rfl Res.nil) rfl (fun w' s => ⟨s.below, ?_⟩)
          exact rfl

end Go.Proofs.YtpigfknmlmeihaaDoor.W
