/- The walks. Written by our own program gen.py; Lean checks it. -/
import Derived.Test.YtpigfknmlmeihaaGreatDoorPlain
import Derived.Test.YtpigfknmlmeihaaGreatDoorEqs
import Derived.Test.YtpigfknmlmeihaaGreatDoorProg
import Derived.Test.YtpigfknmlmeihaaGreatDoorExt
import Derived.Test.YtpigfknmlmeihaaGreatDoorClone
import Derived.Test.YtpigfknmlmeihaaGreatDoorInsert
import Derived.Test.YtpigfknmlmeihaaGreatDoorBuild
import Derived.Test.YtpigfknmlmeihaaGreatDoorWalk3
set_option linter.unusedVariables false
set_option maxRecDepth 100000
set_option maxHeartbeats 4000000
namespace Go.Proofs.YtpigfknmlmeihaaGreatDoor.W
open Go Go.RowKit
theorem ref12_Digit_con (p_b : Int) (w : World) (H : Heap) (hH : Le H (hp w)) (hG : Glob H) (r : Bool) (hm : ref12_Digit p_b = some r) :
  Con Tryz.prog 104 [(.int .u8 p_b)] w H (fun v _ => v = (.bool r)) := by
 unfold ref12_Digit at hm
 refine con_of hH Tryz.func104 rfl 9 Tryz.ntmps104 rfl ?_
 refine WP.seq (WP.region ?_)
 refine wq rfl rfl rfl (ov_assign rfl rfl) ?_
 refine WL.nil (then_normal (WP.seq (WP.region ?_)))
 refine wq rfl rfl rfl (ov_move rfl rfl) ?_
 refine wq rfl rfl rfl (ov_geq rfl rfl rfl) ?_
 refine wq rfl rfl rfl (ov_move rfl rfl) ?_
 refine WL.cut_bool 3 8 (x := ((decide (p_b ≥ 48)) && (decide (p_b ≤ 57)))) ?_ ?_
 ·
  rcases Bool.eq_false_or_eq_true (decide (p_b ≥ 48)) with hc1 | hc1
  ·
   skip
   refine WL.quiet (Runs.yes rfl rfl rfl hc1) rfl rfl (OV.quiet (ov_move rfl rfl)) ?_
   refine WL.quiet (Runs.yes rfl rfl rfl hc1) rfl rfl (OV.quiet (ov_leq rfl rfl rfl)) ?_
   refine wq rfl rfl rfl (ov_pick_true rfl (guard_eq rfl hc1) rfl) ?_
   exact WL.nil ⟨Sub.cons' rfl (congrArg Value.bool (andT hc1)) (Sub.skip rfl (Sub.skip rfl (Sub.skip rfl (Sub.refl _)))), fun _ s => s⟩
  ·
   skip
   refine WL.idle (Idle.no rfl rfl rfl hc1) rfl rfl ?_
   refine WL.idle (Idle.no rfl rfl rfl hc1) rfl rfl ?_
   refine wq rfl rfl rfl (ov_pick_false rfl (guard_eq rfl hc1) rfl) ?_
   exact WL.nil ⟨Sub.cons' rfl (congrArg Value.bool (andF hc1)) (Sub.skip rfl (Sub.skip rfl (Sub.skip rfl (Sub.refl _)))), fun _ s => s⟩
 refine wq rfl rfl rfl (ov_assign rfl rfl) ?_
 refine WL.nil (then_normal (WP.ret ?_))
 obtain rfl := Option.some.inj hm
 refine retQ_ret Tryz.results104 (Res.tmp rfl Res.nil) rfl (fun w' s => ⟨s.below, ?_⟩)
 exact rfl

theorem ref12_inner_con (p_b : Int) (w : World) (H : Heap) (hH : Le H (hp w)) (hG : Glob H) (r : Bool) (hm : ref12_inner p_b = some r) :
  Con Tryz.prog 80 [(.int .u8 p_b)] w H (fun v _ => v = (.bool r)) := by
 unfold ref12_inner at hm
 refine con_of hH Tryz.func80 rfl 13 Tryz.ntmps80 rfl ?_
 refine WP.seq (WP.region ?_)
 refine wq rfl rfl rfl (ov_assign rfl rfl) ?_
 refine WL.nil (then_normal (WP.seq (WP.region ?_)))
 refine wq rfl rfl rfl (ov_move rfl rfl) ?_
 obtain ⟨r1, e1, hm⟩ := bind_some hm
 refine WL.quiet (Runs.free rfl) rfl rfl (oq_con (r := (.bool r1)) Tryz.call79 rfl rfl (fun w' s => ⟨_, (ref12_Letter_con p_b  w' H s.hold hG r1 e1)⟩)) ?_
 refine wq rfl rfl rfl (ov_move rfl rfl) ?_
 obtain ⟨c1, e2, hm⟩ := bind_some hm
 refine WL.cut_bool 3 8 (x := c1) ?_ ?_
 ·
  rcases Bool.eq_false_or_eq_true r1 with hc1 | hc1
  ·
   skip
   replace hm := ite_t hc1 e2
   refine WL.idle (Idle.no rfl rfl rfl hc1) rfl rfl ?_
   refine WL.idle (Idle.no rfl rfl rfl hc1) rfl rfl ?_
   refine wq rfl rfl rfl (ov_pick_true rfl (guard_eq rfl hc1) rfl) ?_
   exact WL.nil ⟨Sub.cons' rfl (congrArg Value.bool (Option.some.inj hm)) (Sub.skip rfl (Sub.skip rfl (Sub.skip rfl (Sub.refl _)))), fun _ s => s⟩
  ·
   skip
   replace hm := ite_f hc1 e2
   refine WL.quiet (Runs.yes rfl rfl rfl hc1) rfl rfl (OV.quiet (ov_move rfl rfl)) ?_
   obtain ⟨r2, e3, hm⟩ := bind_some hm
   refine WL.quiet (Runs.yes rfl rfl rfl hc1) rfl rfl (oq_con (r := (.bool r2)) Tryz.call104 rfl rfl (fun w' s => ⟨_, (ref12_Digit_con p_b  w' H s.hold hG r2 e3)⟩)) ?_
   refine wq rfl rfl rfl (ov_pick_false rfl (guard_eq rfl hc1) rfl) ?_
   exact WL.nil ⟨Sub.cons' rfl (congrArg Value.bool (Option.some.inj hm)) (Sub.skip rfl (Sub.skip rfl (Sub.skip rfl (Sub.refl _)))), fun _ s => s⟩
 refine wq rfl rfl rfl (ov_move rfl rfl) ?_
 refine WL.cut_bool 3 12 (x := (c1 || (p_b == 95))) ?_ ?_
 ·
  rcases Bool.eq_false_or_eq_true c1 with hc2 | hc2
  ·
   skip
   refine WL.idle (Idle.no rfl rfl rfl hc2) rfl rfl ?_
   refine WL.idle (Idle.no rfl rfl rfl hc2) rfl rfl ?_
   refine wq rfl rfl rfl (ov_pick_true rfl (guard_eq rfl hc2) rfl) ?_
   exact WL.nil ⟨Sub.cons' rfl (congrArg Value.bool (orT hc2)) (Sub.skip rfl (Sub.skip rfl (Sub.skip rfl (Sub.refl _)))), fun _ s => s⟩
  ·
   skip
   refine WL.quiet (Runs.yes rfl rfl rfl hc2) rfl rfl (OV.quiet (ov_move rfl rfl)) ?_
   refine WL.quiet (Runs.yes rfl rfl rfl hc2) rfl rfl (OV.quiet (ov_eql rfl rfl rfl)) ?_
   refine wq rfl rfl rfl (ov_pick_false rfl (guard_eq rfl hc2) rfl) ?_
   exact WL.nil ⟨Sub.cons' rfl (congrArg Value.bool (orF hc2)) (Sub.skip rfl (Sub.skip rfl (Sub.skip rfl (Sub.refl _)))), fun _ s => s⟩
 refine wq rfl rfl rfl (ov_assign rfl rfl) ?_
 refine WL.nil (then_normal (WP.ret ?_))
 obtain rfl := Option.some.inj hm
 refine retQ_ret Tryz.results80 (Res.tmp rfl Res.nil) rfl (fun w' s => ⟨s.below, ?_⟩)
 exact rfl

theorem ref12_Word_con (p_s : (List UInt8)) (w : World) (H : Heap) (hH : Le H (hp w)) (hG : Glob H) (r : Int) (hm : ref12_Word p_s = some r) :
  Con Tryz.prog 45 [(mkS p_s)] w H (fun v _ => v = (.int .i64 r)) := by
 unfold ref12_Word at hm
 refine con_of hH Tryz.func45 rfl 27 Tryz.ntmps45 rfl ?_
 refine WP.seq (WP.region ?_)
 refine wq rfl rfl rfl (ov_assign rfl rfl) ?_
 refine WL.nil (then_normal (WP.seq (WP.seq (WP.region ?_))))
 refine wq rfl rfl rfl (ov_move rfl rfl) ?_
 refine wq rfl rfl rfl (ov_len_string Tryz.underlying9 rfl rfl) ?_
 refine wq rfl rfl rfl (ov_eql rfl rfl rfl) ?_
 refine wq rfl rfl rfl (ov_move rfl rfl) ?_
 obtain ⟨c1, e1, hm⟩ := bind_some hm
 refine WL.cut_bool 5 12 (x := c1) ?_ ?_
 ·
  rcases Bool.eq_false_or_eq_true ((p_s.length : Int) == 0) with hc1 | hc1
  ·
   skip
   replace hm := ite_t hc1 e1
   refine WL.idle (Idle.no rfl rfl rfl hc1) rfl rfl ?_
   refine WL.idle (Idle.no rfl rfl rfl hc1) rfl rfl ?_
   refine WL.idle (Idle.no rfl rfl rfl hc1) rfl rfl ?_
   refine WL.idle (Idle.no rfl rfl rfl hc1) rfl rfl ?_
   refine wq rfl rfl rfl (ov_pick_true rfl (guard_eq rfl hc1) rfl) ?_
   exact WL.nil ⟨Sub.cons' rfl (congrArg Value.bool (Option.some.inj hm)) (Sub.skip rfl (Sub.skip rfl (Sub.skip rfl (Sub.skip rfl (Sub.skip rfl (Sub.refl _)))))), fun _ s => s⟩
  ·
   skip
   replace hm := ite_f hc1 e1
   refine WL.quiet (Runs.yes rfl rfl rfl hc1) rfl rfl (OV.quiet (ov_move rfl rfl)) ?_
   obtain ⟨b1, e2, hm⟩ := bind_some hm
   refine WL.quiet (Runs.yes rfl rfl rfl hc1) rfl rfl (OV.quiet (ov_index_string Tryz.underlying9 rfl rfl rfl e2)) ?_
   obtain ⟨r1, e3, hm⟩ := bind_some hm
   refine WL.quiet (Runs.yes rfl rfl rfl hc1) rfl rfl (oq_con (r := (.bool r1)) Tryz.call79 rfl rfl (fun w' s => ⟨_, (ref12_Letter_con (b1.toNat : Int)  w' H s.hold hG r1 e3)⟩)) ?_
   refine WL.quiet (Runs.yes rfl rfl rfl hc1) rfl rfl (OV.quiet (ov_not rfl rfl)) ?_
   refine wq rfl rfl rfl (ov_pick_false rfl (guard_eq rfl hc1) rfl) ?_
   exact WL.nil ⟨Sub.cons' rfl (congrArg Value.bool (Option.some.inj hm)) (Sub.skip rfl (Sub.skip rfl (Sub.skip rfl (Sub.skip rfl (Sub.skip rfl (Sub.refl _)))))), fun _ s => s⟩
 refine WL.nil (then_normal ?_)
 refine WP.cond rfl (fun hc2 => ?_) (fun hc2 => ?_)
 ·
  replace hm := ite_t hc2 hm
  refine WP.seq (WP.region ?_)
  refine wq rfl rfl rfl (ov_assign rfl rfl) ?_
  refine WL.nil (then_normal (WP.ret (then_ret ?_)))
  obtain rfl := Option.some.inj hm
  refine retQ_ret Tryz.results45 (Res.tmp rfl Res.nil) rfl (fun w' s => ⟨s.below, ?_⟩)
  exact rfl
 ·
  replace hm := ite_f hc2 hm
  refine WP.skip (then_normal ?_)
  obtain ⟨k1, hk1, hm⟩ := joinK_some hm
  refine WP.seq_join (fun g' S' => Sub [(0, (mkS p_s)), (1000000007, (.bool false))] g' ∧ (∀ w', S' w' → St w H [] H w') ∧ k1 = some r) ?_ ?_
  ·
   skip
   refine WP.seq (WP.region ?_)
   refine wq rfl rfl rfl (ov_assign rfl rfl) ?_
   refine WL.nil (then_normal (WP.block ?_))
   refine WP.loop (fun m1 g' S' => ∃ (i1 : Int), Sub [(0, (mkS p_s)), (3, (.int .i64 i1)), (1000000007, (.bool false))] g' ∧ (∀ w', S' w' → St w H [] H w') ∧ ref12_Word_loop1 p_s k1 m1 i1 = some r) ((Int.toNat ((p_s.length : Int) - 0) + 1)) ⟨0, (Sub.cons rfl (Sub.cons rfl (Sub.cons rfl (Sub.nil _)))), fun w' s => s, hm⟩ ?_ ?_
   ·
    rintro g' S' ⟨_, _, _, hm⟩
    exact none_some hm
   ·
    rintro m1 g' S' ⟨i1, hsub1, hS1, hm⟩
    refine WP.sub hsub1 (WP.weaken hS1 ?_)
    rw [ref12_Word_loop1] at hm
    refine WP.seq (WP.seq (WP.region ?_))
    refine wq rfl rfl rfl (ov_move rfl rfl) ?_
    refine wq rfl rfl rfl (ov_move rfl rfl) ?_
    refine wq rfl rfl rfl (ov_len_string Tryz.underlying9 rfl rfl) ?_
    refine wq rfl rfl rfl (ov_lss rfl rfl rfl) ?_
    refine WL.nil (then_normal ?_)
    refine WP.cond rfl (fun hc3 => ?_) (fun hc3 => ?_)
    ·
     replace hm := ite_t hc3 hm
     refine WP.skip (then_normal (WP.seq (WP.block (WP.seq (WP.region ?_)))))
     refine wq rfl rfl rfl (ov_move rfl rfl) ?_
     refine wq rfl rfl rfl (ov_move rfl rfl) ?_
     obtain ⟨b2, e4, hm⟩ := bind_some hm
     refine wq rfl rfl rfl (ov_index_string Tryz.underlying9 rfl rfl rfl e4) ?_
     obtain ⟨r2, e5, hm⟩ := bind_some hm
     refine WL.quiet (Runs.free rfl) rfl rfl (oq_con (r := (.bool r2)) Tryz.call80 rfl rfl (fun w' s => ⟨_, (ref12_inner_con (b2.toNat : Int)  w' H s.hold hG r2 e5)⟩)) ?_
     refine wq rfl rfl rfl (ov_not rfl rfl) ?_
     refine WL.nil (then_normal ?_)
     refine WP.cond rfl (fun hc4 => ?_) (fun hc4 => ?_)
     ·
      replace hm := ite_t hc4 hm
      refine WP.seq (WP.region ?_)
      refine wq rfl rfl rfl (ov_assign rfl rfl) ?_
      refine WL.nil (then_normal (WP.ret (block_ret (then_ret (then_ret (block_ret (then_ret ?_)))))))
      obtain rfl := Option.some.inj hm
      refine retQ_ret Tryz.results45 (Res.tmp rfl Res.nil) rfl (fun w' s => ⟨s.below, ?_⟩)
      exact rfl
     ·
      replace hm := ite_f hc4 hm
      refine WP.skip (block_normal (then_normal (WP.region ?_)))
      refine wq rfl rfl rfl (ov_move rfl rfl) ?_
      refine wq rfl rfl rfl (ov_add rfl rfl rfl) ?_
      refine wq rfl rfl rfl (ov_assign rfl rfl) ?_
      refine WL.nil (then_normal ?_)
      exact ⟨(IntKind.wrap .i64 (i1 + 1)), (Sub.cons rfl (Sub.cons rfl (Sub.cons rfl (Sub.nil _)))), fun w' s => s, hm⟩
    ·
     replace hm := ite_f hc3 hm
     refine WP.exit (then_exit (then_exit (block_here (then_normal ?_))))
     exact ⟨(Sub.cons rfl (Sub.cons rfl (Sub.nil _))), fun w' s => s, hm⟩
  ·
   rintro g' S' ⟨hsub2, hS2, hm⟩
   refine WP.sub hsub2 (WP.weaken hS2 ?_)
   replace hm := hk1.symm.trans hm
   refine WP.seq (WP.seq (WP.region ?_))
   refine wq rfl rfl rfl (ov_move rfl rfl) ?_
   refine wq rfl rfl rfl (ov_len_string Tryz.underlying9 rfl rfl) ?_
   refine wq rfl rfl rfl (ov_gtr rfl rfl rfl) ?_
   refine WL.nil (then_normal ?_)
   refine WP.cond rfl (fun hc5 => ?_) (fun hc5 => ?_)
   ·
    replace hm := ite_t hc5 hm
    refine WP.seq (WP.region ?_)
    refine wq rfl rfl rfl (ov_assign rfl rfl) ?_
    refine WL.nil (then_normal (WP.ret (then_ret ?_)))
    obtain rfl := Option.some.inj hm
    refine retQ_ret Tryz.results45 (Res.tmp rfl Res.nil) rfl (fun w' s => ⟨s.below, ?_⟩)
    exact rfl
   ·
    replace hm := ite_f hc5 hm
    refine WP.skip (then_normal (WP.seq (WP.region ?_)))
    refine wq rfl rfl rfl (ov_assign rfl rfl) ?_
    refine WL.nil (then_normal (WP.ret ?_))
    obtain rfl := Option.some.inj hm
    refine retQ_ret Tryz.results45 (Res.tmp rfl Res.nil) rfl (fun w' s => ⟨s.below, ?_⟩)
    exact rfl

theorem ref58_counted_con (p_kind : Int) (w : World) (H : Heap) (hH : Le H (hp w)) (hG : Glob H) (r : Bool) (hm : ref58_counted p_kind = some r) :
  Con Tryz.prog 46 [(.int .i64 p_kind)] w H (fun v _ => v = (.bool r)) := by
 unfold ref58_counted at hm
 refine con_of hH Tryz.func46 rfl 13 Tryz.ntmps46 rfl ?_
 refine WP.seq (WP.region ?_)
 refine wq rfl rfl rfl (ov_assign rfl rfl) ?_
 refine WL.nil (then_normal (WP.seq (WP.region ?_)))
 refine wq rfl rfl rfl (ov_move rfl rfl) ?_
 refine wq rfl rfl rfl (ov_eql rfl rfl rfl) ?_
 refine wq rfl rfl rfl (ov_move rfl rfl) ?_
 refine WL.cut_bool 3 8 (x := ((p_kind == 0) || (p_kind == 1))) ?_ ?_
 ·
  rcases Bool.eq_false_or_eq_true (p_kind == 0) with hc1 | hc1
  ·
   skip
   refine WL.idle (Idle.no rfl rfl rfl hc1) rfl rfl ?_
   refine WL.idle (Idle.no rfl rfl rfl hc1) rfl rfl ?_
   refine wq rfl rfl rfl (ov_pick_true rfl (guard_eq rfl hc1) rfl) ?_
   exact WL.nil ⟨Sub.cons' rfl (congrArg Value.bool (orT hc1)) (Sub.skip rfl (Sub.skip rfl (Sub.skip rfl (Sub.refl _)))), fun _ s => s⟩
  ·
   skip
   refine WL.quiet (Runs.yes rfl rfl rfl hc1) rfl rfl (OV.quiet (ov_move rfl rfl)) ?_
   refine WL.quiet (Runs.yes rfl rfl rfl hc1) rfl rfl (OV.quiet (ov_eql rfl rfl rfl)) ?_
   refine wq rfl rfl rfl (ov_pick_false rfl (guard_eq rfl hc1) rfl) ?_
   exact WL.nil ⟨Sub.cons' rfl (congrArg Value.bool (orF hc1)) (Sub.skip rfl (Sub.skip rfl (Sub.skip rfl (Sub.refl _)))), fun _ s => s⟩
 refine wq rfl rfl rfl (ov_move rfl rfl) ?_
 refine WL.cut_bool 3 12 (x := (((p_kind == 0) || (p_kind == 1)) || (p_kind == 4))) ?_ ?_
 ·
  rcases Bool.eq_false_or_eq_true ((p_kind == 0) || (p_kind == 1)) with hc2 | hc2
  ·
   skip
   refine WL.idle (Idle.no rfl rfl rfl hc2) rfl rfl ?_
   refine WL.idle (Idle.no rfl rfl rfl hc2) rfl rfl ?_
   refine wq rfl rfl rfl (ov_pick_true rfl (guard_eq rfl hc2) rfl) ?_
   exact WL.nil ⟨Sub.cons' rfl (congrArg Value.bool (orT hc2)) (Sub.skip rfl (Sub.skip rfl (Sub.skip rfl (Sub.refl _)))), fun _ s => s⟩
  ·
   skip
   refine WL.quiet (Runs.yes rfl rfl rfl hc2) rfl rfl (OV.quiet (ov_move rfl rfl)) ?_
   refine WL.quiet (Runs.yes rfl rfl rfl hc2) rfl rfl (OV.quiet (ov_eql rfl rfl rfl)) ?_
   refine wq rfl rfl rfl (ov_pick_false rfl (guard_eq rfl hc2) rfl) ?_
   exact WL.nil ⟨Sub.cons' rfl (congrArg Value.bool (orF hc2)) (Sub.skip rfl (Sub.skip rfl (Sub.skip rfl (Sub.refl _)))), fun _ s => s⟩
 refine wq rfl rfl rfl (ov_assign rfl rfl) ?_
 refine WL.nil (then_normal (WP.ret ?_))
 obtain rfl := Option.some.inj hm
 refine retQ_ret Tryz.results46 (Res.tmp rfl Res.nil) rfl (fun w' s => ⟨s.below, ?_⟩)
 exact rfl

theorem ref58_Right_con (p_x : Entry) (w : World) (H : Heap) (hH : Le H (hp w)) (hG : Glob H) (r : Int) (hm : ref58_Right p_x = some r) :
  Con Tryz.prog 13 [(.agg #[(.int .i64 p_x.kind), (mkS p_x.name), (.int .i64 p_x.count), (.int .i64 p_x.strokes)])] w H (fun v _ => v = (.int .i64 r)) := by
 unfold ref58_Right at hm
 refine con_of hH Tryz.func13 rfl 53 Tryz.ntmps13 rfl ?_
 refine WP.seq (WP.region ?_)
 refine WL.step (Runs.free rfl) rfl rfl (os_box (cs := [(.int .i64 p_x.kind), (mkS p_x.name), (.int .i64 p_x.count), (.int .i64 p_x.strokes)]) rfl rfl rfl (fun b1 => ?_))
 refine wq rfl rfl rfl (ov_assign rfl rfl) ?_
 refine WL.nil (then_normal (WP.seq (WP.seq (WP.region ?_))))
 refine wq rfl rfl rfl (ov_fieldAddr Tryz.underlying30 rfl rfl rfl Tryz.sizeOf3 rfl rfl) ?_
 refine wq rfl rfl rfl (ov_load_box (i := 0) Tryz.isAgg3 rfl rfl rfl rfl) ?_
 obtain ⟨r1, e1, hm⟩ := bind_some hm
 refine WL.quiet (Runs.free rfl) rfl rfl (oq_con (r := (.bool r1)) Tryz.call44 rfl rfl (fun w' s => ⟨_, (ref58_in_con p_x.kind 0 5  w' H s.hold hG r1 e1)⟩)) ?_
 refine wq rfl rfl rfl (ov_not rfl rfl) ?_
 refine WL.nil (then_normal ?_)
 refine WP.cond rfl (fun hc1 => ?_) (fun hc1 => ?_)
 ·
  replace hm := ite_t hc1 hm
  refine WP.seq (WP.region ?_)
  refine wq rfl rfl rfl (ov_assign rfl rfl) ?_
  refine WL.nil (then_normal (WP.ret (then_ret ?_)))
  obtain rfl := Option.some.inj hm
  refine retQ_ret Tryz.results13 (Res.tmp rfl Res.nil) rfl (fun w' s => ⟨s.below, ?_⟩)
  exact rfl
 ·
  replace hm := ite_f hc1 hm
  refine WP.skip (then_normal (WP.seq (WP.seq (WP.region ?_))))
  refine wq rfl rfl rfl (ov_fieldAddr Tryz.underlying30 rfl rfl rfl Tryz.sizeOf9 rfl rfl) ?_
  refine wq rfl rfl rfl (ov_load_box (i := 0) Tryz.isAgg9 rfl rfl rfl rfl) ?_
  obtain ⟨r2, e2, hm⟩ := bind_some hm
  refine WL.quiet (Runs.free rfl) rfl rfl (oq_con (r := (.int .i64 r2)) Tryz.call45 rfl rfl (fun w' s => ⟨_, (ref12_Word_con p_x.name  w' H s.hold hG r2 e2)⟩)) ?_
  refine wq rfl rfl rfl (ov_assign rfl rfl) ?_
  refine WL.nil (then_normal (WP.seq (WP.region ?_)))
  refine wq rfl rfl rfl (ov_move rfl rfl) ?_
  refine wq rfl rfl rfl (ov_neq rfl rfl rfl) ?_
  refine WL.nil (then_normal ?_)
  refine WP.cond rfl (fun hc2 => ?_) (fun hc2 => ?_)
  ·
   replace hm := ite_t hc2 hm
   refine WP.seq (WP.region ?_)
   refine wq rfl rfl rfl (ov_move rfl rfl) ?_
   refine wq rfl rfl rfl (ov_assign rfl rfl) ?_
   refine WL.nil (then_normal (WP.ret (then_ret ?_)))
   obtain rfl := Option.some.inj hm
   refine retQ_ret Tryz.results13 (Res.tmp rfl Res.nil) rfl (fun w' s => ⟨s.below, ?_⟩)
   exact rfl
  ·
   replace hm := ite_f hc2 hm
   refine WP.skip (then_normal (WP.seq (WP.seq (WP.region ?_))))
   refine wq rfl rfl rfl (ov_fieldAddr Tryz.underlying30 rfl rfl rfl Tryz.sizeOf3 rfl rfl) ?_
   refine wq rfl rfl rfl (ov_load_box (i := 0) Tryz.isAgg3 rfl rfl rfl rfl) ?_
   obtain ⟨r3, e3, hm⟩ := bind_some hm
   refine WL.quiet (Runs.free rfl) rfl rfl (oq_con (r := (.bool r3)) Tryz.call46 rfl rfl (fun w' s => ⟨_, (ref58_counted_con p_x.kind  w' H s.hold hG r3 e3)⟩)) ?_
   refine wq rfl rfl rfl (ov_move rfl rfl) ?_
   obtain ⟨c1, e4, hm⟩ := bind_some hm
   refine WL.cut_bool 5 22 (x := c1) ?_ ?_
   ·
    rcases Bool.eq_false_or_eq_true r3 with hc3 | hc3
    ·
     skip
     replace hm := ite_t hc3 e4
     refine WL.quiet (Runs.yes rfl rfl rfl hc3) rfl rfl (OV.quiet (ov_fieldAddr Tryz.underlying30 rfl rfl rfl Tryz.sizeOf3 rfl rfl)) ?_
     refine WL.quiet (Runs.yes rfl rfl rfl hc3) rfl rfl (OV.quiet (ov_load_box (i := 0) Tryz.isAgg3 rfl rfl rfl rfl)) ?_
     obtain ⟨r4, e5, hm⟩ := bind_some hm
     refine WL.quiet (Runs.yes rfl rfl rfl hc3) rfl rfl (oq_con (r := (.bool r4)) Tryz.call44 rfl rfl (fun w' s => ⟨_, (ref58_in_con p_x.count 1 1048576  w' H s.hold hG r4 e5)⟩)) ?_
     refine WL.quiet (Runs.yes rfl rfl rfl hc3) rfl rfl (OV.quiet (ov_not rfl rfl)) ?_
     refine wq rfl rfl rfl (ov_pick_true rfl (guard_eq rfl hc3) rfl) ?_
     exact WL.nil ⟨Sub.cons' rfl (congrArg Value.bool (Option.some.inj hm)) (Sub.skip rfl (Sub.skip rfl (Sub.skip rfl (Sub.skip rfl (Sub.skip rfl (Sub.refl _)))))), fun _ s => s⟩
    ·
     skip
     replace hm := ite_f hc3 e4
     refine WL.idle (Idle.no rfl rfl rfl hc3) rfl rfl ?_
     refine WL.idle (Idle.no rfl rfl rfl hc3) rfl rfl ?_
     refine WL.idle (Idle.no rfl rfl rfl hc3) rfl rfl ?_
     refine WL.idle (Idle.no rfl rfl rfl hc3) rfl rfl ?_
     refine wq rfl rfl rfl (ov_pick_false rfl (guard_eq rfl hc3) rfl) ?_
     exact WL.nil ⟨Sub.cons' rfl (congrArg Value.bool (Option.some.inj hm)) (Sub.skip rfl (Sub.skip rfl (Sub.skip rfl (Sub.skip rfl (Sub.skip rfl (Sub.refl _)))))), fun _ s => s⟩
   refine wq rfl rfl rfl (ov_move rfl rfl) ?_
   obtain ⟨c2, e6, hm⟩ := bind_some hm
   refine WL.cut_bool 10 33 (x := c2) ?_ ?_
   ·
    rcases Bool.eq_false_or_eq_true c1 with hc4 | hc4
    ·
     skip
     replace hm := ite_t hc4 e6
     refine WL.idle (Idle.no rfl rfl rfl hc4) rfl rfl ?_
     refine WL.idle (Idle.no rfl rfl rfl hc4) rfl rfl ?_
     refine WL.idle (Idle.no rfl rfl rfl hc4) rfl rfl ?_
     refine WL.idle (Idle.no rfl rfl rfl hc4) rfl rfl ?_
     refine WL.idle (Idle.no rfl rfl rfl hc4) rfl rfl ?_
     refine WL.idle (Idle.undef rfl rfl rfl) rfl rfl ?_
     refine WL.idle (Idle.undef rfl rfl rfl) rfl rfl ?_
     refine WL.idle (Idle.undef rfl rfl rfl) rfl rfl ?_
     refine WL.idle (Idle.no rfl rfl rfl hc4) rfl rfl ?_
     refine wq rfl rfl rfl (ov_pick_true rfl (guard_eq rfl hc4) rfl) ?_
     exact WL.nil ⟨Sub.cons' rfl (congrArg Value.bool (Option.some.inj hm)) (Sub.skip rfl (Sub.skip rfl (Sub.skip rfl (Sub.skip rfl (Sub.skip rfl (Sub.skip rfl (Sub.skip rfl (Sub.skip rfl (Sub.skip rfl (Sub.skip rfl (Sub.refl _))))))))))), fun _ s => s⟩
    ·
     skip
     replace hm := ite_f hc4 e6
     refine WL.quiet (Runs.yes rfl rfl rfl hc4) rfl rfl (OV.quiet (ov_fieldAddr Tryz.underlying30 rfl rfl rfl Tryz.sizeOf3 rfl rfl)) ?_
     refine WL.quiet (Runs.yes rfl rfl rfl hc4) rfl rfl (OV.quiet (ov_load_box (i := 0) Tryz.isAgg3 rfl rfl rfl rfl)) ?_
     obtain ⟨r5, e7, hm⟩ := bind_some hm
     refine WL.quiet (Runs.yes rfl rfl rfl hc4) rfl rfl (oq_con (r := (.bool r5)) Tryz.call46 rfl rfl (fun w' s => ⟨_, (ref58_counted_con p_x.kind  w' H s.hold hG r5 e7)⟩)) ?_
     refine WL.quiet (Runs.yes rfl rfl rfl hc4) rfl rfl (OV.quiet (ov_not rfl rfl)) ?_
     refine WL.quiet (Runs.yes rfl rfl rfl hc4) rfl rfl (OV.quiet (ov_move rfl rfl)) ?_
     refine WL.cut_bool 4 32 (x := ((!r5) && (p_x.count != 0))) ?_ ?_
     ·
      rcases Bool.eq_false_or_eq_true (!r5) with hc5 | hc5
      ·
       skip
       refine WL.quiet (Runs.yes rfl rfl rfl hc5) rfl rfl (OV.quiet (ov_fieldAddr Tryz.underlying30 rfl rfl rfl Tryz.sizeOf3 rfl rfl)) ?_
       refine WL.quiet (Runs.yes rfl rfl rfl hc5) rfl rfl (OV.quiet (ov_load_box (i := 0) Tryz.isAgg3 rfl rfl rfl rfl)) ?_
       refine WL.quiet (Runs.yes rfl rfl rfl hc5) rfl rfl (OV.quiet (ov_neq rfl rfl rfl)) ?_
       refine WL.quiet (Runs.yes rfl rfl rfl hc4) rfl rfl (OV.quiet (ov_pick_true rfl (guard_eq rfl hc5) rfl)) ?_
       exact WL.nil ⟨Sub.cons' rfl (congrArg Value.bool (andT hc5)) (Sub.skip rfl (Sub.skip rfl (Sub.skip rfl (Sub.skip rfl (Sub.refl _))))), fun _ s => s⟩
      ·
       skip
       refine WL.idle (Idle.no rfl rfl rfl hc5) rfl rfl ?_
       refine WL.idle (Idle.no rfl rfl rfl hc5) rfl rfl ?_
       refine WL.idle (Idle.no rfl rfl rfl hc5) rfl rfl ?_
       refine WL.quiet (Runs.yes rfl rfl rfl hc4) rfl rfl (OV.quiet (ov_pick_false rfl (guard_eq rfl hc5) rfl)) ?_
       exact WL.nil ⟨Sub.cons' rfl (congrArg Value.bool (andF hc5)) (Sub.skip rfl (Sub.skip rfl (Sub.skip rfl (Sub.skip rfl (Sub.refl _))))), fun _ s => s⟩
     refine wq rfl rfl rfl (ov_pick_false rfl (guard_eq rfl hc4) rfl) ?_
     exact WL.nil ⟨Sub.cons' rfl (congrArg Value.bool (Option.some.inj hm)) (Sub.skip rfl (Sub.skip rfl (Sub.skip rfl (Sub.skip rfl (Sub.skip rfl (Sub.skip rfl (Sub.skip rfl (Sub.refl _)))))))), fun _ s => s⟩
   refine WL.nil (then_normal ?_)
   refine WP.cond rfl (fun hc6 => ?_) (fun hc6 => ?_)
   ·
    replace hm := ite_t hc6 hm
    refine WP.seq (WP.region ?_)
    refine wq rfl rfl rfl (ov_assign rfl rfl) ?_
    refine WL.nil (then_normal (WP.ret (then_ret ?_)))
    obtain rfl := Option.some.inj hm
    refine retQ_ret Tryz.results13 (Res.tmp rfl Res.nil) rfl (fun w' s => ⟨s.below, ?_⟩)
    exact rfl
   ·
    replace hm := ite_f hc6 hm
    refine WP.skip (then_normal (WP.seq (WP.seq (WP.region ?_))))
    refine wq rfl rfl rfl (ov_fieldAddr Tryz.underlying30 rfl rfl rfl Tryz.sizeOf3 rfl rfl) ?_
    refine wq rfl rfl rfl (ov_load_box (i := 0) Tryz.isAgg3 rfl rfl rfl rfl) ?_
    refine wq rfl rfl rfl (ov_eql rfl rfl rfl) ?_
    refine wq rfl rfl rfl (ov_move rfl rfl) ?_
    obtain ⟨c3, e8, hm⟩ := bind_some hm
    refine WL.cut_bool 5 42 (x := c3) ?_ ?_
    ·
     rcases Bool.eq_false_or_eq_true (p_x.kind == 1) with hc7 | hc7
     ·
      skip
      replace hm := ite_t hc7 e8
      refine WL.quiet (Runs.yes rfl rfl rfl hc7) rfl rfl (OV.quiet (ov_fieldAddr Tryz.underlying30 rfl rfl rfl Tryz.sizeOf3 rfl rfl)) ?_
      refine WL.quiet (Runs.yes rfl rfl rfl hc7) rfl rfl (OV.quiet (ov_load_box (i := 0) Tryz.isAgg3 rfl rfl rfl rfl)) ?_
      obtain ⟨r6, e9, hm⟩ := bind_some hm
      refine WL.quiet (Runs.yes rfl rfl rfl hc7) rfl rfl (oq_con (r := (.bool r6)) Tryz.call44 rfl rfl (fun w' s => ⟨_, (ref58_in_con p_x.strokes 0 1048576  w' H s.hold hG r6 e9)⟩)) ?_
      refine WL.quiet (Runs.yes rfl rfl rfl hc7) rfl rfl (OV.quiet (ov_not rfl rfl)) ?_
      refine wq rfl rfl rfl (ov_pick_true rfl (guard_eq rfl hc7) rfl) ?_
      exact WL.nil ⟨Sub.cons' rfl (congrArg Value.bool (Option.some.inj hm)) (Sub.skip rfl (Sub.skip rfl (Sub.skip rfl (Sub.skip rfl (Sub.skip rfl (Sub.refl _)))))), fun _ s => s⟩
     ·
      skip
      replace hm := ite_f hc7 e8
      refine WL.idle (Idle.no rfl rfl rfl hc7) rfl rfl ?_
      refine WL.idle (Idle.no rfl rfl rfl hc7) rfl rfl ?_
      refine WL.idle (Idle.no rfl rfl rfl hc7) rfl rfl ?_
      refine WL.idle (Idle.no rfl rfl rfl hc7) rfl rfl ?_
      refine wq rfl rfl rfl (ov_pick_false rfl (guard_eq rfl hc7) rfl) ?_
      exact WL.nil ⟨Sub.cons' rfl (congrArg Value.bool (Option.some.inj hm)) (Sub.skip rfl (Sub.skip rfl (Sub.skip rfl (Sub.skip rfl (Sub.skip rfl (Sub.refl _)))))), fun _ s => s⟩
    refine wq rfl rfl rfl (ov_move rfl rfl) ?_
    refine WL.cut_bool 9 52 (x := (c3 || ((p_x.kind != 1) && (p_x.strokes != 0)))) ?_ ?_
    ·
     rcases Bool.eq_false_or_eq_true c3 with hc8 | hc8
     ·
      skip
      refine WL.idle (Idle.no rfl rfl rfl hc8) rfl rfl ?_
      refine WL.idle (Idle.no rfl rfl rfl hc8) rfl rfl ?_
      refine WL.idle (Idle.no rfl rfl rfl hc8) rfl rfl ?_
      refine WL.idle (Idle.no rfl rfl rfl hc8) rfl rfl ?_
      refine WL.idle (Idle.undef rfl rfl rfl) rfl rfl ?_
      refine WL.idle (Idle.undef rfl rfl rfl) rfl rfl ?_
      refine WL.idle (Idle.undef rfl rfl rfl) rfl rfl ?_
      refine WL.idle (Idle.no rfl rfl rfl hc8) rfl rfl ?_
      refine wq rfl rfl rfl (ov_pick_true rfl (guard_eq rfl hc8) rfl) ?_
      exact WL.nil ⟨Sub.cons' rfl (congrArg Value.bool (orT hc8)) (Sub.skip rfl (Sub.skip rfl (Sub.skip rfl (Sub.skip rfl (Sub.skip rfl (Sub.skip rfl (Sub.skip rfl (Sub.skip rfl (Sub.skip rfl (Sub.refl _)))))))))), fun _ s => s⟩
     ·
      skip
      refine WL.quiet (Runs.yes rfl rfl rfl hc8) rfl rfl (OV.quiet (ov_fieldAddr Tryz.underlying30 rfl rfl rfl Tryz.sizeOf3 rfl rfl)) ?_
      refine WL.quiet (Runs.yes rfl rfl rfl hc8) rfl rfl (OV.quiet (ov_load_box (i := 0) Tryz.isAgg3 rfl rfl rfl rfl)) ?_
      refine WL.quiet (Runs.yes rfl rfl rfl hc8) rfl rfl (OV.quiet (ov_neq rfl rfl rfl)) ?_
      refine WL.quiet (Runs.yes rfl rfl rfl hc8) rfl rfl (OV.quiet (ov_move rfl rfl)) ?_
      refine WL.cut_bool 4 51 (x := ((p_x.kind != 1) && (p_x.strokes != 0))) ?_ ?_
      ·
       rcases Bool.eq_false_or_eq_true (p_x.kind != 1) with hc9 | hc9
       ·
        skip
        refine WL.quiet (Runs.yes rfl rfl rfl hc9) rfl rfl (OV.quiet (ov_fieldAddr Tryz.underlying30 rfl rfl rfl Tryz.sizeOf3 rfl rfl)) ?_
        refine WL.quiet (Runs.yes rfl rfl rfl hc9) rfl rfl (OV.quiet (ov_load_box (i := 0) Tryz.isAgg3 rfl rfl rfl rfl)) ?_
        refine WL.quiet (Runs.yes rfl rfl rfl hc9) rfl rfl (OV.quiet (ov_neq rfl rfl rfl)) ?_
        refine WL.quiet (Runs.yes rfl rfl rfl hc8) rfl rfl (OV.quiet (ov_pick_true rfl (guard_eq rfl hc9) rfl)) ?_
        exact WL.nil ⟨Sub.cons' rfl (congrArg Value.bool (andT hc9)) (Sub.skip rfl (Sub.skip rfl (Sub.skip rfl (Sub.skip rfl (Sub.refl _))))), fun _ s => s⟩
       ·
        skip
        refine WL.idle (Idle.no rfl rfl rfl hc9) rfl rfl ?_
        refine WL.idle (Idle.no rfl rfl rfl hc9) rfl rfl ?_
        refine WL.idle (Idle.no rfl rfl rfl hc9) rfl rfl ?_
        refine WL.quiet (Runs.yes rfl rfl rfl hc8) rfl rfl (OV.quiet (ov_pick_false rfl (guard_eq rfl hc9) rfl)) ?_
        exact WL.nil ⟨Sub.cons' rfl (congrArg Value.bool (andF hc9)) (Sub.skip rfl (Sub.skip rfl (Sub.skip rfl (Sub.skip rfl (Sub.refl _))))), fun _ s => s⟩
      refine wq rfl rfl rfl (ov_pick_false rfl (guard_eq rfl hc8) rfl) ?_
      exact WL.nil ⟨Sub.cons' rfl (congrArg Value.bool (orF hc8)) (Sub.skip rfl (Sub.skip rfl (Sub.skip rfl (Sub.skip rfl (Sub.skip rfl (Sub.skip rfl (Sub.refl _))))))), fun _ s => s⟩
    refine WL.nil (then_normal ?_)
    refine WP.cond rfl (fun hc10 => ?_) (fun hc10 => ?_)
    ·
     replace hm := ite_t hc10 hm
     refine WP.seq (WP.region ?_)
     refine wq rfl rfl rfl (ov_assign rfl rfl) ?_
     refine WL.nil (then_normal (WP.ret (then_ret ?_)))
     obtain rfl := Option.some.inj hm
     refine retQ_ret Tryz.results13 (Res.tmp rfl Res.nil) rfl (fun w' s => ⟨s.below, ?_⟩)
     exact rfl
    ·
     replace hm := ite_f hc10 hm
     refine WP.skip (then_normal (WP.seq (WP.region ?_)))
     refine wq rfl rfl rfl (ov_assign rfl rfl) ?_
     refine WL.nil (then_normal (WP.ret ?_))
     obtain rfl := Option.some.inj hm
     refine retQ_ret Tryz.results13 (Res.tmp rfl Res.nil) rfl (fun w' s => ⟨s.below, ?_⟩)
     exact rfl

theorem ref58_words_con  (w : World) (H : Heap) (hH : Le H (hp w)) (hG : Glob H) (r : (List (List UInt8))) (hm : ref58_words  = some r) :
  Con Tryz.prog 42 [] w H (fun v H' => ∃ (ao1 : Option Addr) (cap1 : Nat), v = (.slice ao1 r.length cap1) ∧ SL H' encStr ao1 r ∧ r.length ≤ cap1) := by
 unfold ref58_words at hm
 refine con_of hH Tryz.func42 rfl 2 Tryz.ntmps42 rfl ?_
 refine WP.seq (WP.region ?_)
 refine wq rfl rfl rfl (ov_assign rfl rfl) ?_
 refine WL.nil (then_normal (WP.seq (WP.region ?_)))
 have rl1 : RL H encStr ([[112, 97, 114, 116], [99, 121, 99, 108, 101, 115], [102, 97, 117, 108, 116], [114, 101, 112, 97, 105, 114], [114, 101, 112, 108, 97, 99, 101], [114, 101, 109, 111, 118, 101]] : List (List UInt8)) [(mkS [112, 97, 114, 116]), (mkS [99, 121, 99, 108, 101, 115]), (mkS [102, 97, 117, 108, 116]), (mkS [114, 101, 112, 97, 105, 114]), (mkS [114, 101, 112, 108, 97, 99, 101]), (mkS [114, 101, 109, 111, 118, 101])] := RL.cons (cs := [(mkS [112, 97, 114, 116])]) (xs := [(mkS [99, 121, 99, 108, 101, 115]), (mkS [102, 97, 117, 108, 116]), (mkS [114, 101, 112, 97, 105, 114]), (mkS [114, 101, 112, 108, 97, 99, 101]), (mkS [114, 101, 109, 111, 118, 101])]) rfl (RL.cons (cs := [(mkS [99, 121, 99, 108, 101, 115])]) (xs := [(mkS [102, 97, 117, 108, 116]), (mkS [114, 101, 112, 97, 105, 114]), (mkS [114, 101, 112, 108, 97, 99, 101]), (mkS [114, 101, 109, 111, 118, 101])]) rfl (RL.cons (cs := [(mkS [102, 97, 117, 108, 116])]) (xs := [(mkS [114, 101, 112, 97, 105, 114]), (mkS [114, 101, 112, 108, 97, 99, 101]), (mkS [114, 101, 109, 111, 118, 101])]) rfl (RL.cons (cs := [(mkS [114, 101, 112, 97, 105, 114])]) (xs := [(mkS [114, 101, 112, 108, 97, 99, 101]), (mkS [114, 101, 109, 111, 118, 101])]) rfl (RL.cons (cs := [(mkS [114, 101, 112, 108, 97, 99, 101])]) (xs := [(mkS [114, 101, 109, 111, 118, 101])]) rfl (RL.cons (cs := [(mkS [114, 101, 109, 111, 118, 101])]) (xs := []) rfl (RL.nil _ _))))))
 refine WL.step (Runs.free rfl) rfl rfl (os_buildSlice (cs := [(mkS [112, 97, 114, 116]), (mkS [99, 121, 99, 108, 101, 115]), (mkS [102, 97, 117, 108, 116]), (mkS [114, 101, 112, 97, 105, 114]), (mkS [114, 101, 112, 108, 97, 99, 101]), (mkS [114, 101, 109, 111, 118, 101])]) (E := 9) (sz := 1) rfl rfl (fun _ => by kernel_rfl) rfl (by decide) (fun b1 => ?_))
 refine WL.held rl1 (fun H1 hc2 hle1 h2 => ?_)
 replace hG := hG.mono hle1
 refine wq rfl rfl rfl (ov_assign rfl rfl) ?_
 refine WL.nil (then_normal (WP.ret ?_))
 obtain rfl := Option.some.inj hm
 refine retQ_ret Tryz.results42 (Res.tmp rfl Res.nil) rfl (fun w' s => ⟨s.below, ?_⟩)
 exact ⟨(some ⟨b1, 0, none⟩), 6, rfl, h2.mono s.le_newer, hc2⟩

theorem ref58_Written_con (p_x : Entry) (w : World) (H : Heap) (hH : Le H (hp w)) (hG : Glob H) (r : (List UInt8)) (hm : ref58_Written p_x = some r) :
  Con Tryz.prog 35 [(.agg #[(.int .i64 p_x.kind), (mkS p_x.name), (.int .i64 p_x.count), (.int .i64 p_x.strokes)])] w H (fun v _ => v = (mkS r)) := by
 unfold ref58_Written at hm
 refine con_of hH Tryz.func35 rfl 32 Tryz.ntmps35 rfl ?_
 refine WP.seq (WP.region ?_)
 refine WL.step (Runs.free rfl) rfl rfl (os_box (cs := [(.int .i64 p_x.kind), (mkS p_x.name), (.int .i64 p_x.count), (.int .i64 p_x.strokes)]) rfl rfl rfl (fun b1 => ?_))
 refine wq rfl rfl rfl (ov_assign rfl rfl) ?_
 refine WL.nil (then_normal (WP.seq ?_))
 refine WP.region_any (S₀ := St w H [.blk b1 30 [(.int .i64 p_x.kind), (mkS p_x.name), (.int .i64 p_x.count), (.int .i64 p_x.strokes)]] H) 10 rfl (by kernel_rfl) (fun w' s => s) (fun _ s => s.drew) ?_
 refine tq (i := 1) rfl (by kernel_rfl) rfl rfl rfl (ov_fieldAddr Tryz.underlying30 rfl rfl rfl Tryz.sizeOf3 rfl rfl) ?_
 refine tq (i := 2) rfl (by kernel_rfl) rfl rfl rfl (ov_load_box (i := 0) Tryz.isAgg3 rfl rfl rfl rfl) ?_
 refine tq (i := 6) rfl (by kernel_rfl) rfl rfl rfl (ov_fieldAddr Tryz.underlying30 rfl rfl rfl Tryz.sizeOf9 rfl rfl) ?_
 refine tq (i := 7) rfl (by kernel_rfl) rfl rfl rfl (ov_load_box (i := 0) Tryz.isAgg9 rfl rfl rfl rfl) ?_
 refine AL.any (rs := [0]) (by kernel_rfl) (by decide) ?_
 refine ALs.cons (i := 0) rfl (Runs.free rfl) rfl rfl ?_ ?_
 ·
  skip
  obtain ⟨r1, e1, hm⟩ := bind_some hm
  refine os_con Tryz.call42 rfl rfl (fun w' s => (ref58_words_con   w' H s.hold hG r1 e1)) (fun rr1 H1 hle1 hR1 => ?_)
  replace hG := hG.mono hle1
  obtain ⟨ao1, cap1, rfl, h1, hc1⟩ := hR1
  refine ⟨fun w' s => (s.heap hle1), ?_⟩
  refine AL.any (rs := [3]) (by kernel_rfl) (by decide) ?_
  refine ALs.cons (i := 3) rfl (Runs.free rfl) rfl rfl ?_ ?_
  ·
   skip
   obtain ⟨x1, e2, hm⟩ := bind_some hm
   obtain ⟨h2, h3, h4, cs1, h5, h6⟩ := h1.get e2 (by decide)
   obtain rfl : cs1 = [(mkS x1)] := h5
   refine OQ.step (OV.quiet (ov_indexAddr Tryz.underlying64 Tryz.sizeOf9 rfl rfl rfl h2 h3 h4)) ?_
   refine ⟨fun w' s => (s.heap hle1), ?_⟩
   refine AL.any (rs := [4]) (by kernel_rfl) (by decide) ?_
   refine ALs.cons (i := 4) rfl (Runs.free rfl) rfl rfl ?_ ?_
   ·
    skip
    refine OQ.step (OV.quiet (ov_load_elem (v := (mkS x1)) Tryz.isAgg9 rfl rfl h6)) ?_
    refine ⟨fun w' s => (s.heap hle1), ?_⟩
    obtain ⟨s1, e3, hm⟩ := bind_some hm
    refine tq (i := 5) rfl (by kernel_rfl) rfl rfl rfl (ov_sadd' e3 rfl rfl rfl) ?_
    obtain ⟨s2, e4, hm⟩ := bind_some hm
    refine tq (i := 8) rfl (by kernel_rfl) rfl rfl rfl (ov_sadd' e4 rfl rfl rfl) ?_
    refine tq (i := 9) rfl (by kernel_rfl) rfl rfl rfl (ov_assign rfl rfl) ?_
    refine AL.done (by kernel_rfl) ?_
    refine then_normal ?_
    obtain ⟨k1, hk1, hm⟩ := joinK_some hm
    refine WP.seq_join (fun g' S' => ∃ (s5 : (List UInt8)), Sub [(1, (pB b1 0)), (3, (mkS s5)), (1000000007, (.bool false))] g' ∧ (∀ w', S' w' → St w H [.blk b1 30 [(.int .i64 p_x.kind), (mkS p_x.name), (.int .i64 p_x.count), (.int .i64 p_x.strokes)]] H1 w') ∧ k1 s5 = some r) ?_ ?_
    ·
     skip
     refine WP.seq (WP.region ?_)
     refine wq rfl rfl rfl (ov_fieldAddr Tryz.underlying30 rfl rfl rfl Tryz.sizeOf3 rfl rfl) ?_
     refine wq rfl rfl rfl (ov_load_box (i := 0) Tryz.isAgg3 rfl rfl rfl rfl) ?_
     obtain ⟨r2, e5, hm⟩ := bind_some hm
     refine WL.quiet (Runs.free rfl) rfl rfl (oq_con (r := (.bool r2)) Tryz.call46 rfl rfl (fun w' s => ⟨_, (ref58_counted_con p_x.kind  w' H1 s.hold hG r2 e5)⟩)) ?_
     refine WL.nil (then_normal ?_)
     refine WP.cond rfl (fun hc2 => ?_) (fun hc2 => ?_)
     ·
      replace hm := ite_t hc2 hm
      refine WP.region ?_
      refine wq rfl rfl rfl (ov_move rfl rfl) ?_
      refine wq rfl rfl rfl (ov_fieldAddr Tryz.underlying30 rfl rfl rfl Tryz.sizeOf3 rfl rfl) ?_
      refine wq rfl rfl rfl (ov_load_box (i := 0) Tryz.isAgg3 rfl rfl rfl rfl) ?_
      obtain ⟨r3, e6, hm⟩ := bind_some hm
      refine WL.quiet (Runs.free rfl) rfl rfl (oq_con (r := (mkS r3)) Tryz.call30 rfl rfl (fun w' s => ⟨_, (ref12_Digits_con p_x.count  w' H1 s.hold hG r3 e6)⟩)) ?_
      obtain ⟨s3, e7, hm⟩ := bind_some hm
      refine wq rfl rfl rfl (ov_sadd' e7 rfl rfl rfl) ?_
      obtain ⟨s4, e8, hm⟩ := bind_some hm
      refine wq rfl rfl rfl (ov_sadd' e8 rfl rfl rfl) ?_
      refine wq rfl rfl rfl (ov_assign rfl rfl) ?_
      refine WL.nil (then_normal ?_)
      exact ⟨s4, (Sub.cons rfl (Sub.cons rfl (Sub.cons rfl (Sub.nil _)))), fun w' s => s, hm⟩
     ·
      replace hm := ite_f hc2 hm
      refine WP.skip (then_normal ?_)
      exact ⟨s2, (Sub.cons rfl (Sub.cons rfl (Sub.cons rfl (Sub.nil _)))), fun w' s => s, hm⟩
    ·
     rintro g' S' ⟨s5, hsub1, hS1, hm⟩
     refine WP.sub hsub1 (WP.weaken hS1 ?_)
     replace hm := (congrFun hk1 s5).symm.trans hm
     obtain ⟨k2, hk2, hm⟩ := joinK_some hm
     refine WP.seq_join (fun g' S' => ∃ (s8 : (List UInt8)), Sub [(3, (mkS s8)), (1000000007, (.bool false))] g' ∧ (∀ w', S' w' → St w H [] H1 w') ∧ k2 s8 = some r) ?_ ?_
     ·
      skip
      refine WP.seq (WP.region ?_)
      refine wq rfl rfl rfl (ov_fieldAddr Tryz.underlying30 rfl rfl rfl Tryz.sizeOf3 rfl rfl) ?_
      refine wq rfl rfl rfl (ov_load_box (i := 0) Tryz.isAgg3 rfl rfl rfl rfl) ?_
      refine wq rfl rfl rfl (ov_eql rfl rfl rfl) ?_
      refine WL.nil (then_normal ?_)
      refine WP.cond rfl (fun hc3 => ?_) (fun hc3 => ?_)
      ·
       replace hm := ite_t hc3 hm
       refine WP.region ?_
       refine wq rfl rfl rfl (ov_move rfl rfl) ?_
       refine wq rfl rfl rfl (ov_fieldAddr Tryz.underlying30 rfl rfl rfl Tryz.sizeOf3 rfl rfl) ?_
       refine wq rfl rfl rfl (ov_load_box (i := 0) Tryz.isAgg3 rfl rfl rfl rfl) ?_
       obtain ⟨r4, e9, hm⟩ := bind_some hm
       refine WL.quiet (Runs.free rfl) rfl rfl (oq_con (r := (mkS r4)) Tryz.call30 rfl rfl (fun w' s => ⟨_, (ref12_Digits_con p_x.strokes  w' H1 s.hold hG r4 e9)⟩)) ?_
       obtain ⟨s6, e10, hm⟩ := bind_some hm
       refine wq rfl rfl rfl (ov_sadd' e10 rfl rfl rfl) ?_
       obtain ⟨s7, e11, hm⟩ := bind_some hm
       refine wq rfl rfl rfl (ov_sadd' e11 rfl rfl rfl) ?_
       refine wq rfl rfl rfl (ov_assign rfl rfl) ?_
       refine WL.nil (then_normal ?_)
       exact ⟨s7, (Sub.cons rfl (Sub.cons rfl (Sub.nil _))), fun w' s => (s.select [] (by decide) rfl), hm⟩
      ·
       replace hm := ite_f hc3 hm
       refine WP.skip (then_normal ?_)
       exact ⟨s5, (Sub.cons rfl (Sub.cons rfl (Sub.nil _))), fun w' s => (s.select [] (by decide) rfl), hm⟩
     ·
      rintro g' S' ⟨s8, hsub2, hS2, hm⟩
      refine WP.sub hsub2 (WP.weaken hS2 ?_)
      replace hm := (congrFun hk2 s8).symm.trans hm
      refine WP.seq (WP.region ?_)
      refine wq rfl rfl rfl (ov_move rfl rfl) ?_
      refine wq rfl rfl rfl (ov_assign rfl rfl) ?_
      refine WL.nil (then_normal (WP.ret ?_))
      obtain rfl := Option.some.inj hm
      refine retQ_ret Tryz.results35 (Res.tmp rfl Res.nil) rfl (fun w' s => ⟨s.below, ?_⟩)
      exact rfl
   exact ALs.nil
  exact ALs.nil
 exact ALs.nil

theorem ref58_Text_con (p_x : Entry) (w : World) (H : Heap) (hH : Le H (hp w)) (hG : Glob H) (r : ((List UInt8) × Int)) (hm : ref58_Text p_x = some r) :
  Con Tryz.prog 10 [(.agg #[(.int .i64 p_x.kind), (mkS p_x.name), (.int .i64 p_x.count), (.int .i64 p_x.strokes)])] w H (fun v _ => v = (.tuple #[(mkS r.1), (.int .i64 r.2)])) := by
 unfold ref58_Text at hm
 refine con_of hH Tryz.func10 rfl 12 Tryz.ntmps10 rfl ?_
 refine WP.seq (WP.region ?_)
 refine WL.step (Runs.free rfl) rfl rfl (os_box (cs := [(.int .i64 p_x.kind), (mkS p_x.name), (.int .i64 p_x.count), (.int .i64 p_x.strokes)]) rfl rfl rfl (fun b1 => ?_))
 refine wq rfl rfl rfl (ov_assign rfl rfl) ?_
 refine wq rfl rfl rfl (ov_assign rfl rfl) ?_
 refine WL.nil (then_normal (WP.seq (WP.seq (WP.region ?_))))
 refine wq rfl rfl rfl (ov_load_whole (i := 0) Tryz.isAgg30 Tryz.sizeOf30 rfl rfl rfl rfl) ?_
 obtain ⟨r1, e1, hm⟩ := bind_some hm
 refine WL.quiet (Runs.free rfl) rfl rfl (oq_con (r := (.int .i64 r1)) Tryz.call13 rfl rfl (fun w' s => ⟨_, (ref58_Right_con p_x  w' H s.hold hG r1 e1)⟩)) ?_
 refine wq rfl rfl rfl (ov_assign rfl rfl) ?_
 refine WL.nil (then_normal (WP.seq (WP.region ?_)))
 refine wq rfl rfl rfl (ov_move rfl rfl) ?_
 refine wq rfl rfl rfl (ov_neq rfl rfl rfl) ?_
 refine WL.nil (then_normal ?_)
 refine WP.cond rfl (fun hc1 => ?_) (fun hc1 => ?_)
 ·
  replace hm := ite_t hc1 hm
  refine WP.seq (WP.region ?_)
  refine wq rfl rfl rfl (ov_move rfl rfl) ?_
  refine wq rfl rfl rfl (ov_assign rfl rfl) ?_
  refine wq rfl rfl rfl (ov_assign rfl rfl) ?_
  refine WL.nil (then_normal (WP.ret (then_ret ?_)))
  obtain rfl := Option.some.inj hm
  refine retQ_ret Tryz.results10 (Res.tmp rfl (Res.tmp rfl Res.nil)) rfl (fun w' s => ⟨s.below, ?_⟩)
  exact rfl
 ·
  replace hm := ite_f hc1 hm
  refine WP.skip (then_normal (WP.seq (WP.region ?_)))
  refine wq rfl rfl rfl (ov_load_whole (i := 0) Tryz.isAgg30 Tryz.sizeOf30 rfl rfl rfl rfl) ?_
  obtain ⟨r2, e2, hm⟩ := bind_some hm
  refine WL.quiet (Runs.free rfl) rfl rfl (oq_con (r := (mkS r2)) Tryz.call35 rfl rfl (fun w' s => ⟨_, (ref58_Written_con p_x  w' H s.hold hG r2 e2)⟩)) ?_
  refine wq rfl rfl rfl (ov_assign rfl rfl) ?_
  refine wq rfl rfl rfl (ov_assign rfl rfl) ?_
  refine WL.nil (then_normal (WP.ret ?_))
  obtain rfl := Option.some.inj hm
  refine retQ_ret Tryz.results10 (Res.tmp rfl (Res.tmp rfl Res.nil)) rfl (fun w' s => ⟨s.below, ?_⟩)
  exact rfl

end Go.Proofs.YtpigfknmlmeihaaGreatDoor.W
