/- The walks. Written by our own program gen.py; Lean checks it. -/
import Derived.Test.YtpigfknmlmeihaaGreatDoorPlain
import Derived.Test.YtpigfknmlmeihaaGreatDoorEqs
import Derived.Test.YtpigfknmlmeihaaGreatDoorProg
import Derived.Test.YtpigfknmlmeihaaGreatDoorExt
import Derived.Test.YtpigfknmlmeihaaGreatDoorClone
import Derived.Test.YtpigfknmlmeihaaGreatDoorInsert
import Derived.Test.YtpigfknmlmeihaaGreatDoorBuild
import Derived.Test.YtpigfknmlmeihaaGreatDoorWalk1
import Derived.Test.YtpigfknmlmeihaaGreatDoorWalk2
import Derived.Test.YtpigfknmlmeihaaGreatDoorWalk3
import Derived.Test.YtpigfknmlmeihaaGreatDoorWalk4
import Derived.Test.YtpigfknmlmeihaaGreatDoorWalk5
set_option linter.unusedVariables false
set_option maxRecDepth 100000
set_option maxHeartbeats 4000000
namespace Go.Proofs.YtpigfknmlmeihaaGreatDoor.W
open Go Go.RowKit
theorem ref58_Short_con (p_s : (List UInt8)) (w : World) (H : Heap) (hH : Le H (hp w)) (hG : Glob H) (r : Bool) (hm : ref58_Short p_s = some r) :
  Con Tryz.prog 14 [(mkS p_s)] w H (fun v _ => v = (.bool r)) := by
 unfold ref58_Short at hm
 refine con_of hH Tryz.func14 rfl 16 Tryz.ntmps14 rfl ?_
 refine WP.seq (WP.region ?_)
 refine wq rfl rfl rfl (ov_assign rfl rfl) ?_
 refine WL.nil (then_normal (WP.seq (WP.region ?_)))
 refine wq rfl rfl rfl (ov_move rfl rfl) ?_
 refine wq rfl rfl rfl (ov_len_string Tryz.underlying9 rfl rfl) ?_
 refine wq rfl rfl rfl (ov_leq rfl rfl rfl) ?_
 refine wq rfl rfl rfl (ov_move rfl rfl) ?_
 refine WL.cut_bool 9 15 (x := ((decide ((p_s.length : Int) ≤ 1500)) || ((decide ((p_s.length : Int) > 262144)) && (decide ((p_s.length : Int) < 524288))))) ?_ ?_
 ·
  rcases Bool.eq_false_or_eq_true (decide ((p_s.length : Int) ≤ 1500)) with hc1 | hc1
  ·
   skip
   refine WL.idle (Idle.no rfl rfl rfl hc1) rfl rfl ?_
   refine WL.idle (Idle.no rfl rfl rfl hc1) rfl rfl ?_
   refine WL.idle (Idle.no rfl rfl rfl hc1) rfl rfl ?_
   refine WL.idle (Idle.no rfl rfl rfl hc1) rfl rfl ?_
   refine WL.idle (Idle.undef rfl rfl rfl) rfl rfl ?_
   refine WL.idle (Idle.undef rfl rfl rfl) rfl rfl ?_
   refine WL.idle (Idle.undef rfl rfl rfl) rfl rfl ?_
   refine WL.idle (Idle.no rfl rfl rfl hc1) rfl rfl ?_
   refine wq rfl rfl rfl (ov_pick_true rfl (guard_eq rfl hc1) rfl) ?_
   exact WL.nil ⟨Sub.cons' rfl (congrArg Value.bool (orT hc1)) (Sub.skip rfl (Sub.skip rfl (Sub.skip rfl (Sub.skip rfl (Sub.skip rfl (Sub.skip rfl (Sub.skip rfl (Sub.skip rfl (Sub.skip rfl (Sub.refl _)))))))))), fun _ s => s⟩
  ·
   skip
   refine WL.quiet (Runs.yes rfl rfl rfl hc1) rfl rfl (OV.quiet (ov_move rfl rfl)) ?_
   refine WL.quiet (Runs.yes rfl rfl rfl hc1) rfl rfl (OV.quiet (ov_len_string Tryz.underlying9 rfl rfl)) ?_
   refine WL.quiet (Runs.yes rfl rfl rfl hc1) rfl rfl (OV.quiet (ov_gtr rfl rfl rfl)) ?_
   refine WL.quiet (Runs.yes rfl rfl rfl hc1) rfl rfl (OV.quiet (ov_move rfl rfl)) ?_
   refine WL.cut_bool 4 14 (x := ((decide ((p_s.length : Int) > 262144)) && (decide ((p_s.length : Int) < 524288)))) ?_ ?_
   ·
    rcases Bool.eq_false_or_eq_true (decide ((p_s.length : Int) > 262144)) with hc2 | hc2
    ·
     skip
     refine WL.quiet (Runs.yes rfl rfl rfl hc2) rfl rfl (OV.quiet (ov_move rfl rfl)) ?_
     refine WL.quiet (Runs.yes rfl rfl rfl hc2) rfl rfl (OV.quiet (ov_len_string Tryz.underlying9 rfl rfl)) ?_
     refine WL.quiet (Runs.yes rfl rfl rfl hc2) rfl rfl (OV.quiet (ov_lss rfl rfl rfl)) ?_
     refine WL.quiet (Runs.yes rfl rfl rfl hc1) rfl rfl (OV.quiet (ov_pick_true rfl (guard_eq rfl hc2) rfl)) ?_
     exact WL.nil ⟨Sub.cons' rfl (congrArg Value.bool (andT hc2)) (Sub.skip rfl (Sub.skip rfl (Sub.skip rfl (Sub.skip rfl (Sub.refl _))))), fun _ s => s⟩
    ·
     skip
     refine WL.idle (Idle.no rfl rfl rfl hc2) rfl rfl ?_
     refine WL.idle (Idle.no rfl rfl rfl hc2) rfl rfl ?_
     refine WL.idle (Idle.no rfl rfl rfl hc2) rfl rfl ?_
     refine WL.quiet (Runs.yes rfl rfl rfl hc1) rfl rfl (OV.quiet (ov_pick_false rfl (guard_eq rfl hc2) rfl)) ?_
     exact WL.nil ⟨Sub.cons' rfl (congrArg Value.bool (andF hc2)) (Sub.skip rfl (Sub.skip rfl (Sub.skip rfl (Sub.skip rfl (Sub.refl _))))), fun _ s => s⟩
   refine wq rfl rfl rfl (ov_pick_false rfl (guard_eq rfl hc1) rfl) ?_
   exact WL.nil ⟨Sub.cons' rfl (congrArg Value.bool (orF hc1)) (Sub.skip rfl (Sub.skip rfl (Sub.skip rfl (Sub.skip rfl (Sub.skip rfl (Sub.skip rfl (Sub.refl _))))))), fun _ s => s⟩
 refine wq rfl rfl rfl (ov_assign rfl rfl) ?_
 refine WL.nil (then_normal (WP.ret ?_))
 obtain rfl := Option.some.inj hm
 refine retQ_ret Tryz.results14 (Res.tmp rfl Res.nil) rfl (fun w' s => ⟨s.below, ?_⟩)
 exact rfl

theorem journal_readAll_con (p_text : (List UInt8)) (w : World) (H : Heap) (hH : Le H (hp w)) (hG : Glob H) (r : (JRead × Int)) (hm : journal_readAll p_text = some r) :
  Con Tryz.prog 47 [(mkS p_text)] w H (fun v H' => ∃ (ao1 : Option Addr) (cap1 : Nat), v = (.tuple #[(.agg #[(.slice ao1 r.1.m.items.length cap1), (.int .i64 r.1.m.cycles), (.int .i64 r.1.mark), (.int .i64 r.1.lines), (.int .i64 r.1.size)]), (.int .i64 r.2)]) ∧ SL H' encItem ao1 r.1.m.items ∧ r.1.m.items.length ≤ cap1) := by
 unfold journal_readAll at hm
 refine con_of hH Tryz.func47 rfl 20 Tryz.ntmps47 rfl ?_
 refine WP.seq (WP.region ?_)
 refine WL.step (Runs.free rfl) rfl rfl (os_alloc (cs := [(.slice none 0 0), (.int .i64 0), (.int .i64 0), (.int .i64 0), (.int .i64 0)]) Tryz.zeroValue95 rfl rfl (fun b1 => ?_))
 refine WL.step (Runs.free rfl) rfl rfl (os_alloc (cs := [(.int .i64 0)]) Tryz.zeroValue25 rfl rfl (fun b2 => ?_))
 refine WL.nil (then_normal (WP.seq (WP.region ?_)))
 refine WL.step (Runs.free rfl) rfl rfl (os_alloc (cs := [(.slice none 0 0), (.int .i64 0), (.int .i64 0), (.int .i64 0), (.int .i64 0)]) Tryz.zeroValue95 rfl rfl (fun b3 => ?_))
 refine WL.nil (then_normal (WP.seq (WP.seq (WP.region ?_))))
 refine wq rfl rfl rfl (ov_move rfl rfl) ?_
 refine WL.step (Runs.free rfl) rfl rfl (os_inline (cap := []) (vs := [(mkS p_text)]) Tryz.call81 rfl rfl rfl Tryz.func81 rfl 4 Tryz.ntmps81 rfl (fun w' s => ?_))
 refine WP.seq (WP.region ?_)
 refine WL.step (Runs.free rfl) rfl rfl (os_box (cs := [(mkS p_text)]) rfl rfl rfl (fun b4 => ?_))
 refine wq rfl rfl rfl (ov_assign rfl rfl) ?_
 refine WL.nil (then_normal (WP.seq (WP.region ?_)))
 refine wq rfl rfl rfl (ov_makeFunc' (first := []) rfl rfl rfl) ?_
 refine wq rfl rfl rfl (ov_assign rfl rfl) ?_
 refine WL.nil (then_normal (WP.ret ?_))
 refine retQ_ret (v := (.func (.func 105) #[] #[(pB b4 0)])) Tryz.results81 (Res.tmp rfl Res.nil) rfl (fun w' s => ⟨_, ?_, s⟩)
 refine WL.nil (then_normal (WP.block ?_))
 refine WP.range (ps := [10, 11]) (cap := [(pB b4 0)]) Tryz.call105 rfl Tryz.func105 rfl 20 Tryz.ntmps105 rfl (fun l1 D1 R1 hr1 => ?_)
 refine WP.block ?_
 refine WP.loop (fun m1 g' S' => ∃ (H1 : Heap) (s1 : (List UInt8)) (l2 : (List Item)) (ao2 : Option Addr) (cap2 : Nat) (i1 : Int) (i2 : Int) (i3 : Int) (i4 : Int), Le H H1 ∧ SL H1 encItem ao2 l2 ∧ l2.length ≤ cap2 ∧ Sub [(0, (.func (.yield l1) #[] #[])), (1, (pB b4 0)), (1000000007, (.bool false))] g' ∧ (∀ w', S' w' → St w H [.obj l1 (R1 .ready none), .obj D1 (.deferred (some [])), .blk b4 9 [(mkS s1)], .blk b3 95 [(.slice ao2 l2.length cap2), (.int .i64 i1), (.int .i64 i2), (.int .i64 i3), (.int .i64 i4)], .blk b2 25 [(.int .i64 0)], .blk b1 95 [(.slice none 0 0), (.int .i64 0), (.int .i64 0), (.int .i64 0), (.int .i64 0)]] H1 w') ∧ journal_readAll_loop1 m1 s1 l2 i1 i2 i3 i4 = some r) ((p_text.length + 1)) ⟨H, p_text, [], none, 0, 0, 0, 0, 0, (Le.refl _), (SL.nil _ _ _), (Nat.le_refl _), (Sub.cons rfl (Sub.cons rfl (Sub.cons rfl (Sub.nil _)))), fun w' s => s, hm⟩ ?_ ?_
 ·
  rintro g' S' ⟨_, _, _, _, _, _, _, _, _, _, _, _, _, _, hm⟩
  exact none_some hm
 ·
  rintro m1 g' S' ⟨H1, s1, l2, ao2, cap2, i1, i2, i3, i4, hle1, h2, hc2, hsub1, hS1, hm⟩
  refine WP.sub hsub1 (WP.weaken hS1 ?_)
  rw [journal_readAll_loop1] at hm
  replace hG := hG.mono hle1
  refine WP.seq (WP.seq (WP.region ?_))
  refine wq rfl rfl rfl (ov_load_box (i := 2) Tryz.isAgg9 rfl rfl rfl rfl) ?_
  refine wq rfl rfl rfl (ov_sneq rfl rfl rfl) ?_
  refine WL.nil (then_normal ?_)
  refine WP.cond rfl (fun hc3 => ?_) (fun hc3 => ?_)
  ·
   replace hm := ite_t hc3 hm
   refine WP.skip (then_normal (WP.block (WP.seq (WP.region ?_))))
   refine wq rfl rfl rfl (ov_load_box (i := 2) Tryz.isAgg9 rfl rfl rfl rfl) ?_
   obtain ⟨r1, e1, hm⟩ := bind_some hm
   refine WL.quiet (Runs.free rfl) rfl rfl (oq_con (r := (.tuple #[(mkS r1.1), (mkS r1.2.1), (.bool r1.2.2)])) Tryz.call106 rfl rfl (fun w' s => ⟨_, (cutAt_con s1 [10]  w' H1 s.hold hG r1 e1)⟩)) ?_
   refine wq rfl rfl rfl (ov_move rfl rfl) ?_
   refine wq rfl rfl rfl (ov_extract rfl rfl rfl) ?_
   refine wq rfl rfl rfl (ov_extract rfl rfl rfl) ?_
   refine wq rfl rfl rfl (ov_extract rfl rfl rfl) ?_
   refine wq rfl rfl rfl (ov_assign rfl rfl) ?_
   refine wq rfl rfl rfl (ov_assign rfl rfl) ?_
   refine wq rfl rfl rfl (ov_assign rfl rfl) ?_
   refine WL.nil (then_normal (WP.seq (WP.seq (WP.region ?_))))
   refine wq rfl rfl rfl (ov_move rfl rfl) ?_
   refine wq rfl rfl rfl (ov_move rfl rfl) ?_
   refine wq rfl rfl rfl (ov_move rfl rfl) ?_
   refine WL.yield (i := 0) (vs := [(mkS r1.1), (.bool r1.2.2)]) (Runs.free rfl) rfl rfl rfl rfl rfl hr1 rfl rfl rfl ?_
   refine WP.seq (WP.region ?_)
   refine wq rfl rfl rfl (ov_assign rfl rfl) ?_
   refine WL.nil (then_normal (WP.region ?_))
   refine wq rfl rfl rfl (ov_assign rfl rfl) ?_
   refine WL.nil (then_normal ?_)
   refine begin_of (i := 0) rfl ?_
   refine WP.block ?_
   obtain ⟨k1, hk1, hm⟩ := joinK_some hm
   refine WP.seq_join (fun g' S' => ∃ (H5 : Heap) (i8 : Int) (l4 : (List Item)) (ao6 : Option Addr) (cap6 : Nat) (i9 : Int) (i10 : Int) (i11 : Int) (i12 : Int), Le H1 H5 ∧ SL H5 encItem ao6 l4 ∧ l4.length ≤ cap6 ∧ Sub [(2, (pB b1 0)), (3, (pB b2 0)), (4, (pB b3 0)), (7, (.int .i64 i8)), (1000000007, (.bool false))] g' ∧ (∀ w', S' w' → St w H [.obj l1 (R1 .busy none), .obj D1 (.deferred (some [])), .blk b4 9 [(mkS s1)], .blk b3 95 [(.slice ao6 l4.length cap6), (.int .i64 i9), (.int .i64 i10), (.int .i64 i11), (.int .i64 i12)], .blk b2 25 [(.int .i64 0)], .blk b1 95 [(.slice none 0 0), (.int .i64 0), (.int .i64 0), (.int .i64 0), (.int .i64 0)]] H5 w') ∧ k1 i8 l4 i9 i10 i11 i12 = some r) ?_ ?_
   ·
    skip
    refine WP.region ?_
    refine wq rfl rfl rfl (ov_move rfl rfl) ?_
    refine wq rfl rfl rfl (ov_move rfl rfl) ?_
    refine WL.step (Runs.free rfl) rfl rfl (os_inline (cap := []) (vs := [(pB b3 0), (mkS r1.1), (.bool r1.2.2)]) Tryz.call82 rfl rfl rfl Tryz.func82 rfl 86 Tryz.ntmps82 rfl (fun w' s => ?_))
    refine WP.seq (WP.region ?_)
    refine wq rfl rfl rfl (ov_assign rfl rfl) ?_
    refine WL.nil (then_normal (WP.seq (WP.block (WP.seq (WP.region ?_)))))
    refine wq rfl rfl rfl (ov_move rfl rfl) ?_
    refine wq rfl rfl rfl (ov_nilCheckB rfl rfl) ?_
    refine wq rfl rfl rfl (ov_fieldAddr Tryz.underlying95 rfl rfl rfl Tryz.sizeOf3 rfl rfl) ?_
    refine wq rfl rfl rfl (ov_load_box (i := 3) Tryz.isAgg3 rfl rfl rfl rfl) ?_
    refine wq rfl rfl rfl (ov_eql rfl rfl rfl) ?_
    refine wq rfl rfl rfl (ov_assign rfl rfl) ?_
    refine WL.nil (then_normal ?_)
    refine WP.cond rfl (fun hc4 => ?_) (fun hc4 => ?_)
    ·
     replace hm := ite_t hc4 hm
     refine WP.seq (WP.region ?_)
     refine wq rfl rfl rfl (ov_assign rfl rfl) ?_
     refine WL.nil (then_normal (WP.ret (block_ret (then_ret ?_))))
     refine retQ_ret (v := (.int .i64 5)) Tryz.results82 (Res.tmp rfl Res.nil) rfl (fun w' s => ⟨_, ?_, s⟩)
     refine wq rfl rfl rfl (ov_assign rfl rfl) ?_
     refine WL.nil (then_normal ?_)
     exact ⟨H1, 5, l2, ao2, cap2, i1, i2, i3, i4, (Le.refl _), h2, hc2, (Sub.cons rfl (Sub.cons rfl (Sub.cons rfl (Sub.cons rfl (Sub.cons rfl (Sub.nil _)))))), fun w' s => s, hm⟩
    ·
     replace hm := ite_f hc4 hm
     refine WP.seq (WP.region ?_)
     refine wq rfl rfl rfl (ov_move rfl rfl) ?_
     refine wq rfl rfl rfl (ov_not rfl rfl) ?_
     refine wq rfl rfl rfl (ov_assign rfl rfl) ?_
     refine WL.nil (then_normal ?_)
     refine WP.cond rfl (fun hc5 => ?_) (fun hc5 => ?_)
     ·
      replace hm := ite_t hc5 hm
      refine WP.seq (WP.region ?_)
      refine wq rfl rfl rfl (ov_assign rfl rfl) ?_
      refine WL.nil (then_normal (WP.ret (block_ret (then_ret ?_))))
      refine retQ_ret (v := (.int .i64 18)) Tryz.results82 (Res.tmp rfl Res.nil) rfl (fun w' s => ⟨_, ?_, s⟩)
      refine wq rfl rfl rfl (ov_assign rfl rfl) ?_
      refine WL.nil (then_normal ?_)
      exact ⟨H1, 18, l2, ao2, cap2, i1, i2, i3, i4, (Le.refl _), h2, hc2, (Sub.cons rfl (Sub.cons rfl (Sub.cons rfl (Sub.cons rfl (Sub.cons rfl (Sub.nil _)))))), fun w' s => s, hm⟩
     ·
      replace hm := ite_f hc5 hm
      refine WP.skip (block_normal (then_normal (WP.seq (WP.region ?_))))
      refine wq rfl rfl rfl (ov_move rfl rfl) ?_
      obtain ⟨r2, e2, hm⟩ := bind_some hm
      refine WL.quiet (Runs.free rfl) rfl rfl (oq_con (r := (.int .i64 r2)) Tryz.call25 rfl rfl (fun w' s => ⟨_, (lastIdx_con r1.1 [32, 59, 32]  w' H1 s.hold hG r2 e2)⟩)) ?_
      refine wq rfl rfl rfl (ov_assign rfl rfl) ?_
      refine WL.nil (then_normal (WP.seq (WP.seq ?_)))
      refine WP.region_draws (by kernel_rfl) (by kernel_rfl) (fun _ s => s.drew) ?_
      refine QL.quiet (Runs.free rfl) rfl rfl (OV.quiet (ov_move rfl rfl)) ?_
      refine QL.quiet (Runs.free rfl) rfl rfl (OV.quiet (ov_lss rfl rfl rfl)) ?_
      refine QL.quiet (Runs.free rfl) rfl rfl (OV.quiet (ov_move rfl rfl)) ?_
      obtain ⟨c1, e3, hm⟩ := bind_some hm
      refine QL.part_bool 15 39 (x := c1) ?_ ?_
      ·
       rcases Bool.eq_false_or_eq_true (decide (r2 < 0)) with hc6 | hc6
       ·
        skip
        replace hm := ite_t hc6 e3
        refine QL.idle (Idle.no rfl rfl rfl hc6) rfl rfl ?_
        refine QL.idle (Idle.no rfl rfl rfl hc6) rfl rfl ?_
        refine QL.idle (Idle.no rfl rfl rfl hc6) rfl rfl ?_
        refine QL.idle (Idle.no rfl rfl rfl hc6) rfl rfl ?_
        refine QL.idle (Idle.no rfl rfl rfl hc6) rfl rfl ?_
        refine QL.idle (Idle.no rfl rfl rfl hc6) rfl rfl ?_
        refine QL.idle (Idle.no rfl rfl rfl hc6) rfl rfl ?_
        refine QL.idle (Idle.no rfl rfl rfl hc6) rfl rfl ?_
        refine QL.idle (Idle.no rfl rfl rfl hc6) rfl rfl ?_
        refine QL.idle (Idle.no rfl rfl rfl hc6) rfl rfl ?_
        refine QL.idle (Idle.no rfl rfl rfl hc6) rfl rfl ?_
        refine QL.idle (Idle.no rfl rfl rfl hc6) rfl rfl ?_
        refine QL.idle (Idle.no rfl rfl rfl hc6) rfl rfl ?_
        refine QL.idle (Idle.no rfl rfl rfl hc6) rfl rfl ?_
        refine QL.quiet (Runs.free rfl) rfl rfl (OV.quiet (ov_pick_true rfl (guard_eq rfl hc6) rfl)) ?_
        exact QL.nil (Sub.cons' rfl (congrArg Value.bool (Option.some.inj hm)) (Sub.skip rfl (Sub.skip rfl (Sub.skip rfl (Sub.skip rfl (Sub.skip rfl (Sub.skip rfl (Sub.skip rfl (Sub.skip rfl (Sub.skip rfl (Sub.skip rfl (Sub.skip rfl (Sub.skip rfl (Sub.skip rfl (Sub.skip rfl (Sub.skip rfl (Sub.refl _)))))))))))))))))
       ·
        skip
        replace hm := ite_f hc6 e3
        refine QL.quiet (Runs.yes rfl rfl rfl hc6) rfl rfl (OV.quiet (ov_move rfl rfl)) ?_
        refine QL.quiet (Runs.yes rfl rfl rfl hc6) rfl rfl (OV.quiet (ov_move rfl rfl)) ?_
        refine QL.quiet (Runs.yes rfl rfl rfl hc6) rfl rfl (OV.quiet (ov_add rfl rfl rfl)) ?_
        obtain ⟨s2, e4, hm⟩ := bind_some hm
        refine QL.quiet (Runs.yes rfl rfl rfl hc6) rfl rfl (OV.quiet (ov_slice_string_from Tryz.underlying9 rfl rfl rfl e4)) ?_
        refine QL.quiet (Runs.yes rfl rfl rfl hc6) rfl rfl (OV.quiet (ov_move rfl rfl)) ?_
        refine QL.quiet (Runs.yes rfl rfl rfl hc6) rfl rfl (OV.quiet (ov_nilCheckB rfl rfl)) ?_
        refine QL.quiet (Runs.yes rfl rfl rfl hc6) rfl rfl (OV.quiet (ov_fieldAddr Tryz.underlying95 rfl rfl rfl Tryz.sizeOf3 rfl rfl)) ?_
        refine QL.quiet (Runs.yes rfl rfl rfl hc6) rfl rfl (OV.quiet (ov_load_box (i := 3) Tryz.isAgg3 rfl rfl rfl rfl)) ?_
        refine QL.quiet (Runs.yes rfl rfl rfl hc6) rfl rfl (OV.quiet (ov_move rfl rfl)) ?_
        refine QL.quiet (Runs.yes rfl rfl rfl hc6) rfl rfl (OV.quiet (ov_move rfl rfl)) ?_
        obtain ⟨s3, e5, hm⟩ := bind_some hm
        refine QL.quiet (Runs.yes rfl rfl rfl hc6) rfl rfl (OV.quiet (ov_slice_string_to Tryz.underlying9 rfl rfl rfl e5)) ?_
        obtain ⟨r3, e6, hm⟩ := bind_some hm
        refine QL.quiet (Runs.yes rfl rfl rfl hc6) rfl rfl (oq_con (r := (.int .i64 r3)) Tryz.call52 rfl rfl (fun w' s => ⟨_, (journal_mark_con i2 s3  w' H1 s.hold hG r3 e6)⟩)) ?_
        obtain ⟨r4, e7, hm⟩ := bind_some hm
        refine QL.quiet (Runs.yes rfl rfl rfl hc6) rfl rfl (oq_con (r := (mkS r4)) Tryz.call54 rfl rfl (fun w' s => ⟨_, (itoa_con r3  w' H1 s.hold hG r4 e7)⟩)) ?_
        refine QL.quiet (Runs.yes rfl rfl rfl hc6) rfl rfl (OV.quiet (ov_sneq rfl rfl rfl)) ?_
        refine QL.quiet (Runs.free rfl) rfl rfl (OV.quiet (ov_pick_false rfl (guard_eq rfl hc6) rfl)) ?_
        exact QL.nil (Sub.cons' rfl (congrArg Value.bool (Option.some.inj hm)) (Sub.skip rfl (Sub.skip rfl (Sub.skip rfl (Sub.skip rfl (Sub.skip rfl (Sub.skip rfl (Sub.skip rfl (Sub.skip rfl (Sub.skip rfl (Sub.skip rfl (Sub.skip rfl (Sub.skip rfl (Sub.skip rfl (Sub.skip rfl (Sub.skip rfl (Sub.refl _)))))))))))))))))
      refine QL.nil ?_
      refine then_normal ?_
      refine WP.cond rfl (fun hc7 => ?_) (fun hc7 => ?_)
      ·
       replace hm := ite_t hc7 hm
       refine WP.seq (WP.region ?_)
       refine wq rfl rfl rfl (ov_assign rfl rfl) ?_
       refine WL.nil (then_normal (WP.ret (then_ret ?_)))
       refine retQ_ret (v := (.int .i64 19)) Tryz.results82 (Res.tmp rfl Res.nil) rfl (fun w' s => ⟨_, ?_, s⟩)
       refine wq rfl rfl rfl (ov_assign rfl rfl) ?_
       refine WL.nil (then_normal ?_)
       exact ⟨H1, 19, l2, ao2, cap2, i1, i2, i3, i4, (Le.refl _), h2, hc2, (Sub.cons rfl (Sub.cons rfl (Sub.cons rfl (Sub.cons rfl (Sub.cons rfl (Sub.nil _)))))), fun w' s => s, hm⟩
      ·
       replace hm := ite_f hc7 hm
       refine WP.skip (then_normal (WP.seq (WP.region ?_)))
       refine wq rfl rfl rfl (ov_move rfl rfl) ?_
       refine wq rfl rfl rfl (ov_move rfl rfl) ?_
       obtain ⟨s4, e8, hm⟩ := bind_some hm
       refine wq rfl rfl rfl (ov_slice_string_to Tryz.underlying9 rfl rfl rfl e8) ?_
       obtain ⟨r5, e9, hm⟩ := bind_some hm
       refine WL.quiet (Runs.free rfl) rfl rfl (oq_con (r := (.tuple #[(.agg #[(.int .i64 r5.1.kind), (mkS r5.1.name), (.int .i64 r5.1.count), (.int .i64 r5.1.strokes)]), (.int .i64 r5.2)])) Tryz.call11 rfl rfl (fun w' s => ⟨_, (journal_Read_con s4  w' H1 s.hold hG r5 e9)⟩)) ?_
       refine wq rfl rfl rfl (ov_move rfl rfl) ?_
       refine wq rfl rfl rfl (ov_extract rfl rfl rfl) ?_
       refine wq rfl rfl rfl (ov_extract rfl rfl rfl) ?_
       refine WL.step (Runs.free rfl) rfl rfl (os_alloc (cs := [(.int .i64 0), (mkS []), (.int .i64 0), (.int .i64 0)]) Tryz.zeroValue23 rfl rfl (fun b5 => ?_))
       refine WL.step0 (Runs.free rfl) rfl (os_store (i := 0) (vs := [(.int .i64 r5.1.kind), (mkS r5.1.name), (.int .i64 r5.1.count), (.int .i64 r5.1.strokes)]) (cs' := [(.int .i64 r5.1.kind), (mkS r5.1.name), (.int .i64 r5.1.count), (.int .i64 r5.1.strokes)]) Tryz.sizeOf23 rfl rfl rfl rfl rfl rfl rfl rfl rfl ?_)
       refine wq rfl rfl rfl (ov_assign rfl rfl) ?_
       refine WL.nil (then_normal (WP.seq (WP.seq (WP.region ?_))))
       refine wq rfl rfl rfl (ov_move rfl rfl) ?_
       refine wq rfl rfl rfl (ov_neq rfl rfl rfl) ?_
       refine WL.nil (then_normal ?_)
       refine WP.cond rfl (fun hc8 => ?_) (fun hc8 => ?_)
       ·
        replace hm := ite_t hc8 hm
        refine WP.seq (WP.region ?_)
        refine wq rfl rfl rfl (ov_assign rfl rfl) ?_
        refine WL.nil (then_normal (WP.ret (then_ret ?_)))
        refine retQ_ret (v := (.int .i64 4)) Tryz.results82 (Res.tmp rfl Res.nil) rfl (fun w' s => ⟨_, ?_, s⟩)
        refine wq rfl rfl rfl (ov_assign rfl rfl) ?_
        refine WL.nil (then_normal ?_)
        exact ⟨H1, 4, l2, ao2, cap2, i1, i2, i3, i4, (Le.refl _), h2, hc2, (Sub.cons rfl (Sub.cons rfl (Sub.cons rfl (Sub.cons rfl (Sub.cons rfl (Sub.nil _)))))), fun w' s => (s.select [1, 2, 3, 4, 5, 6] (by decide) rfl), hm⟩
       ·
        replace hm := ite_f hc8 hm
        refine WP.skip (then_normal ?_)
        obtain ⟨k2, hk2, hm⟩ := joinK_some hm
        refine WP.seq_join (fun g' S' => ∃ (H4 : Heap) (i5 : Int) (b8 : Nat) (l3 : (List Item)) (ao5 : Option Addr) (cap5 : Nat) (i6 : Int), Le H1 H4 ∧ SL H4 encItem ao5 l3 ∧ l3.length ≤ cap5 ∧ Sub [(0, (pB b3 0)), (1, (mkS r1.1)), (7, (.int .i64 r2)), (9, (.int .i64 i5)), (10, (pB b8 0)), (1000000007, (.bool false))] g' ∧ (∀ w', S' w' → St w H [.blk b8 41 [(.slice ao5 l3.length cap5), (.int .i64 i6)], .obj l1 (R1 .busy none), .obj D1 (.deferred (some [])), .blk b4 9 [(mkS s1)], .blk b3 95 [(.slice ao2 l2.length cap2), (.int .i64 i1), (.int .i64 i2), (.int .i64 i3), (.int .i64 i4)], .blk b2 25 [(.int .i64 0)], .blk b1 95 [(.slice none 0 0), (.int .i64 0), (.int .i64 0), (.int .i64 0), (.int .i64 0)]] H4 w') ∧ k2 i5 l3 i6 = some r) ?_ ?_
        ·
         skip
         refine WP.region_any (S₀ := St w H [.blk b5 23 [(.int .i64 r5.1.kind), (mkS r5.1.name), (.int .i64 r5.1.count), (.int .i64 r5.1.strokes)], .obj l1 (R1 .busy none), .obj D1 (.deferred (some [])), .blk b4 9 [(mkS s1)], .blk b3 95 [(.slice ao2 l2.length cap2), (.int .i64 i1), (.int .i64 i2), (.int .i64 i3), (.int .i64 i4)], .blk b2 25 [(.int .i64 0)], .blk b1 95 [(.slice none 0 0), (.int .i64 0), (.int .i64 0), (.int .i64 0), (.int .i64 0)]] H1) 12 rfl (by kernel_rfl) (fun w' s => s) (fun _ s => s.drew) ?_
         refine tq (i := 0) rfl (by kernel_rfl) rfl rfl rfl (ov_move rfl rfl) ?_
         refine tq (i := 1) rfl (by kernel_rfl) rfl rfl rfl (ov_nilCheckB rfl rfl) ?_
         refine tq (i := 2) rfl (by kernel_rfl) rfl rfl rfl (ov_fieldAddr Tryz.underlying95 rfl rfl rfl Tryz.sizeOf41 rfl rfl) ?_
         refine tq (i := 3) rfl (by kernel_rfl) rfl rfl rfl (ov_load_boxes (i := 4) (vs := [(.slice ao2 l2.length cap2), (.int .i64 i1)]) Tryz.isAgg41 Tryz.sizeOf41 rfl rfl rfl rfl (part_of rfl)) ?_
         refine tq (i := 4) rfl (by kernel_rfl) rfl rfl rfl (ov_load_whole (i := 0) Tryz.isAgg23 Tryz.sizeOf23 rfl rfl rfl rfl) ?_
         refine AL.any (rs := [5, 9]) (by kernel_rfl) (by decide) ?_
         refine ALs.cons (i := 5) rfl (Runs.free rfl) rfl rfl ?_ ?_
         ·
          skip
          obtain ⟨r6, e10, hm⟩ := bind_some hm
          refine os_con Tryz.call57 rfl rfl (fun w' s => (journal_done_con (Machine.mk l2 i1) r5.1 ao2 cap2  w' H1 s.hold h2 hc2 hG r6 e10)) (fun rr1 H2 hle2 hR1 => ?_)
          replace h2 := h2.mono hle2
          replace hG := hG.mono hle2
          obtain ⟨ao3, cap3, rfl, h3, hc9⟩ := hR1
          refine ⟨fun w' s => (s.heap hle2), ?_⟩
          refine tq (i := 6) rfl (by kernel_rfl) rfl rfl rfl (ov_move rfl rfl) ?_
          refine tq (i := 7) rfl (by kernel_rfl) rfl rfl rfl (ov_extract rfl rfl rfl) ?_
          refine tq (i := 8) rfl (by kernel_rfl) rfl rfl rfl (ov_extract rfl rfl rfl) ?_
          refine AL.any (rs := [9]) (by kernel_rfl) (by decide) ?_
          refine ALs.cons (i := 9) rfl (Runs.free rfl) rfl rfl ?_ ?_
          ·
           skip
           refine os_alloc (cs := [(.slice none 0 0), (.int .i64 0)]) Tryz.zeroValue41 rfl rfl (fun b6 => ?_)
           refine ⟨fun w' s => ((s.select [1, 2, 3, 4, 5, 6, 7] (by decide) rfl).heap hle2), ?_⟩
           refine AL.any (rs := [10]) (by kernel_rfl) (by decide) ?_
           refine ALs.cons0 (i := 10) rfl (Runs.free rfl) rfl ?_ ?_
           ·
            skip
            refine os_store (i := 0) (vs := [(.slice ao3 r6.1.items.length cap3), (.int .i64 r6.1.cycles)]) (cs' := [(.slice ao3 r6.1.items.length cap3), (.int .i64 r6.1.cycles)]) Tryz.sizeOf41 rfl rfl rfl rfl rfl rfl rfl rfl rfl ?_
            refine ⟨fun w' s => ((s.select [1, 2, 3, 4, 5, 6, 7] (by decide) rfl).heap hle2), ?_⟩
            refine tq (i := 11) rfl (by kernel_rfl) rfl rfl rfl (ov_assign rfl rfl) ?_
            refine AL.done (by kernel_rfl) ?_
            refine then_normal ?_
            exact ⟨H2, r6.2, b6, r6.1.items, ao3, cap3, r6.1.cycles, hle2, h3, hc9, (Sub.cons rfl (Sub.cons rfl (Sub.cons rfl (Sub.cons rfl (Sub.cons rfl (Sub.cons rfl (Sub.nil _))))))), fun w' s => (s.select [0, 2, 3, 4, 5, 6, 7] (by decide) rfl), hm⟩
           exact ALs.nil
          exact ALs.nil
         refine ALs.cons (i := 9) rfl (Runs.free rfl) rfl rfl ?_ ?_
         ·
          skip
          refine os_alloc (cs := [(.slice none 0 0), (.int .i64 0)]) Tryz.zeroValue41 rfl rfl (fun b7 => ?_)
          refine ⟨fun w' s => (s.select [1, 2, 3, 4, 5, 6, 7] (by decide) rfl), ?_⟩
          refine AL.any (rs := [5]) (by kernel_rfl) (by decide) ?_
          refine ALs.cons (i := 5) rfl (Runs.free rfl) rfl rfl ?_ ?_
          ·
           skip
           obtain ⟨r7, e11, hm⟩ := bind_some hm
           refine os_con Tryz.call57 rfl rfl (fun w' s => (journal_done_con (Machine.mk l2 i1) r5.1 ao2 cap2  w' H1 s.hold h2 hc2 hG r7 e11)) (fun rr2 H3 hle3 hR2 => ?_)
           replace h2 := h2.mono hle3
           replace hG := hG.mono hle3
           obtain ⟨ao4, cap4, rfl, h4, hc10⟩ := hR2
           refine ⟨fun w' s => ((s.select [1, 2, 3, 4, 5, 6, 7] (by decide) rfl).heap hle3), ?_⟩
           refine tq (i := 6) rfl (by kernel_rfl) rfl rfl rfl (ov_move rfl rfl) ?_
           refine tq (i := 7) rfl (by kernel_rfl) rfl rfl rfl (ov_extract rfl rfl rfl) ?_
           refine tq (i := 8) rfl (by kernel_rfl) rfl rfl rfl (ov_extract rfl rfl rfl) ?_
           refine AL.any (rs := [10]) (by kernel_rfl) (by decide) ?_
           refine ALs.cons0 (i := 10) rfl (Runs.free rfl) rfl ?_ ?_
           ·
            skip
            refine os_store (i := 0) (vs := [(.slice ao4 r7.1.items.length cap4), (.int .i64 r7.1.cycles)]) (cs' := [(.slice ao4 r7.1.items.length cap4), (.int .i64 r7.1.cycles)]) Tryz.sizeOf41 rfl rfl rfl rfl rfl rfl rfl rfl rfl ?_
            refine ⟨fun w' s => ((s.select [1, 2, 3, 4, 5, 6, 7] (by decide) rfl).heap hle3), ?_⟩
            refine tq (i := 11) rfl (by kernel_rfl) rfl rfl rfl (ov_assign rfl rfl) ?_
            refine AL.done (by kernel_rfl) ?_
            refine then_normal ?_
            exact ⟨H3, r7.2, b7, r7.1.items, ao4, cap4, r7.1.cycles, hle3, h4, hc10, (Sub.cons rfl (Sub.cons rfl (Sub.cons rfl (Sub.cons rfl (Sub.cons rfl (Sub.cons rfl (Sub.nil _))))))), fun w' s => (s.select [0, 2, 3, 4, 5, 6, 7] (by decide) rfl), hm⟩
           exact ALs.nil
          exact ALs.nil
         exact ALs.nil
        ·
         rintro g' S' ⟨H4, i5, b8, l3, ao5, cap5, i6, hle4, h5, hc11, hsub2, hS2, hm⟩
         refine WP.sub hsub2 (WP.weaken hS2 ?_)
         replace hm := (congrFun (congrFun (congrFun hk2 i5) l3) i6).symm.trans hm
         replace h2 := h2.mono hle4
         replace hG := hG.mono hle4
         refine WP.seq (WP.seq (WP.region ?_))
         refine wq rfl rfl rfl (ov_move rfl rfl) ?_
         refine wq rfl rfl rfl (ov_neq rfl rfl rfl) ?_
         refine WL.nil (then_normal ?_)
         refine WP.cond rfl (fun hc12 => ?_) (fun hc12 => ?_)
         ·
          replace hm := ite_t hc12 hm
          refine WP.seq (WP.region ?_)
          refine wq rfl rfl rfl (ov_move rfl rfl) ?_
          refine wq rfl rfl rfl (ov_assign rfl rfl) ?_
          refine WL.nil (then_normal (WP.ret (then_ret ?_)))
          refine retQ_ret (v := (.int .i64 i5)) Tryz.results82 (Res.tmp rfl Res.nil) rfl (fun w' s => ⟨_, ?_, s⟩)
          refine wq rfl rfl rfl (ov_assign rfl rfl) ?_
          refine WL.nil (then_normal ?_)
          exact ⟨H4, i5, l2, ao2, cap2, i1, i2, i3, i4, hle4, h2, hc2, (Sub.cons rfl (Sub.cons rfl (Sub.cons rfl (Sub.cons rfl (Sub.cons rfl (Sub.nil _)))))), fun w' s => (s.select [1, 2, 3, 4, 5, 6] (by decide) rfl), hm⟩
         ·
          replace hm := ite_f hc12 hm
          refine WP.skip (then_normal ?_)
          obtain ⟨k3, hk3, hm⟩ := joinK_some hm
          refine WP.seq_join (fun g' S' => ∃ (i7 : Int), Sub [(1000000007, (.bool false))] g' ∧ (∀ w', S' w' → St w H [.obj l1 (R1 .busy none), .obj D1 (.deferred (some [])), .blk b4 9 [(mkS s1)], .blk b3 95 [(.slice ao5 l3.length cap5), (.int .i64 i6), (.int .i64 i7), (.int .i64 (IntKind.wrap .i64 (i3 + 1))), (.int .i64 (IntKind.wrap .i64 ((IntKind.wrap .i64 (i4 + (r1.1.length : Int))) + 1)))], .blk b2 25 [(.int .i64 0)], .blk b1 95 [(.slice none 0 0), (.int .i64 0), (.int .i64 0), (.int .i64 0), (.int .i64 0)]] H4 w') ∧ k3 i7 = some r) ?_ ?_
          ·
           skip
           refine WP.region_any (S₀ := St w H [.blk b8 41 [(.slice ao5 l3.length cap5), (.int .i64 i6)], .obj l1 (R1 .busy none), .obj D1 (.deferred (some [])), .blk b4 9 [(mkS s1)], .blk b2 25 [(.int .i64 0)], .blk b1 95 [(.slice none 0 0), (.int .i64 0), (.int .i64 0), (.int .i64 0), (.int .i64 0)]] H4) 26 rfl (by kernel_rfl) (fun w' s => (s.select [0, 1, 2, 3, 5, 6] (by decide) rfl)) (fun _ s => s.drew) ?_
           refine tq (i := 0) rfl (by kernel_rfl) rfl rfl rfl (ov_move rfl rfl) ?_
           refine tq (i := 1) rfl (by kernel_rfl) rfl rfl rfl (ov_load_whole (i := 0) Tryz.isAgg41 Tryz.sizeOf41 rfl rfl rfl rfl) ?_
           refine tq (i := 2) rfl (by kernel_rfl) rfl rfl rfl (ov_move rfl rfl) ?_
           refine tq (i := 3) rfl (by kernel_rfl) rfl rfl rfl (ov_nilCheckB rfl rfl) ?_
           refine tq (i := 4) rfl (by kernel_rfl) rfl rfl rfl (ov_fieldAddr Tryz.underlying95 rfl rfl rfl Tryz.sizeOf3 rfl rfl) ?_
           refine tq (i := 6) rfl (by kernel_rfl) rfl rfl rfl (ov_move rfl rfl) ?_
           refine tq (i := 7) rfl (by kernel_rfl) rfl rfl rfl (ov_move rfl rfl) ?_
           obtain ⟨s5, e12, hm⟩ := bind_some hm
           refine tq (i := 8) rfl (by kernel_rfl) rfl rfl rfl (ov_slice_string_to Tryz.underlying9 rfl rfl rfl e12) ?_
           refine tq (i := 10) rfl (by kernel_rfl) rfl rfl rfl (ov_move rfl rfl) ?_
           refine tq (i := 11) rfl (by kernel_rfl) rfl rfl rfl (ov_nilCheckB rfl rfl) ?_
           refine tq (i := 12) rfl (by kernel_rfl) rfl rfl rfl (ov_fieldAddr Tryz.underlying95 rfl rfl rfl Tryz.sizeOf3 rfl rfl) ?_
           refine tq (i := 15) rfl (by kernel_rfl) rfl rfl rfl (ov_move rfl rfl) ?_
           refine tq (i := 16) rfl (by kernel_rfl) rfl rfl rfl (ov_nilCheckB rfl rfl) ?_
           refine tq (i := 17) rfl (by kernel_rfl) rfl rfl rfl (ov_fieldAddr Tryz.underlying95 rfl rfl rfl Tryz.sizeOf3 rfl rfl) ?_
           refine tq (i := 19) rfl (by kernel_rfl) rfl rfl rfl (ov_move rfl rfl) ?_
           refine tq (i := 20) rfl (by kernel_rfl) rfl rfl rfl (ov_len_string Tryz.underlying9 rfl rfl) ?_
           refine AL.any (rs := [5, 13, 18]) (by kernel_rfl) (by decide) ?_
           refine ALs.cons (i := 5) rfl (Runs.free rfl) rfl rfl ?_ ?_
           ·
            skip
            refine OQ.step (OV.quiet (ov_load_box (i := 4) Tryz.isAgg3 rfl rfl rfl rfl)) ?_
            refine ⟨fun w' s => (s.select [0, 1, 2, 3, 5, 6] (by decide) rfl), ?_⟩
            refine AL.any (rs := [9, 13, 18]) (by kernel_rfl) (by decide) ?_
            refine ALs.cons (i := 9) rfl (Runs.free rfl) rfl rfl ?_ ?_
            ·
             skip
             obtain ⟨r8, e13, hm⟩ := bind_some hm
             refine OQ.step (oq_con (r := (.int .i64 r8)) Tryz.call52 rfl rfl (fun w' s => ⟨_, (journal_mark_con i2 s5  w' H4 s.hold hG r8 e13)⟩)) ?_
             refine ⟨fun w' s => (s.select [0, 1, 2, 3, 5, 6] (by decide) rfl), ?_⟩
             refine AL.any (rs := [13, 18]) (by kernel_rfl) (by decide) ?_
             refine ALs.cons (i := 13) rfl (Runs.free rfl) rfl rfl ?_ ?_
             ·
              skip
              refine OQ.step (OV.quiet (ov_load_box (i := 4) Tryz.isAgg3 rfl rfl rfl rfl)) ?_
              refine ⟨fun w' s => (s.select [0, 1, 2, 3, 5, 6] (by decide) rfl), ?_⟩
              refine tq (i := 14) rfl (by kernel_rfl) rfl rfl rfl (ov_add rfl rfl rfl) ?_
              refine AL.any (rs := [18]) (by kernel_rfl) (by decide) ?_
              refine ALs.cons (i := 18) rfl (Runs.free rfl) rfl rfl ?_ ?_
              ·
               skip
               refine OQ.step (OV.quiet (ov_load_box (i := 4) Tryz.isAgg3 rfl rfl rfl rfl)) ?_
               refine ⟨fun w' s => (s.select [0, 1, 2, 3, 5, 6] (by decide) rfl), ?_⟩
               refine tq (i := 21) rfl (by kernel_rfl) rfl rfl rfl (ov_add rfl rfl rfl) ?_
               refine tq (i := 22) rfl (by kernel_rfl) rfl rfl rfl (ov_add rfl rfl rfl) ?_
               refine tq (i := 23) rfl (by kernel_rfl) rfl rfl rfl (ov_build (r := (.agg #[(.slice ao5 l3.length cap5), (.int .i64 i6), (.int .i64 r8), (.int .i64 (IntKind.wrap .i64 (i3 + 1))), (.int .i64 (IntKind.wrap .i64 ((IntKind.wrap .i64 (i4 + (r1.1.length : Int))) + 1)))])) rfl rfl (fun _ => by kernel_rfl)) ?_
               refine tq (i := 24) rfl (by kernel_rfl) rfl rfl rfl (ov_nilCheckB rfl rfl) ?_
               refine AL.any (rs := [25]) (by kernel_rfl) (by decide) ?_
               refine ALs.cons0 (i := 25) rfl (Runs.free rfl) rfl ?_ ?_
               ·
                skip
                refine os_store (i := 4) (vs := [(.slice ao5 l3.length cap5), (.int .i64 i6), (.int .i64 r8), (.int .i64 (IntKind.wrap .i64 (i3 + 1))), (.int .i64 (IntKind.wrap .i64 ((IntKind.wrap .i64 (i4 + (r1.1.length : Int))) + 1)))]) (cs' := [(.slice ao5 l3.length cap5), (.int .i64 i6), (.int .i64 r8), (.int .i64 (IntKind.wrap .i64 (i3 + 1))), (.int .i64 (IntKind.wrap .i64 ((IntKind.wrap .i64 (i4 + (r1.1.length : Int))) + 1)))]) Tryz.sizeOf95 rfl rfl rfl rfl rfl rfl rfl rfl rfl ?_
                refine ⟨fun w' s => (s.select [0, 1, 2, 3, 5, 6] (by decide) rfl), ?_⟩
                refine AL.done (by kernel_rfl) ?_
                refine then_normal ?_
                exact ⟨r8, (Sub.cons rfl (Sub.nil _)), fun w' s => (s.select [1, 2, 3, 4, 5, 6] (by decide) rfl), hm⟩
               exact ALs.nil
              exact ALs.nil
             refine ALs.cons (i := 18) rfl (Runs.free rfl) rfl rfl ?_ ?_
             ·
              skip
              refine OQ.step (OV.quiet (ov_load_box (i := 4) Tryz.isAgg3 rfl rfl rfl rfl)) ?_
              refine ⟨fun w' s => (s.select [0, 1, 2, 3, 5, 6] (by decide) rfl), ?_⟩
              refine tq (i := 21) rfl (by kernel_rfl) rfl rfl rfl (ov_add rfl rfl rfl) ?_
              refine tq (i := 22) rfl (by kernel_rfl) rfl rfl rfl (ov_add rfl rfl rfl) ?_
              refine AL.any (rs := [13]) (by kernel_rfl) (by decide) ?_
              refine ALs.cons (i := 13) rfl (Runs.free rfl) rfl rfl ?_ ?_
              ·
               skip
               refine OQ.step (OV.quiet (ov_load_box (i := 4) Tryz.isAgg3 rfl rfl rfl rfl)) ?_
               refine ⟨fun w' s => (s.select [0, 1, 2, 3, 5, 6] (by decide) rfl), ?_⟩
               refine tq (i := 14) rfl (by kernel_rfl) rfl rfl rfl (ov_add rfl rfl rfl) ?_
               refine tq (i := 23) rfl (by kernel_rfl) rfl rfl rfl (ov_build (r := (.agg #[(.slice ao5 l3.length cap5), (.int .i64 i6), (.int .i64 r8), (.int .i64 (IntKind.wrap .i64 (i3 + 1))), (.int .i64 (IntKind.wrap .i64 ((IntKind.wrap .i64 (i4 + (r1.1.length : Int))) + 1)))])) rfl rfl (fun _ => by kernel_rfl)) ?_
               refine tq (i := 24) rfl (by kernel_rfl) rfl rfl rfl (ov_nilCheckB rfl rfl) ?_
               refine AL.any (rs := [25]) (by kernel_rfl) (by decide) ?_
               refine ALs.cons0 (i := 25) rfl (Runs.free rfl) rfl ?_ ?_
               ·
                skip
                refine os_store (i := 4) (vs := [(.slice ao5 l3.length cap5), (.int .i64 i6), (.int .i64 r8), (.int .i64 (IntKind.wrap .i64 (i3 + 1))), (.int .i64 (IntKind.wrap .i64 ((IntKind.wrap .i64 (i4 + (r1.1.length : Int))) + 1)))]) (cs' := [(.slice ao5 l3.length cap5), (.int .i64 i6), (.int .i64 r8), (.int .i64 (IntKind.wrap .i64 (i3 + 1))), (.int .i64 (IntKind.wrap .i64 ((IntKind.wrap .i64 (i4 + (r1.1.length : Int))) + 1)))]) Tryz.sizeOf95 rfl rfl rfl rfl rfl rfl rfl rfl rfl ?_
                refine ⟨fun w' s => (s.select [0, 1, 2, 3, 5, 6] (by decide) rfl), ?_⟩
                refine AL.done (by kernel_rfl) ?_
                refine then_normal ?_
                exact ⟨r8, (Sub.cons rfl (Sub.nil _)), fun w' s => (s.select [1, 2, 3, 4, 5, 6] (by decide) rfl), hm⟩
               exact ALs.nil
              exact ALs.nil
             exact ALs.nil
            refine ALs.cons (i := 13) rfl (Runs.free rfl) rfl rfl ?_ ?_
            ·
             skip
             refine OQ.step (OV.quiet (ov_load_box (i := 4) Tryz.isAgg3 rfl rfl rfl rfl)) ?_
             refine ⟨fun w' s => (s.select [0, 1, 2, 3, 5, 6] (by decide) rfl), ?_⟩
             refine tq (i := 14) rfl (by kernel_rfl) rfl rfl rfl (ov_add rfl rfl rfl) ?_
             refine AL.any (rs := [9, 18]) (by kernel_rfl) (by decide) ?_
             refine ALs.cons (i := 9) rfl (Runs.free rfl) rfl rfl ?_ ?_
             ·
              skip
              obtain ⟨r9, e14, hm⟩ := bind_some hm
              refine OQ.step (oq_con (r := (.int .i64 r9)) Tryz.call52 rfl rfl (fun w' s => ⟨_, (journal_mark_con i2 s5  w' H4 s.hold hG r9 e14)⟩)) ?_
              refine ⟨fun w' s => (s.select [0, 1, 2, 3, 5, 6] (by decide) rfl), ?_⟩
              refine AL.any (rs := [18]) (by kernel_rfl) (by decide) ?_
              refine ALs.cons (i := 18) rfl (Runs.free rfl) rfl rfl ?_ ?_
              ·
               skip
               refine OQ.step (OV.quiet (ov_load_box (i := 4) Tryz.isAgg3 rfl rfl rfl rfl)) ?_
               refine ⟨fun w' s => (s.select [0, 1, 2, 3, 5, 6] (by decide) rfl), ?_⟩
               refine tq (i := 21) rfl (by kernel_rfl) rfl rfl rfl (ov_add rfl rfl rfl) ?_
               refine tq (i := 22) rfl (by kernel_rfl) rfl rfl rfl (ov_add rfl rfl rfl) ?_
               refine tq (i := 23) rfl (by kernel_rfl) rfl rfl rfl (ov_build (r := (.agg #[(.slice ao5 l3.length cap5), (.int .i64 i6), (.int .i64 r9), (.int .i64 (IntKind.wrap .i64 (i3 + 1))), (.int .i64 (IntKind.wrap .i64 ((IntKind.wrap .i64 (i4 + (r1.1.length : Int))) + 1)))])) rfl rfl (fun _ => by kernel_rfl)) ?_
               refine tq (i := 24) rfl (by kernel_rfl) rfl rfl rfl (ov_nilCheckB rfl rfl) ?_
               refine AL.any (rs := [25]) (by kernel_rfl) (by decide) ?_
               refine ALs.cons0 (i := 25) rfl (Runs.free rfl) rfl ?_ ?_
               ·
                skip
                refine os_store (i := 4) (vs := [(.slice ao5 l3.length cap5), (.int .i64 i6), (.int .i64 r9), (.int .i64 (IntKind.wrap .i64 (i3 + 1))), (.int .i64 (IntKind.wrap .i64 ((IntKind.wrap .i64 (i4 + (r1.1.length : Int))) + 1)))]) (cs' := [(.slice ao5 l3.length cap5), (.int .i64 i6), (.int .i64 r9), (.int .i64 (IntKind.wrap .i64 (i3 + 1))), (.int .i64 (IntKind.wrap .i64 ((IntKind.wrap .i64 (i4 + (r1.1.length : Int))) + 1)))]) Tryz.sizeOf95 rfl rfl rfl rfl rfl rfl rfl rfl rfl ?_
                refine ⟨fun w' s => (s.select [0, 1, 2, 3, 5, 6] (by decide) rfl), ?_⟩
                refine AL.done (by kernel_rfl) ?_
                refine then_normal ?_
                exact ⟨r9, (Sub.cons rfl (Sub.nil _)), fun w' s => (s.select [1, 2, 3, 4, 5, 6] (by decide) rfl), hm⟩
               exact ALs.nil
              exact ALs.nil
             refine ALs.cons (i := 18) rfl (Runs.free rfl) rfl rfl ?_ ?_
             ·
              skip
              refine OQ.step (OV.quiet (ov_load_box (i := 4) Tryz.isAgg3 rfl rfl rfl rfl)) ?_
              refine ⟨fun w' s => (s.select [0, 1, 2, 3, 5, 6] (by decide) rfl), ?_⟩
              refine tq (i := 21) rfl (by kernel_rfl) rfl rfl rfl (ov_add rfl rfl rfl) ?_
              refine tq (i := 22) rfl (by kernel_rfl) rfl rfl rfl (ov_add rfl rfl rfl) ?_
              refine AL.any (rs := [9]) (by kernel_rfl) (by decide) ?_
              refine ALs.cons (i := 9) rfl (Runs.free rfl) rfl rfl ?_ ?_
              ·
               skip
               obtain ⟨r10, e15, hm⟩ := bind_some hm
               refine OQ.step (oq_con (r := (.int .i64 r10)) Tryz.call52 rfl rfl (fun w' s => ⟨_, (journal_mark_con i2 s5  w' H4 s.hold hG r10 e15)⟩)) ?_
               refine ⟨fun w' s => (s.select [0, 1, 2, 3, 5, 6] (by decide) rfl), ?_⟩
               refine tq (i := 23) rfl (by kernel_rfl) rfl rfl rfl (ov_build (r := (.agg #[(.slice ao5 l3.length cap5), (.int .i64 i6), (.int .i64 r10), (.int .i64 (IntKind.wrap .i64 (i3 + 1))), (.int .i64 (IntKind.wrap .i64 ((IntKind.wrap .i64 (i4 + (r1.1.length : Int))) + 1)))])) rfl rfl (fun _ => by kernel_rfl)) ?_
               refine tq (i := 24) rfl (by kernel_rfl) rfl rfl rfl (ov_nilCheckB rfl rfl) ?_
               refine AL.any (rs := [25]) (by kernel_rfl) (by decide) ?_
               refine ALs.cons0 (i := 25) rfl (Runs.free rfl) rfl ?_ ?_
               ·
                skip
                refine os_store (i := 4) (vs := [(.slice ao5 l3.length cap5), (.int .i64 i6), (.int .i64 r10), (.int .i64 (IntKind.wrap .i64 (i3 + 1))), (.int .i64 (IntKind.wrap .i64 ((IntKind.wrap .i64 (i4 + (r1.1.length : Int))) + 1)))]) (cs' := [(.slice ao5 l3.length cap5), (.int .i64 i6), (.int .i64 r10), (.int .i64 (IntKind.wrap .i64 (i3 + 1))), (.int .i64 (IntKind.wrap .i64 ((IntKind.wrap .i64 (i4 + (r1.1.length : Int))) + 1)))]) Tryz.sizeOf95 rfl rfl rfl rfl rfl rfl rfl rfl rfl ?_
                refine ⟨fun w' s => (s.select [0, 1, 2, 3, 5, 6] (by decide) rfl), ?_⟩
                refine AL.done (by kernel_rfl) ?_
                refine then_normal ?_
                exact ⟨r10, (Sub.cons rfl (Sub.nil _)), fun w' s => (s.select [1, 2, 3, 4, 5, 6] (by decide) rfl), hm⟩
               exact ALs.nil
              exact ALs.nil
             exact ALs.nil
            refine ALs.cons (i := 18) rfl (Runs.free rfl) rfl rfl ?_ ?_
            ·
             skip
             refine OQ.step (OV.quiet (ov_load_box (i := 4) Tryz.isAgg3 rfl rfl rfl rfl)) ?_
             refine ⟨fun w' s => (s.select [0, 1, 2, 3, 5, 6] (by decide) rfl), ?_⟩
             refine tq (i := 21) rfl (by kernel_rfl) rfl rfl rfl (ov_add rfl rfl rfl) ?_
             refine tq (i := 22) rfl (by kernel_rfl) rfl rfl rfl (ov_add rfl rfl rfl) ?_
             refine AL.any (rs := [9, 13]) (by kernel_rfl) (by decide) ?_
             refine ALs.cons (i := 9) rfl (Runs.free rfl) rfl rfl ?_ ?_
             ·
              skip
              obtain ⟨r11, e16, hm⟩ := bind_some hm
              refine OQ.step (oq_con (r := (.int .i64 r11)) Tryz.call52 rfl rfl (fun w' s => ⟨_, (journal_mark_con i2 s5  w' H4 s.hold hG r11 e16)⟩)) ?_
              refine ⟨fun w' s => (s.select [0, 1, 2, 3, 5, 6] (by decide) rfl), ?_⟩
              refine AL.any (rs := [13]) (by kernel_rfl) (by decide) ?_
              refine ALs.cons (i := 13) rfl (Runs.free rfl) rfl rfl ?_ ?_
              ·
               skip
               refine OQ.step (OV.quiet (ov_load_box (i := 4) Tryz.isAgg3 rfl rfl rfl rfl)) ?_
               refine ⟨fun w' s => (s.select [0, 1, 2, 3, 5, 6] (by decide) rfl), ?_⟩
               refine tq (i := 14) rfl (by kernel_rfl) rfl rfl rfl (ov_add rfl rfl rfl) ?_
               refine tq (i := 23) rfl (by kernel_rfl) rfl rfl rfl (ov_build (r := (.agg #[(.slice ao5 l3.length cap5), (.int .i64 i6), (.int .i64 r11), (.int .i64 (IntKind.wrap .i64 (i3 + 1))), (.int .i64 (IntKind.wrap .i64 ((IntKind.wrap .i64 (i4 + (r1.1.length : Int))) + 1)))])) rfl rfl (fun _ => by kernel_rfl)) ?_
               refine tq (i := 24) rfl (by kernel_rfl) rfl rfl rfl (ov_nilCheckB rfl rfl) ?_
               refine AL.any (rs := [25]) (by kernel_rfl) (by decide) ?_
               refine ALs.cons0 (i := 25) rfl (Runs.free rfl) rfl ?_ ?_
               ·
                skip
                refine os_store (i := 4) (vs := [(.slice ao5 l3.length cap5), (.int .i64 i6), (.int .i64 r11), (.int .i64 (IntKind.wrap .i64 (i3 + 1))), (.int .i64 (IntKind.wrap .i64 ((IntKind.wrap .i64 (i4 + (r1.1.length : Int))) + 1)))]) (cs' := [(.slice ao5 l3.length cap5), (.int .i64 i6), (.int .i64 r11), (.int .i64 (IntKind.wrap .i64 (i3 + 1))), (.int .i64 (IntKind.wrap .i64 ((IntKind.wrap .i64 (i4 + (r1.1.length : Int))) + 1)))]) Tryz.sizeOf95 rfl rfl rfl rfl rfl rfl rfl rfl rfl ?_
                refine ⟨fun w' s => (s.select [0, 1, 2, 3, 5, 6] (by decide) rfl), ?_⟩
                refine AL.done (by kernel_rfl) ?_
                refine then_normal ?_
                exact ⟨r11, (Sub.cons rfl (Sub.nil _)), fun w' s => (s.select [1, 2, 3, 4, 5, 6] (by decide) rfl), hm⟩
               exact ALs.nil
              exact ALs.nil
             refine ALs.cons (i := 13) rfl (Runs.free rfl) rfl rfl ?_ ?_
             ·
              skip
              refine OQ.step (OV.quiet (ov_load_box (i := 4) Tryz.isAgg3 rfl rfl rfl rfl)) ?_
              refine ⟨fun w' s => (s.select [0, 1, 2, 3, 5, 6] (by decide) rfl), ?_⟩
              refine tq (i := 14) rfl (by kernel_rfl) rfl rfl rfl (ov_add rfl rfl rfl) ?_
              refine AL.any (rs := [9]) (by kernel_rfl) (by decide) ?_
              refine ALs.cons (i := 9) rfl (Runs.free rfl) rfl rfl ?_ ?_
              ·
               skip
               obtain ⟨r12, e17, hm⟩ := bind_some hm
               refine OQ.step (oq_con (r := (.int .i64 r12)) Tryz.call52 rfl rfl (fun w' s => ⟨_, (journal_mark_con i2 s5  w' H4 s.hold hG r12 e17)⟩)) ?_
               refine ⟨fun w' s => (s.select [0, 1, 2, 3, 5, 6] (by decide) rfl), ?_⟩
               refine tq (i := 23) rfl (by kernel_rfl) rfl rfl rfl (ov_build (r := (.agg #[(.slice ao5 l3.length cap5), (.int .i64 i6), (.int .i64 r12), (.int .i64 (IntKind.wrap .i64 (i3 + 1))), (.int .i64 (IntKind.wrap .i64 ((IntKind.wrap .i64 (i4 + (r1.1.length : Int))) + 1)))])) rfl rfl (fun _ => by kernel_rfl)) ?_
               refine tq (i := 24) rfl (by kernel_rfl) rfl rfl rfl (ov_nilCheckB rfl rfl) ?_
               refine AL.any (rs := [25]) (by kernel_rfl) (by decide) ?_
               refine ALs.cons0 (i := 25) rfl (Runs.free rfl) rfl ?_ ?_
               ·
                skip
                refine os_store (i := 4) (vs := [(.slice ao5 l3.length cap5), (.int .i64 i6), (.int .i64 r12), (.int .i64 (IntKind.wrap .i64 (i3 + 1))), (.int .i64 (IntKind.wrap .i64 ((IntKind.wrap .i64 (i4 + (r1.1.length : Int))) + 1)))]) (cs' := [(.slice ao5 l3.length cap5), (.int .i64 i6), (.int .i64 r12), (.int .i64 (IntKind.wrap .i64 (i3 + 1))), (.int .i64 (IntKind.wrap .i64 ((IntKind.wrap .i64 (i4 + (r1.1.length : Int))) + 1)))]) Tryz.sizeOf95 rfl rfl rfl rfl rfl rfl rfl rfl rfl ?_
                refine ⟨fun w' s => (s.select [0, 1, 2, 3, 5, 6] (by decide) rfl), ?_⟩
                refine AL.done (by kernel_rfl) ?_
                refine then_normal ?_
                exact ⟨r12, (Sub.cons rfl (Sub.nil _)), fun w' s => (s.select [1, 2, 3, 4, 5, 6] (by decide) rfl), hm⟩
               exact ALs.nil
              exact ALs.nil
             exact ALs.nil
            exact ALs.nil
           refine ALs.cons (i := 13) rfl (Runs.free rfl) rfl rfl ?_ ?_
           ·
            skip
            refine OQ.step (OV.quiet (ov_load_box (i := 4) Tryz.isAgg3 rfl rfl rfl rfl)) ?_
            refine ⟨fun w' s => (s.select [0, 1, 2, 3, 5, 6] (by decide) rfl), ?_⟩
            refine tq (i := 14) rfl (by kernel_rfl) rfl rfl rfl (ov_add rfl rfl rfl) ?_
            refine AL.any (rs := [5, 18]) (by kernel_rfl) (by decide) ?_
            refine ALs.cons (i := 5) rfl (Runs.free rfl) rfl rfl ?_ ?_
            ·
             skip
             refine OQ.step (OV.quiet (ov_load_box (i := 4) Tryz.isAgg3 rfl rfl rfl rfl)) ?_
             refine ⟨fun w' s => (s.select [0, 1, 2, 3, 5, 6] (by decide) rfl), ?_⟩
             refine AL.any (rs := [9, 18]) (by kernel_rfl) (by decide) ?_
             refine ALs.cons (i := 9) rfl (Runs.free rfl) rfl rfl ?_ ?_
             ·
              skip
              obtain ⟨r13, e18, hm⟩ := bind_some hm
              refine OQ.step (oq_con (r := (.int .i64 r13)) Tryz.call52 rfl rfl (fun w' s => ⟨_, (journal_mark_con i2 s5  w' H4 s.hold hG r13 e18)⟩)) ?_
              refine ⟨fun w' s => (s.select [0, 1, 2, 3, 5, 6] (by decide) rfl), ?_⟩
              refine AL.any (rs := [18]) (by kernel_rfl) (by decide) ?_
              refine ALs.cons (i := 18) rfl (Runs.free rfl) rfl rfl ?_ ?_
              ·
               skip
               refine OQ.step (OV.quiet (ov_load_box (i := 4) Tryz.isAgg3 rfl rfl rfl rfl)) ?_
               refine ⟨fun w' s => (s.select [0, 1, 2, 3, 5, 6] (by decide) rfl), ?_⟩
               refine tq (i := 21) rfl (by kernel_rfl) rfl rfl rfl (ov_add rfl rfl rfl) ?_
               refine tq (i := 22) rfl (by kernel_rfl) rfl rfl rfl (ov_add rfl rfl rfl) ?_
               refine tq (i := 23) rfl (by kernel_rfl) rfl rfl rfl (ov_build (r := (.agg #[(.slice ao5 l3.length cap5), (.int .i64 i6), (.int .i64 r13), (.int .i64 (IntKind.wrap .i64 (i3 + 1))), (.int .i64 (IntKind.wrap .i64 ((IntKind.wrap .i64 (i4 + (r1.1.length : Int))) + 1)))])) rfl rfl (fun _ => by kernel_rfl)) ?_
               refine tq (i := 24) rfl (by kernel_rfl) rfl rfl rfl (ov_nilCheckB rfl rfl) ?_
               refine AL.any (rs := [25]) (by kernel_rfl) (by decide) ?_
               refine ALs.cons0 (i := 25) rfl (Runs.free rfl) rfl ?_ ?_
               ·
                skip
                refine os_store (i := 4) (vs := [(.slice ao5 l3.length cap5), (.int .i64 i6), (.int .i64 r13), (.int .i64 (IntKind.wrap .i64 (i3 + 1))), (.int .i64 (IntKind.wrap .i64 ((IntKind.wrap .i64 (i4 + (r1.1.length : Int))) + 1)))]) (cs' := [(.slice ao5 l3.length cap5), (.int .i64 i6), (.int .i64 r13), (.int .i64 (IntKind.wrap .i64 (i3 + 1))), (.int .i64 (IntKind.wrap .i64 ((IntKind.wrap .i64 (i4 + (r1.1.length : Int))) + 1)))]) Tryz.sizeOf95 rfl rfl rfl rfl rfl rfl rfl rfl rfl ?_
                refine ⟨fun w' s => (s.select [0, 1, 2, 3, 5, 6] (by decide) rfl), ?_⟩
                refine AL.done (by kernel_rfl) ?_
                refine then_normal ?_
                exact ⟨r13, (Sub.cons rfl (Sub.nil _)), fun w' s => (s.select [1, 2, 3, 4, 5, 6] (by decide) rfl), hm⟩
               exact ALs.nil
              exact ALs.nil
             refine ALs.cons (i := 18) rfl (Runs.free rfl) rfl rfl ?_ ?_
             ·
              skip
              refine OQ.step (OV.quiet (ov_load_box (i := 4) Tryz.isAgg3 rfl rfl rfl rfl)) ?_
              refine ⟨fun w' s => (s.select [0, 1, 2, 3, 5, 6] (by decide) rfl), ?_⟩
              refine tq (i := 21) rfl (by kernel_rfl) rfl rfl rfl (ov_add rfl rfl rfl) ?_
              refine tq (i := 22) rfl (by kernel_rfl) rfl rfl rfl (ov_add rfl rfl rfl) ?_
              refine AL.any (rs := [9]) (by kernel_rfl) (by decide) ?_
              refine ALs.cons (i := 9) rfl (Runs.free rfl) rfl rfl ?_ ?_
              ·
               skip
               obtain ⟨r14, e19, hm⟩ := bind_some hm
               refine OQ.step (oq_con (r := (.int .i64 r14)) Tryz.call52 rfl rfl (fun w' s => ⟨_, (journal_mark_con i2 s5  w' H4 s.hold hG r14 e19)⟩)) ?_
               refine ⟨fun w' s => (s.select [0, 1, 2, 3, 5, 6] (by decide) rfl), ?_⟩
               refine tq (i := 23) rfl (by kernel_rfl) rfl rfl rfl (ov_build (r := (.agg #[(.slice ao5 l3.length cap5), (.int .i64 i6), (.int .i64 r14), (.int .i64 (IntKind.wrap .i64 (i3 + 1))), (.int .i64 (IntKind.wrap .i64 ((IntKind.wrap .i64 (i4 + (r1.1.length : Int))) + 1)))])) rfl rfl (fun _ => by kernel_rfl)) ?_
               refine tq (i := 24) rfl (by kernel_rfl) rfl rfl rfl (ov_nilCheckB rfl rfl) ?_
               refine AL.any (rs := [25]) (by kernel_rfl) (by decide) ?_
               refine ALs.cons0 (i := 25) rfl (Runs.free rfl) rfl ?_ ?_
               ·
                skip
                refine os_store (i := 4) (vs := [(.slice ao5 l3.length cap5), (.int .i64 i6), (.int .i64 r14), (.int .i64 (IntKind.wrap .i64 (i3 + 1))), (.int .i64 (IntKind.wrap .i64 ((IntKind.wrap .i64 (i4 + (r1.1.length : Int))) + 1)))]) (cs' := [(.slice ao5 l3.length cap5), (.int .i64 i6), (.int .i64 r14), (.int .i64 (IntKind.wrap .i64 (i3 + 1))), (.int .i64 (IntKind.wrap .i64 ((IntKind.wrap .i64 (i4 + (r1.1.length : Int))) + 1)))]) Tryz.sizeOf95 rfl rfl rfl rfl rfl rfl rfl rfl rfl ?_
                refine ⟨fun w' s => (s.select [0, 1, 2, 3, 5, 6] (by decide) rfl), ?_⟩
                refine AL.done (by kernel_rfl) ?_
                refine then_normal ?_
                exact ⟨r14, (Sub.cons rfl (Sub.nil _)), fun w' s => (s.select [1, 2, 3, 4, 5, 6] (by decide) rfl), hm⟩
               exact ALs.nil
              exact ALs.nil
             exact ALs.nil
            refine ALs.cons (i := 18) rfl (Runs.free rfl) rfl rfl ?_ ?_
            ·
             skip
             refine OQ.step (OV.quiet (ov_load_box (i := 4) Tryz.isAgg3 rfl rfl rfl rfl)) ?_
             refine ⟨fun w' s => (s.select [0, 1, 2, 3, 5, 6] (by decide) rfl), ?_⟩
             refine tq (i := 21) rfl (by kernel_rfl) rfl rfl rfl (ov_add rfl rfl rfl) ?_
             refine tq (i := 22) rfl (by kernel_rfl) rfl rfl rfl (ov_add rfl rfl rfl) ?_
             refine AL.any (rs := [5]) (by kernel_rfl) (by decide) ?_
             refine ALs.cons (i := 5) rfl (Runs.free rfl) rfl rfl ?_ ?_
             ·
              skip
              refine OQ.step (OV.quiet (ov_load_box (i := 4) Tryz.isAgg3 rfl rfl rfl rfl)) ?_
              refine ⟨fun w' s => (s.select [0, 1, 2, 3, 5, 6] (by decide) rfl), ?_⟩
              refine AL.any (rs := [9]) (by kernel_rfl) (by decide) ?_
              refine ALs.cons (i := 9) rfl (Runs.free rfl) rfl rfl ?_ ?_
              ·
               skip
               obtain ⟨r15, e20, hm⟩ := bind_some hm
               refine OQ.step (oq_con (r := (.int .i64 r15)) Tryz.call52 rfl rfl (fun w' s => ⟨_, (journal_mark_con i2 s5  w' H4 s.hold hG r15 e20)⟩)) ?_
               refine ⟨fun w' s => (s.select [0, 1, 2, 3, 5, 6] (by decide) rfl), ?_⟩
               refine tq (i := 23) rfl (by kernel_rfl) rfl rfl rfl (ov_build (r := (.agg #[(.slice ao5 l3.length cap5), (.int .i64 i6), (.int .i64 r15), (.int .i64 (IntKind.wrap .i64 (i3 + 1))), (.int .i64 (IntKind.wrap .i64 ((IntKind.wrap .i64 (i4 + (r1.1.length : Int))) + 1)))])) rfl rfl (fun _ => by kernel_rfl)) ?_
               refine tq (i := 24) rfl (by kernel_rfl) rfl rfl rfl (ov_nilCheckB rfl rfl) ?_
               refine AL.any (rs := [25]) (by kernel_rfl) (by decide) ?_
               refine ALs.cons0 (i := 25) rfl (Runs.free rfl) rfl ?_ ?_
               ·
                skip
                refine os_store (i := 4) (vs := [(.slice ao5 l3.length cap5), (.int .i64 i6), (.int .i64 r15), (.int .i64 (IntKind.wrap .i64 (i3 + 1))), (.int .i64 (IntKind.wrap .i64 ((IntKind.wrap .i64 (i4 + (r1.1.length : Int))) + 1)))]) (cs' := [(.slice ao5 l3.length cap5), (.int .i64 i6), (.int .i64 r15), (.int .i64 (IntKind.wrap .i64 (i3 + 1))), (.int .i64 (IntKind.wrap .i64 ((IntKind.wrap .i64 (i4 + (r1.1.length : Int))) + 1)))]) Tryz.sizeOf95 rfl rfl rfl rfl rfl rfl rfl rfl rfl ?_
                refine ⟨fun w' s => (s.select [0, 1, 2, 3, 5, 6] (by decide) rfl), ?_⟩
                refine AL.done (by kernel_rfl) ?_
                refine then_normal ?_
                exact ⟨r15, (Sub.cons rfl (Sub.nil _)), fun w' s => (s.select [1, 2, 3, 4, 5, 6] (by decide) rfl), hm⟩
               exact ALs.nil
              exact ALs.nil
             exact ALs.nil
            exact ALs.nil
           refine ALs.cons (i := 18) rfl (Runs.free rfl) rfl rfl ?_ ?_
           ·
            skip
            refine OQ.step (OV.quiet (ov_load_box (i := 4) Tryz.isAgg3 rfl rfl rfl rfl)) ?_
            refine ⟨fun w' s => (s.select [0, 1, 2, 3, 5, 6] (by decide) rfl), ?_⟩
            refine tq (i := 21) rfl (by kernel_rfl) rfl rfl rfl (ov_add rfl rfl rfl) ?_
            refine tq (i := 22) rfl (by kernel_rfl) rfl rfl rfl (ov_add rfl rfl rfl) ?_
            refine AL.any (rs := [5, 13]) (by kernel_rfl) (by decide) ?_
            refine ALs.cons (i := 5) rfl (Runs.free rfl) rfl rfl ?_ ?_
            ·
             skip
             refine OQ.step (OV.quiet (ov_load_box (i := 4) Tryz.isAgg3 rfl rfl rfl rfl)) ?_
             refine ⟨fun w' s => (s.select [0, 1, 2, 3, 5, 6] (by decide) rfl), ?_⟩
             refine AL.any (rs := [9, 13]) (by kernel_rfl) (by decide) ?_
             refine ALs.cons (i := 9) rfl (Runs.free rfl) rfl rfl ?_ ?_
             ·
              skip
              obtain ⟨r16, e21, hm⟩ := bind_some hm
              refine OQ.step (oq_con (r := (.int .i64 r16)) Tryz.call52 rfl rfl (fun w' s => ⟨_, (journal_mark_con i2 s5  w' H4 s.hold hG r16 e21)⟩)) ?_
              refine ⟨fun w' s => (s.select [0, 1, 2, 3, 5, 6] (by decide) rfl), ?_⟩
              refine AL.any (rs := [13]) (by kernel_rfl) (by decide) ?_
              refine ALs.cons (i := 13) rfl (Runs.free rfl) rfl rfl ?_ ?_
              ·
               skip
               refine OQ.step (OV.quiet (ov_load_box (i := 4) Tryz.isAgg3 rfl rfl rfl rfl)) ?_
               refine ⟨fun w' s => (s.select [0, 1, 2, 3, 5, 6] (by decide) rfl), ?_⟩
               refine tq (i := 14) rfl (by kernel_rfl) rfl rfl rfl (ov_add rfl rfl rfl) ?_
               refine tq (i := 23) rfl (by kernel_rfl) rfl rfl rfl (ov_build (r := (.agg #[(.slice ao5 l3.length cap5), (.int .i64 i6), (.int .i64 r16), (.int .i64 (IntKind.wrap .i64 (i3 + 1))), (.int .i64 (IntKind.wrap .i64 ((IntKind.wrap .i64 (i4 + (r1.1.length : Int))) + 1)))])) rfl rfl (fun _ => by kernel_rfl)) ?_
               refine tq (i := 24) rfl (by kernel_rfl) rfl rfl rfl (ov_nilCheckB rfl rfl) ?_
               refine AL.any (rs := [25]) (by kernel_rfl) (by decide) ?_
               refine ALs.cons0 (i := 25) rfl (Runs.free rfl) rfl ?_ ?_
               ·
                skip
                refine os_store (i := 4) (vs := [(.slice ao5 l3.length cap5), (.int .i64 i6), (.int .i64 r16), (.int .i64 (IntKind.wrap .i64 (i3 + 1))), (.int .i64 (IntKind.wrap .i64 ((IntKind.wrap .i64 (i4 + (r1.1.length : Int))) + 1)))]) (cs' := [(.slice ao5 l3.length cap5), (.int .i64 i6), (.int .i64 r16), (.int .i64 (IntKind.wrap .i64 (i3 + 1))), (.int .i64 (IntKind.wrap .i64 ((IntKind.wrap .i64 (i4 + (r1.1.length : Int))) + 1)))]) Tryz.sizeOf95 rfl rfl rfl rfl rfl rfl rfl rfl rfl ?_
                refine ⟨fun w' s => (s.select [0, 1, 2, 3, 5, 6] (by decide) rfl), ?_⟩
                refine AL.done (by kernel_rfl) ?_
                refine then_normal ?_
                exact ⟨r16, (Sub.cons rfl (Sub.nil _)), fun w' s => (s.select [1, 2, 3, 4, 5, 6] (by decide) rfl), hm⟩
               exact ALs.nil
              exact ALs.nil
             refine ALs.cons (i := 13) rfl (Runs.free rfl) rfl rfl ?_ ?_
             ·
              skip
              refine OQ.step (OV.quiet (ov_load_box (i := 4) Tryz.isAgg3 rfl rfl rfl rfl)) ?_
              refine ⟨fun w' s => (s.select [0, 1, 2, 3, 5, 6] (by decide) rfl), ?_⟩
              refine tq (i := 14) rfl (by kernel_rfl) rfl rfl rfl (ov_add rfl rfl rfl) ?_
              refine AL.any (rs := [9]) (by kernel_rfl) (by decide) ?_
              refine ALs.cons (i := 9) rfl (Runs.free rfl) rfl rfl ?_ ?_
              ·
               skip
               obtain ⟨r17, e22, hm⟩ := bind_some hm
               refine OQ.step (oq_con (r := (.int .i64 r17)) Tryz.call52 rfl rfl (fun w' s => ⟨_, (journal_mark_con i2 s5  w' H4 s.hold hG r17 e22)⟩)) ?_
               refine ⟨fun w' s => (s.select [0, 1, 2, 3, 5, 6] (by decide) rfl), ?_⟩
               refine tq (i := 23) rfl (by kernel_rfl) rfl rfl rfl (ov_build (r := (.agg #[(.slice ao5 l3.length cap5), (.int .i64 i6), (.int .i64 r17), (.int .i64 (IntKind.wrap .i64 (i3 + 1))), (.int .i64 (IntKind.wrap .i64 ((IntKind.wrap .i64 (i4 + (r1.1.length : Int))) + 1)))])) rfl rfl (fun _ => by kernel_rfl)) ?_
               refine tq (i := 24) rfl (by kernel_rfl) rfl rfl rfl (ov_nilCheckB rfl rfl) ?_
               refine AL.any (rs := [25]) (by kernel_rfl) (by decide) ?_
               refine ALs.cons0 (i := 25) rfl (Runs.free rfl) rfl ?_ ?_
               ·
                skip
                refine os_store (i := 4) (vs := [(.slice ao5 l3.length cap5), (.int .i64 i6), (.int .i64 r17), (.int .i64 (IntKind.wrap .i64 (i3 + 1))), (.int .i64 (IntKind.wrap .i64 ((IntKind.wrap .i64 (i4 + (r1.1.length : Int))) + 1)))]) (cs' := [(.slice ao5 l3.length cap5), (.int .i64 i6), (.int .i64 r17), (.int .i64 (IntKind.wrap .i64 (i3 + 1))), (.int .i64 (IntKind.wrap .i64 ((IntKind.wrap .i64 (i4 + (r1.1.length : Int))) + 1)))]) Tryz.sizeOf95 rfl rfl rfl rfl rfl rfl rfl rfl rfl ?_
                refine ⟨fun w' s => (s.select [0, 1, 2, 3, 5, 6] (by decide) rfl), ?_⟩
                refine AL.done (by kernel_rfl) ?_
                refine then_normal ?_
                exact ⟨r17, (Sub.cons rfl (Sub.nil _)), fun w' s => (s.select [1, 2, 3, 4, 5, 6] (by decide) rfl), hm⟩
               exact ALs.nil
              exact ALs.nil
             exact ALs.nil
            refine ALs.cons (i := 13) rfl (Runs.free rfl) rfl rfl ?_ ?_
            ·
             skip
             refine OQ.step (OV.quiet (ov_load_box (i := 4) Tryz.isAgg3 rfl rfl rfl rfl)) ?_
             refine ⟨fun w' s => (s.select [0, 1, 2, 3, 5, 6] (by decide) rfl), ?_⟩
             refine tq (i := 14) rfl (by kernel_rfl) rfl rfl rfl (ov_add rfl rfl rfl) ?_
             refine AL.any (rs := [5]) (by kernel_rfl) (by decide) ?_
             refine ALs.cons (i := 5) rfl (Runs.free rfl) rfl rfl ?_ ?_
             ·
              skip
              refine OQ.step (OV.quiet (ov_load_box (i := 4) Tryz.isAgg3 rfl rfl rfl rfl)) ?_
              refine ⟨fun w' s => (s.select [0, 1, 2, 3, 5, 6] (by decide) rfl), ?_⟩
              refine AL.any (rs := [9]) (by kernel_rfl) (by decide) ?_
              refine ALs.cons (i := 9) rfl (Runs.free rfl) rfl rfl ?_ ?_
              ·
               skip
               obtain ⟨r18, e23, hm⟩ := bind_some hm
               refine OQ.step (oq_con (r := (.int .i64 r18)) Tryz.call52 rfl rfl (fun w' s => ⟨_, (journal_mark_con i2 s5  w' H4 s.hold hG r18 e23)⟩)) ?_
               refine ⟨fun w' s => (s.select [0, 1, 2, 3, 5, 6] (by decide) rfl), ?_⟩
               refine tq (i := 23) rfl (by kernel_rfl) rfl rfl rfl (ov_build (r := (.agg #[(.slice ao5 l3.length cap5), (.int .i64 i6), (.int .i64 r18), (.int .i64 (IntKind.wrap .i64 (i3 + 1))), (.int .i64 (IntKind.wrap .i64 ((IntKind.wrap .i64 (i4 + (r1.1.length : Int))) + 1)))])) rfl rfl (fun _ => by kernel_rfl)) ?_
               refine tq (i := 24) rfl (by kernel_rfl) rfl rfl rfl (ov_nilCheckB rfl rfl) ?_
               refine AL.any (rs := [25]) (by kernel_rfl) (by decide) ?_
               refine ALs.cons0 (i := 25) rfl (Runs.free rfl) rfl ?_ ?_
               ·
                skip
                refine os_store (i := 4) (vs := [(.slice ao5 l3.length cap5), (.int .i64 i6), (.int .i64 r18), (.int .i64 (IntKind.wrap .i64 (i3 + 1))), (.int .i64 (IntKind.wrap .i64 ((IntKind.wrap .i64 (i4 + (r1.1.length : Int))) + 1)))]) (cs' := [(.slice ao5 l3.length cap5), (.int .i64 i6), (.int .i64 r18), (.int .i64 (IntKind.wrap .i64 (i3 + 1))), (.int .i64 (IntKind.wrap .i64 ((IntKind.wrap .i64 (i4 + (r1.1.length : Int))) + 1)))]) Tryz.sizeOf95 rfl rfl rfl rfl rfl rfl rfl rfl rfl ?_
                refine ⟨fun w' s => (s.select [0, 1, 2, 3, 5, 6] (by decide) rfl), ?_⟩
                refine AL.done (by kernel_rfl) ?_
                refine then_normal ?_
                exact ⟨r18, (Sub.cons rfl (Sub.nil _)), fun w' s => (s.select [1, 2, 3, 4, 5, 6] (by decide) rfl), hm⟩
               exact ALs.nil
              exact ALs.nil
             exact ALs.nil
            exact ALs.nil
           exact ALs.nil
          ·
           rintro g' S' ⟨i7, hsub3, hS3, hm⟩
           refine WP.sub hsub3 (WP.weaken hS3 ?_)
           replace hm := (congrFun hk3 i7).symm.trans hm
           refine WP.seq (WP.region ?_)
           refine wq rfl rfl rfl (ov_assign rfl rfl) ?_
           refine WL.nil (then_normal (WP.ret ?_))
           refine retQ_ret (v := (.int .i64 0)) Tryz.results82 (Res.tmp rfl Res.nil) rfl (fun w' s => ⟨_, ?_, s⟩)
           refine wq rfl rfl rfl (ov_assign rfl rfl) ?_
           refine WL.nil (then_normal ?_)
           exact ⟨H4, 0, l3, ao5, cap5, i6, i7, (IntKind.wrap .i64 (i3 + 1)), (IntKind.wrap .i64 ((IntKind.wrap .i64 (i4 + (r1.1.length : Int))) + 1)), hle4, h5, hc11, (Sub.cons rfl (Sub.cons rfl (Sub.cons rfl (Sub.cons rfl (Sub.cons rfl (Sub.nil _)))))), fun w' s => s, hm⟩
   ·
    rintro g' S' ⟨H5, i8, l4, ao6, cap6, i9, i10, i11, i12, hle5, h6, hc13, hsub4, hS4, hm⟩
    refine WP.sub hsub4 (WP.weaken hS4 ?_)
    replace hm := (congrFun (congrFun (congrFun (congrFun (congrFun (congrFun hk1 i8) l4) i9) i10) i11) i12).symm.trans hm
    replace hG := hG.mono hle5
    refine WP.seq (WP.region ?_)
    refine wq rfl rfl rfl (ov_move rfl rfl) ?_
    refine wq rfl rfl rfl (ov_neq rfl rfl rfl) ?_
    refine WL.nil (then_normal ?_)
    refine WP.cond rfl (fun hc14 => ?_) (fun hc14 => ?_)
    ·
     replace hm := ite_t hc14 hm
     refine WP.seq (WP.region ?_)
     refine wq rfl rfl rfl (ov_load_whole (i := 3) Tryz.isAgg95 Tryz.sizeOf95 rfl rfl rfl rfl) ?_
     refine wq rfl rfl rfl (ov_move rfl rfl) ?_
     refine WL.step0 (Runs.free rfl) rfl (os_store (i := 5) (vs := [(.slice ao6 l4.length cap6), (.int .i64 i9), (.int .i64 i10), (.int .i64 i11), (.int .i64 i12)]) (cs' := [(.slice ao6 l4.length cap6), (.int .i64 i9), (.int .i64 i10), (.int .i64 i11), (.int .i64 i12)]) Tryz.sizeOf95 rfl rfl rfl rfl rfl rfl rfl rfl rfl ?_)
     refine WL.step0 (Runs.free rfl) rfl (os_store (i := 4) (vs := [(.int .i64 i8)]) (cs' := [(.int .i64 i8)]) Tryz.sizeOf25 rfl rfl rfl rfl rfl rfl rfl rfl rfl ?_)
     refine WL.nil (then_normal (WP.ret (block_ret ?_)))
     refine round_ret (i := 0) rfl ?_
     refine wq rfl rfl rfl (ov_not rfl rfl) ?_
     refine WL.nil (then_normal (WP.cond_true rfl (WP.ret (then_ret (block_ret (then_ret (block_ret ?_)))))))
     refine retQ_ret (v := (.tuple #[])) Tryz.results105 Res.nil rfl (fun w' s => ⟨St w H [.obj l1 (R1 .done (some .ret)), .obj D1 (.deferred (some [])), .blk b4 9 [(mkS s1)], .blk b3 95 [(.slice ao6 l4.length cap6), (.int .i64 i9), (.int .i64 i10), (.int .i64 i11), (.int .i64 i12)], .blk b2 25 [(.int .i64 i8)], .blk b1 95 [(.slice ao6 l4.length cap6), (.int .i64 i9), (.int .i64 i10), (.int .i64 i11), (.int .i64 i12)]] H5, ?_, s⟩)
     refine after_ret ?_
     refine block_ret (then_ret ?_)
     obtain rfl := Option.some.inj hm
     refine retQ_retM (i := 0) rfl Tryz.results47 (Res.cell rfl (box_loads (i := 3) Tryz.isAgg95 Tryz.sizeOf95 rfl rfl) (Res.cell rfl (box_load (i := 2) Tryz.isAgg25 rfl) Res.nil)) rfl (fun w' s => ⟨s.below, ?_⟩)
     exact ⟨ao6, cap6, rfl, h6.mono s.le_newer, hc13⟩
    ·
     replace hm := ite_f hc14 hm
     refine WP.skip (block_normal ?_)
     refine round_normal (i := 0) rfl ?_
     refine wq rfl rfl rfl (ov_not rfl rfl) ?_
     refine WL.nil (then_normal (WP.cond_false rfl (WP.skip (then_normal (WP.region ?_)))))
     refine wq rfl rfl rfl (ov_move rfl rfl) ?_
     refine WL.step0 (Runs.free rfl) rfl (os_store (i := 2) (vs := [(mkS r1.2.1)]) (cs' := [(mkS r1.2.1)]) Tryz.sizeOf9 rfl rfl rfl rfl rfl rfl rfl rfl rfl ?_)
     refine WL.nil (block_normal (then_normal ?_))
     exact ⟨H5, r1.2.1, l4, ao6, cap6, i9, i10, i11, i12, (hle1.trans hle5), h6, hc13, (Sub.cons rfl (Sub.cons rfl (Sub.cons rfl (Sub.nil _)))), fun w' s => s, hm⟩
  ·
   replace hm := ite_f hc3 hm
   refine WP.exit (then_exit (then_exit (block_here ?_)))
   refine retQ_end (v := (.tuple #[])) Tryz.results105 Res.nil rfl (fun w' s => ⟨St w H [.obj l1 (R1 .ready none), .obj D1 (.deferred (some [])), .blk b4 9 [(mkS s1)], .blk b3 95 [(.slice ao2 l2.length cap2), (.int .i64 i1), (.int .i64 i2), (.int .i64 i3), (.int .i64 i4)], .blk b2 25 [(.int .i64 0)], .blk b1 95 [(.slice none 0 0), (.int .i64 0), (.int .i64 0), (.int .i64 0), (.int .i64 0)]] H1, ?_, s⟩)
   refine after_normal ?_
   refine block_normal (then_normal (WP.seq (WP.region ?_)))
   refine wq rfl rfl rfl (ov_load_whole (i := 2) Tryz.isAgg95 Tryz.sizeOf95 rfl rfl rfl rfl) ?_
   refine WL.step0 (Runs.free rfl) rfl (os_store (i := 4) (vs := [(.slice ao2 l2.length cap2), (.int .i64 i1), (.int .i64 i2), (.int .i64 i3), (.int .i64 i4)]) (cs' := [(.slice ao2 l2.length cap2), (.int .i64 i1), (.int .i64 i2), (.int .i64 i3), (.int .i64 i4)]) Tryz.sizeOf95 rfl rfl rfl rfl rfl rfl rfl rfl rfl ?_)
   refine WL.step0 (Runs.free rfl) rfl (os_store (i := 3) (vs := [(.int .i64 0)]) (cs' := [(.int .i64 0)]) Tryz.sizeOf25 rfl rfl rfl rfl rfl rfl rfl rfl rfl ?_)
   refine WL.nil (then_normal (WP.ret ?_))
   obtain rfl := Option.some.inj hm
   refine retQ_retM (i := 0) rfl Tryz.results47 (Res.cell rfl (box_loads (i := 3) Tryz.isAgg95 Tryz.sizeOf95 rfl rfl) (Res.cell rfl (box_load (i := 2) Tryz.isAgg25 rfl) Res.nil)) rfl (fun w' s => ⟨s.below, ?_⟩)
   exact ⟨ao2, cap2, rfl, h2.mono s.le_newer, hc2⟩

theorem journal_Load_con (p_text : (List UInt8)) (w : World) (H : Heap) (hH : Le H (hp w)) (hG : Glob H) (r : (Machine × Int × Int)) (hm : journal_Load p_text = some r) :
  Con Tryz.prog 15 [(mkS p_text)] w H (fun v H' => ∃ (ao1 : Option Addr) (cap1 : Nat), v = (.tuple #[(.agg #[(.slice ao1 r.1.items.length cap1), (.int .i64 r.1.cycles)]), (.int .i64 r.2.1), (.int .i64 r.2.2)]) ∧ SL H' encItem ao1 r.1.items ∧ r.1.items.length ≤ cap1) := by
 unfold journal_Load at hm
 refine con_of hH Tryz.func15 rfl 26 Tryz.ntmps15 rfl ?_
 refine WP.seq (WP.region ?_)
 refine WL.step (Runs.free rfl) rfl rfl (os_alloc (cs := [(.slice none 0 0), (.int .i64 0)]) Tryz.zeroValue41 rfl rfl (fun b1 => ?_))
 refine wq rfl rfl rfl (ov_assign rfl rfl) ?_
 refine wq rfl rfl rfl (ov_assign rfl rfl) ?_
 refine WL.nil (then_normal (WP.seq (WP.seq (WP.region ?_))))
 refine wq rfl rfl rfl (ov_move rfl rfl) ?_
 refine wq rfl rfl rfl (ov_len_string Tryz.underlying9 rfl rfl) ?_
 refine wq rfl rfl rfl (ov_gtr rfl rfl rfl) ?_
 refine WL.nil (then_normal ?_)
 refine WP.cond rfl (fun hc2 => ?_) (fun hc2 => ?_)
 ·
  replace hm := ite_t hc2 hm
  refine WP.seq (WP.region ?_)
  refine wq rfl rfl rfl (ov_build (r := (.agg #[(.slice none 0 0), (.int .i64 0)])) rfl rfl (fun _ => by kernel_rfl)) ?_
  refine WL.step0 (Runs.free rfl) rfl (os_store (i := 0) (vs := [(.slice none 0 0), (.int .i64 0)]) (cs' := [(.slice none 0 0), (.int .i64 0)]) Tryz.sizeOf41 rfl rfl rfl rfl rfl rfl rfl rfl rfl ?_)
  refine wq rfl rfl rfl (ov_assign rfl rfl) ?_
  refine wq rfl rfl rfl (ov_assign rfl rfl) ?_
  refine WL.nil (then_normal (WP.ret (then_ret ?_)))
  obtain rfl := Option.some.inj hm
  refine retQ_ret Tryz.results15 (Res.cell rfl (box_loads (i := 0) Tryz.isAgg41 Tryz.sizeOf41 rfl rfl) (Res.tmp rfl (Res.tmp rfl Res.nil))) rfl (fun w' s => ⟨s.below, ?_⟩)
  exact ⟨none, 0, rfl, SL.nil _ _ _, Nat.le_refl _⟩
 ·
  replace hm := ite_f hc2 hm
  refine WP.skip (then_normal (WP.seq (WP.region ?_)))
  refine wq rfl rfl rfl (ov_move rfl rfl) ?_
  obtain ⟨r1, e1, hm⟩ := bind_some hm
  refine WL.step (Runs.free rfl) rfl rfl (os_con Tryz.call47 rfl rfl (fun w' s => (journal_readAll_con p_text  w' H s.hold hG r1 e1)) (fun rr1 H1 hle1 hR1 => ?_))
  replace hG := hG.mono hle1
  obtain ⟨ao2, cap2, rfl, h2, hc3⟩ := hR1
  refine wq rfl rfl rfl (ov_move rfl rfl) ?_
  refine wq rfl rfl rfl (ov_extract rfl rfl rfl) ?_
  refine wq rfl rfl rfl (ov_extract rfl rfl rfl) ?_
  refine WL.step (Runs.free rfl) rfl rfl (os_alloc (cs := [(.slice none 0 0), (.int .i64 0), (.int .i64 0), (.int .i64 0), (.int .i64 0)]) Tryz.zeroValue95 rfl rfl (fun b2 => ?_))
  refine WL.step0 (Runs.free rfl) rfl (os_store (i := 0) (vs := [(.slice ao2 r1.1.m.items.length cap2), (.int .i64 r1.1.m.cycles), (.int .i64 r1.1.mark), (.int .i64 r1.1.lines), (.int .i64 r1.1.size)]) (cs' := [(.slice ao2 r1.1.m.items.length cap2), (.int .i64 r1.1.m.cycles), (.int .i64 r1.1.mark), (.int .i64 r1.1.lines), (.int .i64 r1.1.size)]) Tryz.sizeOf95 rfl rfl rfl rfl rfl rfl rfl rfl rfl ?_)
  refine wq rfl rfl rfl (ov_assign rfl rfl) ?_
  refine WL.nil (then_normal (WP.seq (WP.seq (WP.region ?_))))
  refine wq rfl rfl rfl (ov_move rfl rfl) ?_
  refine wq rfl rfl rfl (ov_neq rfl rfl rfl) ?_
  refine WL.nil (then_normal ?_)
  refine WP.cond rfl (fun hc4 => ?_) (fun hc4 => ?_)
  ·
   replace hm := ite_t hc4 hm
   refine WP.seq ?_
   refine WP.region_any (S₀ := St w H [.blk b2 95 [(.slice ao2 r1.1.m.items.length cap2), (.int .i64 r1.1.m.cycles), (.int .i64 r1.1.mark), (.int .i64 r1.1.lines), (.int .i64 r1.1.size)], .blk b1 41 [(.slice none 0 0), (.int .i64 0)]] H1) 7 rfl (by kernel_rfl) (fun w' s => s) (fun _ s => s.drew) ?_
   refine tq (i := 0) rfl (by kernel_rfl) rfl rfl rfl (ov_build (r := (.agg #[(.slice none 0 0), (.int .i64 0)])) rfl rfl (fun _ => by kernel_rfl)) ?_
   refine tq (i := 1) rfl (by kernel_rfl) rfl rfl rfl (ov_fieldAddr Tryz.underlying95 rfl rfl rfl Tryz.sizeOf3 rfl rfl) ?_
   refine tq (i := 2) rfl (by kernel_rfl) rfl rfl rfl (ov_load_box (i := 0) Tryz.isAgg3 rfl rfl rfl rfl) ?_
   refine tq (i := 3) rfl (by kernel_rfl) rfl rfl rfl (ov_move rfl rfl) ?_
   refine AL.any (rs := [4]) (by kernel_rfl) (by decide) ?_
   refine ALs.cons0 (i := 4) rfl (Runs.free rfl) rfl ?_ ?_
   ·
    skip
    refine os_store (i := 1) (vs := [(.slice none 0 0), (.int .i64 0)]) (cs' := [(.slice none 0 0), (.int .i64 0)]) Tryz.sizeOf41 rfl rfl rfl rfl rfl rfl rfl rfl rfl ?_
    refine ⟨fun w' s => s, ?_⟩
    refine tq (i := 5) rfl (by kernel_rfl) rfl rfl rfl (ov_assign rfl rfl) ?_
    refine tq (i := 6) rfl (by kernel_rfl) rfl rfl rfl (ov_assign rfl rfl) ?_
    refine AL.done (by kernel_rfl) ?_
    refine then_normal (WP.ret (then_ret ?_))
    obtain rfl := Option.some.inj hm
    refine retQ_ret Tryz.results15 (Res.cell rfl (box_loads (i := 1) Tryz.isAgg41 Tryz.sizeOf41 rfl rfl) (Res.tmp rfl (Res.tmp rfl Res.nil))) rfl (fun w' s => ⟨s.below, ?_⟩)
    exact ⟨none, 0, rfl, SL.nil _ _ _, Nat.le_refl _⟩
   exact ALs.nil
  ·
   replace hm := ite_f hc4 hm
   refine WP.skip (then_normal (WP.seq ?_))
   refine WP.region_any (S₀ := St w H [.blk b2 95 [(.slice ao2 r1.1.m.items.length cap2), (.int .i64 r1.1.m.cycles), (.int .i64 r1.1.mark), (.int .i64 r1.1.lines), (.int .i64 r1.1.size)]] H1) 7 rfl (by kernel_rfl) (fun w' s => (s.select [0] (by decide) rfl)) (fun _ s => s.drew) ?_
   refine tq (i := 0) rfl (by kernel_rfl) rfl rfl rfl (ov_fieldAddr Tryz.underlying95 rfl rfl rfl Tryz.sizeOf41 rfl rfl) ?_
   refine tq (i := 1) rfl (by kernel_rfl) rfl rfl rfl (ov_load_boxes (i := 0) (vs := [(.slice ao2 r1.1.m.items.length cap2), (.int .i64 r1.1.m.cycles)]) Tryz.isAgg41 Tryz.sizeOf41 rfl rfl rfl rfl (part_of rfl)) ?_
   refine tq (i := 2) rfl (by kernel_rfl) rfl rfl rfl (ov_fieldAddr Tryz.underlying95 rfl rfl rfl Tryz.sizeOf3 rfl rfl) ?_
   refine tq (i := 3) rfl (by kernel_rfl) rfl rfl rfl (ov_load_box (i := 0) Tryz.isAgg3 rfl rfl rfl rfl) ?_
   refine AL.any (rs := [4]) (by kernel_rfl) (by decide) ?_
   refine ALs.cons0 (i := 4) rfl (Runs.free rfl) rfl ?_ ?_
   ·
    skip
    refine os_store (i := 1) (vs := [(.slice ao2 r1.1.m.items.length cap2), (.int .i64 r1.1.m.cycles)]) (cs' := [(.slice ao2 r1.1.m.items.length cap2), (.int .i64 r1.1.m.cycles)]) Tryz.sizeOf41 rfl rfl rfl rfl rfl rfl rfl rfl rfl ?_
    refine ⟨fun w' s => (s.select [0] (by decide) rfl), ?_⟩
    refine tq (i := 5) rfl (by kernel_rfl) rfl rfl rfl (ov_assign rfl rfl) ?_
    refine tq (i := 6) rfl (by kernel_rfl) rfl rfl rfl (ov_assign rfl rfl) ?_
    refine AL.done (by kernel_rfl) ?_
    refine then_normal (WP.ret ?_)
    obtain rfl := Option.some.inj hm
    refine retQ_ret Tryz.results15 (Res.cell rfl (box_loads (i := 1) Tryz.isAgg41 Tryz.sizeOf41 rfl rfl) (Res.tmp rfl (Res.tmp rfl Res.nil))) rfl (fun w' s => ⟨s.below, ?_⟩)
    exact ⟨ao2, cap2, rfl, h2.mono s.le_newer, hc3⟩
   exact ALs.nil

theorem ref58_end_con (p_s : (List UInt8)) (p_at : Int) (w : World) (H : Heap) (hH : Le H (hp w)) (hG : Glob H) (r : Int) (hm : ref58_end p_s p_at = some r) :
  Con Tryz.prog 83 [(mkS p_s), (.int .i64 p_at)] w H (fun v _ => v = (.int .i64 r)) := by
 unfold ref58_end at hm
 refine con_of hH Tryz.func83 rfl 18 Tryz.ntmps83 rfl ?_
 refine WP.seq (WP.region ?_)
 refine wq rfl rfl rfl (ov_assign rfl rfl) ?_
 refine WL.nil (then_normal ?_)
 obtain ⟨k1, hk1, hm⟩ := joinK_some hm
 refine WP.seq_join (fun g' S' => Sub [(1000000007, (.bool false))] g' ∧ (∀ w', S' w' → St w H [] H w') ∧ k1 = some r) ?_ ?_
 ·
  skip
  refine WP.seq (WP.region ?_)
  refine wq rfl rfl rfl (ov_move rfl rfl) ?_
  refine wq rfl rfl rfl (ov_assign rfl rfl) ?_
  refine WL.nil (then_normal (WP.block ?_))
  refine WP.loop (fun m1 g' S' => ∃ (i1 : Int), Sub [(0, (mkS p_s)), (5, (.int .i64 i1)), (1000000007, (.bool false))] g' ∧ (∀ w', S' w' → St w H [] H w') ∧ ref58_end_loop1 p_s k1 m1 i1 = some r) ((Int.toNat ((p_s.length : Int) - p_at) + 1)) ⟨p_at, (Sub.cons rfl (Sub.cons rfl (Sub.cons rfl (Sub.nil _)))), fun w' s => s, hm⟩ ?_ ?_
  ·
   rintro g' S' ⟨_, _, _, hm⟩
   exact none_some hm
  ·
   rintro m1 g' S' ⟨i1, hsub1, hS1, hm⟩
   refine WP.sub hsub1 (WP.weaken hS1 ?_)
   rw [ref58_end_loop1] at hm
   refine WP.seq (WP.seq (WP.region ?_))
   refine wq rfl rfl rfl (ov_move rfl rfl) ?_
   refine wq rfl rfl rfl (ov_move rfl rfl) ?_
   refine wq rfl rfl rfl (ov_len_string Tryz.underlying9 rfl rfl) ?_
   refine wq rfl rfl rfl (ov_lss rfl rfl rfl) ?_
   refine WL.nil (then_normal ?_)
   refine WP.cond rfl (fun hc1 => ?_) (fun hc1 => ?_)
   ·
    replace hm := ite_t hc1 hm
    refine WP.skip (then_normal (WP.seq (WP.block (WP.seq (WP.region ?_)))))
    refine wq rfl rfl rfl (ov_move rfl rfl) ?_
    refine wq rfl rfl rfl (ov_move rfl rfl) ?_
    obtain ⟨b1, e1, hm⟩ := bind_some hm
    refine wq rfl rfl rfl (ov_index_string Tryz.underlying9 rfl rfl rfl e1) ?_
    refine wq rfl rfl rfl (ov_eql rfl rfl rfl) ?_
    refine WL.nil (then_normal ?_)
    refine WP.cond rfl (fun hc2 => ?_) (fun hc2 => ?_)
    ·
     replace hm := ite_t hc2 hm
     refine WP.seq (WP.region ?_)
     refine wq rfl rfl rfl (ov_move rfl rfl) ?_
     refine wq rfl rfl rfl (ov_assign rfl rfl) ?_
     refine WL.nil (then_normal (WP.ret (block_ret (then_ret (then_ret (block_ret (then_ret ?_)))))))
     obtain rfl := Option.some.inj hm
     refine retQ_ret Tryz.results83 (Res.tmp rfl Res.nil) rfl (fun w' s => ⟨s.below, ?_⟩)
     exact rfl
    ·
     replace hm := ite_f hc2 hm
     refine WP.skip (block_normal (then_normal (WP.region ?_)))
     refine wq rfl rfl rfl (ov_move rfl rfl) ?_
     refine wq rfl rfl rfl (ov_add rfl rfl rfl) ?_
     refine wq rfl rfl rfl (ov_assign rfl rfl) ?_
     refine WL.nil (then_normal ?_)
     exact ⟨(IntKind.wrap .i64 (i1 + 1)), (Sub.cons rfl (Sub.cons rfl (Sub.cons rfl (Sub.nil _)))), fun w' s => s, hm⟩
   ·
    replace hm := ite_f hc1 hm
    refine WP.exit (then_exit (then_exit (block_here (then_normal ?_))))
    exact ⟨(Sub.cons rfl (Sub.nil _)), fun w' s => s, hm⟩
 ·
  rintro g' S' ⟨hsub2, hS2, hm⟩
  refine WP.sub hsub2 (WP.weaken hS2 ?_)
  replace hm := hk1.symm.trans hm
  refine WP.seq (WP.region ?_)
  refine wq rfl rfl rfl (ov_assign rfl rfl) ?_
  refine WL.nil (then_normal (WP.ret ?_))
  obtain rfl := Option.some.inj hm
  refine retQ_ret Tryz.results83 (Res.tmp rfl Res.nil) rfl (fun w' s => ⟨s.below, ?_⟩)
  exact rfl

theorem ref58_front_con (p_line : (List UInt8)) (w : World) (H : Heap) (hH : Le H (hp w)) (hG : Glob H) (r : ((List UInt8) × Bool)) (hm : ref58_front p_line = some r) :
  Con Tryz.prog 84 [(mkS p_line)] w H (fun v _ => v = (.tuple #[(mkS r.1), (.bool r.2)])) := by
 unfold ref58_front at hm
 refine con_of hH Tryz.func84 rfl 21 Tryz.ntmps84 rfl ?_
 refine WP.seq (WP.region ?_)
 refine wq rfl rfl rfl (ov_assign rfl rfl) ?_
 refine wq rfl rfl rfl (ov_assign rfl rfl) ?_
 refine WL.nil (then_normal ?_)
 obtain ⟨k1, hk1, hm⟩ := joinK_some hm
 refine WP.seq_join (fun g' S' => Sub [(1000000007, (.bool false))] g' ∧ (∀ w', S' w' → St w H [] H w') ∧ k1 = some r) ?_ ?_
 ·
  skip
  refine WP.seq (WP.region ?_)
  refine wq rfl rfl rfl (ov_move rfl rfl) ?_
  refine wq rfl rfl rfl (ov_len_string Tryz.underlying9 rfl rfl) ?_
  refine wq rfl rfl rfl (ov_sub rfl rfl rfl) ?_
  refine wq rfl rfl rfl (ov_assign rfl rfl) ?_
  refine WL.nil (then_normal (WP.block ?_))
  refine WP.loop (fun m1 g' S' => ∃ (i1 : Int), Sub [(0, (mkS p_line)), (4, (.int .i64 i1)), (1000000007, (.bool false))] g' ∧ (∀ w', S' w' → St w H [] H w') ∧ ref58_front_loop1 p_line k1 m1 i1 = some r) ((p_line.length + 1)) ⟨(IntKind.wrap .i64 ((p_line.length : Int) - 3)), (Sub.cons rfl (Sub.cons rfl (Sub.cons rfl (Sub.nil _)))), fun w' s => s, hm⟩ ?_ ?_
  ·
   rintro g' S' ⟨_, _, _, hm⟩
   exact none_some hm
  ·
   rintro m1 g' S' ⟨i1, hsub1, hS1, hm⟩
   refine WP.sub hsub1 (WP.weaken hS1 ?_)
   rw [ref58_front_loop1] at hm
   refine WP.seq (WP.seq (WP.region ?_))
   refine wq rfl rfl rfl (ov_move rfl rfl) ?_
   refine wq rfl rfl rfl (ov_geq rfl rfl rfl) ?_
   refine WL.nil (then_normal ?_)
   refine WP.cond rfl (fun hc1 => ?_) (fun hc1 => ?_)
   ·
    replace hm := ite_t hc1 hm
    refine WP.skip (then_normal (WP.seq (WP.block (WP.seq (WP.region ?_)))))
    refine wq rfl rfl rfl (ov_move rfl rfl) ?_
    refine wq rfl rfl rfl (ov_move rfl rfl) ?_
    refine wq rfl rfl rfl (ov_move rfl rfl) ?_
    refine wq rfl rfl rfl (ov_add rfl rfl rfl) ?_
    obtain ⟨s1, e1, hm⟩ := bind_some hm
    refine wq rfl rfl rfl (ov_slice_string Tryz.underlying9 rfl rfl rfl rfl e1) ?_
    refine wq rfl rfl rfl (ov_seql rfl rfl rfl) ?_
    refine WL.nil (then_normal ?_)
    refine WP.cond rfl (fun hc2 => ?_) (fun hc2 => ?_)
    ·
     replace hm := ite_t hc2 hm
     refine WP.seq (WP.region ?_)
     refine wq rfl rfl rfl (ov_move rfl rfl) ?_
     refine wq rfl rfl rfl (ov_move rfl rfl) ?_
     obtain ⟨s2, e2, hm⟩ := bind_some hm
     refine wq rfl rfl rfl (ov_slice_string_to Tryz.underlying9 rfl rfl rfl e2) ?_
     refine wq rfl rfl rfl (ov_assign rfl rfl) ?_
     refine wq rfl rfl rfl (ov_assign rfl rfl) ?_
     refine WL.nil (then_normal (WP.ret (block_ret (then_ret (then_ret (block_ret (then_ret ?_)))))))
     obtain rfl := Option.some.inj hm
     refine retQ_ret Tryz.results84 (Res.tmp rfl (Res.tmp rfl Res.nil)) rfl (fun w' s => ⟨s.below, ?_⟩)
     exact rfl
    ·
     replace hm := ite_f hc2 hm
     refine WP.skip (block_normal (then_normal (WP.region ?_)))
     refine wq rfl rfl rfl (ov_move rfl rfl) ?_
     refine wq rfl rfl rfl (ov_sub rfl rfl rfl) ?_
     refine wq rfl rfl rfl (ov_assign rfl rfl) ?_
     refine WL.nil (then_normal ?_)
     exact ⟨(IntKind.wrap .i64 (i1 - 1)), (Sub.cons rfl (Sub.cons rfl (Sub.cons rfl (Sub.nil _)))), fun w' s => s, hm⟩
   ·
    replace hm := ite_f hc1 hm
    refine WP.exit (then_exit (then_exit (block_here (then_normal ?_))))
    exact ⟨(Sub.cons rfl (Sub.nil _)), fun w' s => s, hm⟩
 ·
  rintro g' S' ⟨hsub2, hS2, hm⟩
  refine WP.sub hsub2 (WP.weaken hS2 ?_)
  replace hm := hk1.symm.trans hm
  refine WP.seq (WP.region ?_)
  refine wq rfl rfl rfl (ov_assign rfl rfl) ?_
  refine wq rfl rfl rfl (ov_assign rfl rfl) ?_
  refine WL.nil (then_normal (WP.ret ?_))
  obtain rfl := Option.some.inj hm
  refine retQ_ret Tryz.results84 (Res.tmp rfl (Res.tmp rfl Res.nil)) rfl (fun w' s => ⟨s.below, ?_⟩)
  exact rfl

theorem ref58_Line_con (p_before : Int) (p_s : (List UInt8)) (w : World) (H : Heap) (hH : Le H (hp w)) (hG : Glob H) (r : ((List UInt8) × Int)) (hm : ref58_Line p_before p_s = some r) :
  Con Tryz.prog 85 [(.int .i64 p_before), (mkS p_s)] w H (fun v _ => v = (.tuple #[(mkS r.1), (.int .i64 r.2)])) := by
 unfold ref58_Line at hm
 refine con_of hH Tryz.func85 rfl 17 Tryz.ntmps85 rfl ?_
 refine WP.seq (WP.region ?_)
 refine wq rfl rfl rfl (ov_assign rfl rfl) ?_
 refine wq rfl rfl rfl (ov_assign rfl rfl) ?_
 refine WL.nil (then_normal (WP.seq (WP.region ?_)))
 refine wq rfl rfl rfl (ov_move rfl rfl) ?_
 refine wq rfl rfl rfl (ov_move rfl rfl) ?_
 obtain ⟨r1, e1, hm⟩ := bind_some hm
 refine WL.quiet (Runs.free rfl) rfl rfl (oq_con (r := (.int .i64 r1)) Tryz.call31 rfl rfl (fun w' s => ⟨_, (ref58_Mark_con p_before p_s  w' H s.hold hG r1 e1)⟩)) ?_
 refine wq rfl rfl rfl (ov_assign rfl rfl) ?_
 refine WL.nil (then_normal (WP.seq (WP.region ?_)))
 refine wq rfl rfl rfl (ov_move rfl rfl) ?_
 obtain ⟨s1, e2, hm⟩ := bind_some hm
 refine wq rfl rfl rfl (ov_sadd' e2 rfl rfl rfl) ?_
 refine wq rfl rfl rfl (ov_move rfl rfl) ?_
 obtain ⟨r2, e3, hm⟩ := bind_some hm
 refine WL.quiet (Runs.free rfl) rfl rfl (oq_con (r := (mkS r2)) Tryz.call30 rfl rfl (fun w' s => ⟨_, (ref12_Digits_con r1  w' H s.hold hG r2 e3)⟩)) ?_
 obtain ⟨s2, e4, hm⟩ := bind_some hm
 refine wq rfl rfl rfl (ov_sadd' e4 rfl rfl rfl) ?_
 obtain ⟨s3, e5, hm⟩ := bind_some hm
 refine wq rfl rfl rfl (ov_sadd' e5 rfl rfl rfl) ?_
 refine wq rfl rfl rfl (ov_move rfl rfl) ?_
 refine wq rfl rfl rfl (ov_assign rfl rfl) ?_
 refine wq rfl rfl rfl (ov_assign rfl rfl) ?_
 refine WL.nil (then_normal (WP.ret ?_))
 obtain rfl := Option.some.inj hm
 refine retQ_ret Tryz.results85 (Res.tmp rfl (Res.tmp rfl Res.nil)) rfl (fun w' s => ⟨s.below, ?_⟩)
 exact rfl

theorem ref58_item_con (p_x : Item) (p_cycles : Int) (w : World) (H : Heap) (hH : Le H (hp w)) (hG : Glob H) (r : Int) (hm : ref58_item p_x p_cycles = some r) :
  Con Tryz.prog 127 [(.agg #[(mkS p_x.name), (.int .i64 p_x.life), (.int .i64 p_x.used), (.int .i64 p_x.faults), (.bool p_x.faulty), (.int .i64 p_x.since), (.int .i64 p_x.cycles)]), (.int .i64 p_cycles)] w H (fun v _ => v = (.int .i64 r)) := by
 unfold ref58_item at hm
 refine con_of hH Tryz.func127 rfl 49 Tryz.ntmps127 rfl ?_
 refine WP.seq (WP.region ?_)
 refine WL.step (Runs.free rfl) rfl rfl (os_box (cs := [(mkS p_x.name), (.int .i64 p_x.life), (.int .i64 p_x.used), (.int .i64 p_x.faults), (.bool p_x.faulty), (.int .i64 p_x.since), (.int .i64 p_x.cycles)]) rfl rfl rfl (fun b1 => ?_))
 refine wq rfl rfl rfl (ov_assign rfl rfl) ?_
 refine WL.nil (then_normal (WP.seq (WP.seq (WP.region ?_))))
 refine wq rfl rfl rfl (ov_fieldAddr Tryz.underlying100 rfl rfl rfl Tryz.sizeOf3 rfl rfl) ?_
 refine wq rfl rfl rfl (ov_load_box (i := 0) Tryz.isAgg3 rfl rfl rfl rfl) ?_
 obtain ⟨r1, e1, hm⟩ := bind_some hm
 refine WL.quiet (Runs.free rfl) rfl rfl (oq_con (r := (.bool r1)) Tryz.call44 rfl rfl (fun w' s => ⟨_, (ref58_in_con p_x.life 1 1048576  w' H s.hold hG r1 e1)⟩)) ?_
 refine wq rfl rfl rfl (ov_not rfl rfl) ?_
 refine wq rfl rfl rfl (ov_move rfl rfl) ?_
 obtain ⟨c1, e2, hm⟩ := bind_some hm
 refine WL.cut_bool 5 14 (x := c1) ?_ ?_
 ·
  rcases Bool.eq_false_or_eq_true (!r1) with hc1 | hc1
  ·
   skip
   replace hm := ite_t hc1 e2
   refine WL.idle (Idle.no rfl rfl rfl hc1) rfl rfl ?_
   refine WL.idle (Idle.no rfl rfl rfl hc1) rfl rfl ?_
   refine WL.idle (Idle.no rfl rfl rfl hc1) rfl rfl ?_
   refine WL.idle (Idle.no rfl rfl rfl hc1) rfl rfl ?_
   refine wq rfl rfl rfl (ov_pick_true rfl (guard_eq rfl hc1) rfl) ?_
   exact WL.nil ⟨Sub.cons' rfl (congrArg Value.bool (Option.some.inj hm)) (Sub.skip rfl (Sub.skip rfl (Sub.skip rfl (Sub.skip rfl (Sub.skip rfl (Sub.refl _)))))), fun _ s => s⟩
  ·
   skip
   replace hm := ite_f hc1 e2
   refine WL.quiet (Runs.yes rfl rfl rfl hc1) rfl rfl (OV.quiet (ov_fieldAddr Tryz.underlying100 rfl rfl rfl Tryz.sizeOf3 rfl rfl)) ?_
   refine WL.quiet (Runs.yes rfl rfl rfl hc1) rfl rfl (OV.quiet (ov_load_box (i := 0) Tryz.isAgg3 rfl rfl rfl rfl)) ?_
   obtain ⟨r2, e3, hm⟩ := bind_some hm
   refine WL.quiet (Runs.yes rfl rfl rfl hc1) rfl rfl (oq_con (r := (.bool r2)) Tryz.call44 rfl rfl (fun w' s => ⟨_, (ref58_in_con p_x.used 0 1048576  w' H s.hold hG r2 e3)⟩)) ?_
   refine WL.quiet (Runs.yes rfl rfl rfl hc1) rfl rfl (OV.quiet (ov_not rfl rfl)) ?_
   refine wq rfl rfl rfl (ov_pick_false rfl (guard_eq rfl hc1) rfl) ?_
   exact WL.nil ⟨Sub.cons' rfl (congrArg Value.bool (Option.some.inj hm)) (Sub.skip rfl (Sub.skip rfl (Sub.skip rfl (Sub.skip rfl (Sub.skip rfl (Sub.refl _)))))), fun _ s => s⟩
 refine wq rfl rfl rfl (ov_move rfl rfl) ?_
 obtain ⟨c2, e4, hm⟩ := bind_some hm
 refine WL.cut_bool 5 20 (x := c2) ?_ ?_
 ·
  rcases Bool.eq_false_or_eq_true c1 with hc2 | hc2
  ·
   skip
   replace hm := ite_t hc2 e4
   refine WL.idle (Idle.no rfl rfl rfl hc2) rfl rfl ?_
   refine WL.idle (Idle.no rfl rfl rfl hc2) rfl rfl ?_
   refine WL.idle (Idle.no rfl rfl rfl hc2) rfl rfl ?_
   refine WL.idle (Idle.no rfl rfl rfl hc2) rfl rfl ?_
   refine wq rfl rfl rfl (ov_pick_true rfl (guard_eq rfl hc2) rfl) ?_
   exact WL.nil ⟨Sub.cons' rfl (congrArg Value.bool (Option.some.inj hm)) (Sub.skip rfl (Sub.skip rfl (Sub.skip rfl (Sub.skip rfl (Sub.skip rfl (Sub.refl _)))))), fun _ s => s⟩
  ·
   skip
   replace hm := ite_f hc2 e4
   refine WL.quiet (Runs.yes rfl rfl rfl hc2) rfl rfl (OV.quiet (ov_fieldAddr Tryz.underlying100 rfl rfl rfl Tryz.sizeOf3 rfl rfl)) ?_
   refine WL.quiet (Runs.yes rfl rfl rfl hc2) rfl rfl (OV.quiet (ov_load_box (i := 0) Tryz.isAgg3 rfl rfl rfl rfl)) ?_
   obtain ⟨r3, e5, hm⟩ := bind_some hm
   refine WL.quiet (Runs.yes rfl rfl rfl hc2) rfl rfl (oq_con (r := (.bool r3)) Tryz.call44 rfl rfl (fun w' s => ⟨_, (ref58_in_con p_x.faults 0 4096  w' H s.hold hG r3 e5)⟩)) ?_
   refine WL.quiet (Runs.yes rfl rfl rfl hc2) rfl rfl (OV.quiet (ov_not rfl rfl)) ?_
   refine wq rfl rfl rfl (ov_pick_false rfl (guard_eq rfl hc2) rfl) ?_
   exact WL.nil ⟨Sub.cons' rfl (congrArg Value.bool (Option.some.inj hm)) (Sub.skip rfl (Sub.skip rfl (Sub.skip rfl (Sub.skip rfl (Sub.skip rfl (Sub.refl _)))))), fun _ s => s⟩
 refine WL.nil (then_normal ?_)
 refine WP.cond rfl (fun hc3 => ?_) (fun hc3 => ?_)
 ·
  replace hm := ite_t hc3 hm
  refine WP.seq (WP.region ?_)
  refine wq rfl rfl rfl (ov_assign rfl rfl) ?_
  refine WL.nil (then_normal (WP.ret (then_ret ?_)))
  obtain rfl := Option.some.inj hm
  refine retQ_ret Tryz.results127 (Res.tmp rfl Res.nil) rfl (fun w' s => ⟨s.below, ?_⟩)
  exact rfl
 ·
  replace hm := ite_f hc3 hm
  refine WP.skip (then_normal (WP.seq (WP.seq (WP.region ?_))))
  refine wq rfl rfl rfl (ov_fieldAddr Tryz.underlying100 rfl rfl rfl Tryz.sizeOf3 rfl rfl) ?_
  refine wq rfl rfl rfl (ov_load_box (i := 0) Tryz.isAgg3 rfl rfl rfl rfl) ?_
  refine wq rfl rfl rfl (ov_move rfl rfl) ?_
  obtain ⟨r4, e6, hm⟩ := bind_some hm
  refine WL.quiet (Runs.free rfl) rfl rfl (oq_con (r := (.bool r4)) Tryz.call44 rfl rfl (fun w' s => ⟨_, (ref58_in_con p_x.since 0 p_cycles  w' H s.hold hG r4 e6)⟩)) ?_
  refine wq rfl rfl rfl (ov_not rfl rfl) ?_
  refine wq rfl rfl rfl (ov_move rfl rfl) ?_
  obtain ⟨c3, e7, hm⟩ := bind_some hm
  refine WL.cut_bool 6 32 (x := c3) ?_ ?_
  ·
   rcases Bool.eq_false_or_eq_true (!r4) with hc4 | hc4
   ·
    skip
    replace hm := ite_t hc4 e7
    refine WL.idle (Idle.no rfl rfl rfl hc4) rfl rfl ?_
    refine WL.idle (Idle.no rfl rfl rfl hc4) rfl rfl ?_
    refine WL.idle (Idle.no rfl rfl rfl hc4) rfl rfl ?_
    refine WL.idle (Idle.no rfl rfl rfl hc4) rfl rfl ?_
    refine WL.idle (Idle.no rfl rfl rfl hc4) rfl rfl ?_
    refine wq rfl rfl rfl (ov_pick_true rfl (guard_eq rfl hc4) rfl) ?_
    exact WL.nil ⟨Sub.cons' rfl (congrArg Value.bool (Option.some.inj hm)) (Sub.skip rfl (Sub.skip rfl (Sub.skip rfl (Sub.skip rfl (Sub.skip rfl (Sub.skip rfl (Sub.refl _))))))), fun _ s => s⟩
   ·
    skip
    replace hm := ite_f hc4 e7
    refine WL.quiet (Runs.yes rfl rfl rfl hc4) rfl rfl (OV.quiet (ov_fieldAddr Tryz.underlying100 rfl rfl rfl Tryz.sizeOf3 rfl rfl)) ?_
    refine WL.quiet (Runs.yes rfl rfl rfl hc4) rfl rfl (OV.quiet (ov_load_box (i := 0) Tryz.isAgg3 rfl rfl rfl rfl)) ?_
    refine WL.quiet (Runs.yes rfl rfl rfl hc4) rfl rfl (OV.quiet (ov_move rfl rfl)) ?_
    obtain ⟨r5, e8, hm⟩ := bind_some hm
    refine WL.quiet (Runs.yes rfl rfl rfl hc4) rfl rfl (oq_con (r := (.bool r5)) Tryz.call44 rfl rfl (fun w' s => ⟨_, (ref58_in_con p_x.cycles 0 p_cycles  w' H s.hold hG r5 e8)⟩)) ?_
    refine WL.quiet (Runs.yes rfl rfl rfl hc4) rfl rfl (OV.quiet (ov_not rfl rfl)) ?_
    refine wq rfl rfl rfl (ov_pick_false rfl (guard_eq rfl hc4) rfl) ?_
    exact WL.nil ⟨Sub.cons' rfl (congrArg Value.bool (Option.some.inj hm)) (Sub.skip rfl (Sub.skip rfl (Sub.skip rfl (Sub.skip rfl (Sub.skip rfl (Sub.skip rfl (Sub.refl _))))))), fun _ s => s⟩
  refine wq rfl rfl rfl (ov_move rfl rfl) ?_
  refine WL.cut_bool 8 41 (x := (c3 || (decide ((IntKind.wrap .i64 (p_x.since + p_x.cycles)) > p_cycles)))) ?_ ?_
  ·
   rcases Bool.eq_false_or_eq_true c3 with hc5 | hc5
   ·
    skip
    refine WL.idle (Idle.no rfl rfl rfl hc5) rfl rfl ?_
    refine WL.idle (Idle.no rfl rfl rfl hc5) rfl rfl ?_
    refine WL.idle (Idle.no rfl rfl rfl hc5) rfl rfl ?_
    refine WL.idle (Idle.no rfl rfl rfl hc5) rfl rfl ?_
    refine WL.idle (Idle.no rfl rfl rfl hc5) rfl rfl ?_
    refine WL.idle (Idle.no rfl rfl rfl hc5) rfl rfl ?_
    refine WL.idle (Idle.no rfl rfl rfl hc5) rfl rfl ?_
    refine wq rfl rfl rfl (ov_pick_true rfl (guard_eq rfl hc5) rfl) ?_
    exact WL.nil ⟨Sub.cons' rfl (congrArg Value.bool (orT hc5)) (Sub.skip rfl (Sub.skip rfl (Sub.skip rfl (Sub.skip rfl (Sub.skip rfl (Sub.skip rfl (Sub.skip rfl (Sub.skip rfl (Sub.refl _))))))))), fun _ s => s⟩
   ·
    skip
    refine WL.quiet (Runs.yes rfl rfl rfl hc5) rfl rfl (OV.quiet (ov_fieldAddr Tryz.underlying100 rfl rfl rfl Tryz.sizeOf3 rfl rfl)) ?_
    refine WL.quiet (Runs.yes rfl rfl rfl hc5) rfl rfl (OV.quiet (ov_load_box (i := 0) Tryz.isAgg3 rfl rfl rfl rfl)) ?_
    refine WL.quiet (Runs.yes rfl rfl rfl hc5) rfl rfl (OV.quiet (ov_fieldAddr Tryz.underlying100 rfl rfl rfl Tryz.sizeOf3 rfl rfl)) ?_
    refine WL.quiet (Runs.yes rfl rfl rfl hc5) rfl rfl (OV.quiet (ov_load_box (i := 0) Tryz.isAgg3 rfl rfl rfl rfl)) ?_
    refine WL.quiet (Runs.yes rfl rfl rfl hc5) rfl rfl (OV.quiet (ov_add rfl rfl rfl)) ?_
    refine WL.quiet (Runs.yes rfl rfl rfl hc5) rfl rfl (OV.quiet (ov_move rfl rfl)) ?_
    refine WL.quiet (Runs.yes rfl rfl rfl hc5) rfl rfl (OV.quiet (ov_gtr rfl rfl rfl)) ?_
    refine wq rfl rfl rfl (ov_pick_false rfl (guard_eq rfl hc5) rfl) ?_
    exact WL.nil ⟨Sub.cons' rfl (congrArg Value.bool (orF hc5)) (Sub.skip rfl (Sub.skip rfl (Sub.skip rfl (Sub.skip rfl (Sub.skip rfl (Sub.skip rfl (Sub.skip rfl (Sub.skip rfl (Sub.refl _))))))))), fun _ s => s⟩
  refine WL.nil (then_normal ?_)
  refine WP.cond rfl (fun hc6 => ?_) (fun hc6 => ?_)
  ·
   replace hm := ite_t hc6 hm
   refine WP.seq (WP.region ?_)
   refine wq rfl rfl rfl (ov_assign rfl rfl) ?_
   refine WL.nil (then_normal (WP.ret (then_ret ?_)))
   obtain rfl := Option.some.inj hm
   refine retQ_ret Tryz.results127 (Res.tmp rfl Res.nil) rfl (fun w' s => ⟨s.below, ?_⟩)
   exact rfl
  ·
   replace hm := ite_f hc6 hm
   refine WP.skip (then_normal (WP.seq (WP.seq (WP.region ?_))))
   refine wq rfl rfl rfl (ov_fieldAddr Tryz.underlying100 rfl rfl rfl Tryz.sizeOf4 rfl rfl) ?_
   refine wq rfl rfl rfl (ov_load_box (i := 0) Tryz.isAgg4 rfl rfl rfl rfl) ?_
   refine wq rfl rfl rfl (ov_move rfl rfl) ?_
   refine WL.cut_bool 4 48 (x := (p_x.faulty && (p_x.faults == 0))) ?_ ?_
   ·
    rcases Bool.eq_false_or_eq_true p_x.faulty with hc7 | hc7
    ·
     skip
     refine WL.quiet (Runs.yes rfl rfl rfl hc7) rfl rfl (OV.quiet (ov_fieldAddr Tryz.underlying100 rfl rfl rfl Tryz.sizeOf3 rfl rfl)) ?_
     refine WL.quiet (Runs.yes rfl rfl rfl hc7) rfl rfl (OV.quiet (ov_load_box (i := 0) Tryz.isAgg3 rfl rfl rfl rfl)) ?_
     refine WL.quiet (Runs.yes rfl rfl rfl hc7) rfl rfl (OV.quiet (ov_eql rfl rfl rfl)) ?_
     refine wq rfl rfl rfl (ov_pick_true rfl (guard_eq rfl hc7) rfl) ?_
     exact WL.nil ⟨Sub.cons' rfl (congrArg Value.bool (andT hc7)) (Sub.skip rfl (Sub.skip rfl (Sub.skip rfl (Sub.skip rfl (Sub.refl _))))), fun _ s => s⟩
    ·
     skip
     refine WL.idle (Idle.no rfl rfl rfl hc7) rfl rfl ?_
     refine WL.idle (Idle.no rfl rfl rfl hc7) rfl rfl ?_
     refine WL.idle (Idle.no rfl rfl rfl hc7) rfl rfl ?_
     refine wq rfl rfl rfl (ov_pick_false rfl (guard_eq rfl hc7) rfl) ?_
     exact WL.nil ⟨Sub.cons' rfl (congrArg Value.bool (andF hc7)) (Sub.skip rfl (Sub.skip rfl (Sub.skip rfl (Sub.skip rfl (Sub.refl _))))), fun _ s => s⟩
   refine WL.nil (then_normal ?_)
   refine WP.cond rfl (fun hc8 => ?_) (fun hc8 => ?_)
   ·
    replace hm := ite_t hc8 hm
    refine WP.seq (WP.region ?_)
    refine wq rfl rfl rfl (ov_assign rfl rfl) ?_
    refine WL.nil (then_normal (WP.ret (then_ret ?_)))
    obtain rfl := Option.some.inj hm
    refine retQ_ret Tryz.results127 (Res.tmp rfl Res.nil) rfl (fun w' s => ⟨s.below, ?_⟩)
    exact rfl
   ·
    replace hm := ite_f hc8 hm
    refine WP.skip (then_normal (WP.seq (WP.region ?_)))
    refine wq rfl rfl rfl (ov_assign rfl rfl) ?_
    refine WL.nil (then_normal (WP.ret ?_))
    obtain rfl := Option.some.inj hm
    refine retQ_ret Tryz.results127 (Res.tmp rfl Res.nil) rfl (fun w' s => ⟨s.below, ?_⟩)
    exact rfl

theorem ref58_Check_con (p_m : Machine) (ao1 : Option Addr) (cap1 : Nat) (w : World) (H : Heap) (hH : Le H (hp w)) (h1 : SL H encItem ao1 p_m.items) (hc1 : p_m.items.length ≤ cap1) (hG : Glob H) (r : Int) (hm : ref58_Check p_m = some r) :
  Con Tryz.prog 107 [(.agg #[(.slice ao1 p_m.items.length cap1), (.int .i64 p_m.cycles)])] w H (fun v _ => v = (.int .i64 r)) := by
 unfold ref58_Check at hm
 refine con_of hH Tryz.func107 rfl 60 Tryz.ntmps107 rfl ?_
 refine WP.seq (WP.region ?_)
 refine WL.step (Runs.free rfl) rfl rfl (os_box (cs := [(.slice ao1 p_m.items.length cap1), (.int .i64 p_m.cycles)]) rfl rfl rfl (fun b1 => ?_))
 refine wq rfl rfl rfl (ov_assign rfl rfl) ?_
 refine WL.nil (then_normal (WP.seq (WP.seq (WP.region ?_))))
 refine wq rfl rfl rfl (ov_fieldAddr Tryz.underlying46 rfl rfl rfl Tryz.sizeOf3 rfl rfl) ?_
 refine wq rfl rfl rfl (ov_load_box (i := 0) Tryz.isAgg3 rfl rfl rfl rfl) ?_
 obtain ⟨r1, e1, hm⟩ := bind_some hm
 refine WL.quiet (Runs.free rfl) rfl rfl (oq_con (r := (.bool r1)) Tryz.call44 rfl rfl (fun w' s => ⟨_, (ref58_in_con p_m.cycles 0 1048576  w' H s.hold hG r1 e1)⟩)) ?_
 refine wq rfl rfl rfl (ov_not rfl rfl) ?_
 refine WL.nil (then_normal ?_)
 refine WP.cond rfl (fun hc2 => ?_) (fun hc2 => ?_)
 ·
  replace hm := ite_t hc2 hm
  refine WP.seq (WP.region ?_)
  refine wq rfl rfl rfl (ov_assign rfl rfl) ?_
  refine WL.nil (then_normal (WP.ret (then_ret ?_)))
  obtain rfl := Option.some.inj hm
  refine retQ_ret Tryz.results107 (Res.tmp rfl Res.nil) rfl (fun w' s => ⟨s.below, ?_⟩)
  exact rfl
 ·
  replace hm := ite_f hc2 hm
  refine WP.skip (then_normal (WP.seq (WP.seq (WP.region ?_))))
  refine wq rfl rfl rfl (ov_fieldAddr Tryz.underlying46 rfl rfl rfl Tryz.sizeOf44 rfl rfl) ?_
  refine wq rfl rfl rfl (ov_load_box (i := 0) Tryz.isAgg44 rfl rfl rfl rfl) ?_
  refine wq rfl rfl rfl (ov_len_slice Tryz.underlying44 rfl rfl) ?_
  refine wq rfl rfl rfl (ov_gtr rfl rfl rfl) ?_
  refine WL.nil (then_normal ?_)
  refine WP.cond rfl (fun hc3 => ?_) (fun hc3 => ?_)
  ·
   replace hm := ite_t hc3 hm
   refine WP.seq (WP.region ?_)
   refine wq rfl rfl rfl (ov_assign rfl rfl) ?_
   refine WL.nil (then_normal (WP.ret (then_ret ?_)))
   obtain rfl := Option.some.inj hm
   refine retQ_ret Tryz.results107 (Res.tmp rfl Res.nil) rfl (fun w' s => ⟨s.below, ?_⟩)
   exact rfl
  ·
   replace hm := ite_f hc3 hm
   refine WP.skip (then_normal ?_)
   obtain ⟨k1, hk1, hm⟩ := joinK_some hm
   refine WP.seq_join (fun g' S' => Sub [(1000000007, (.bool false))] g' ∧ (∀ w', S' w' → St w H [] H w') ∧ k1 = some r) ?_ ?_
   ·
    skip
    refine WP.seq (WP.region ?_)
    refine wq rfl rfl rfl (ov_assign rfl rfl) ?_
    refine WL.nil (then_normal (WP.block ?_))
    refine WP.loop (fun m1 g' S' => ∃ (i1 : Int), Sub [(1, (pB b1 0)), (3, (.int .i64 i1)), (1000000007, (.bool false))] g' ∧ (∀ w', S' w' → St w H [.blk b1 46 [(.slice ao1 p_m.items.length cap1), (.int .i64 p_m.cycles)]] H w') ∧ ref58_Check_loop1 p_m k1 m1 i1 = some r) ((Int.toNat ((p_m.items.length : Int) - 0) + 1)) ⟨0, (Sub.cons rfl (Sub.cons rfl (Sub.cons rfl (Sub.nil _)))), fun w' s => s, hm⟩ ?_ ?_
    ·
     rintro g' S' ⟨_, _, _, hm⟩
     exact none_some hm
    ·
     rintro m1 g' S' ⟨i1, hsub1, hS1, hm⟩
     refine WP.sub hsub1 (WP.weaken hS1 ?_)
     rw [ref58_Check_loop1] at hm
     refine WP.seq (WP.seq (WP.region ?_))
     refine wq rfl rfl rfl (ov_move rfl rfl) ?_
     refine wq rfl rfl rfl (ov_fieldAddr Tryz.underlying46 rfl rfl rfl Tryz.sizeOf44 rfl rfl) ?_
     refine wq rfl rfl rfl (ov_load_box (i := 0) Tryz.isAgg44 rfl rfl rfl rfl) ?_
     refine wq rfl rfl rfl (ov_len_slice Tryz.underlying44 rfl rfl) ?_
     refine wq rfl rfl rfl (ov_lss rfl rfl rfl) ?_
     refine WL.nil (then_normal ?_)
     refine WP.cond rfl (fun hc4 => ?_) (fun hc4 => ?_)
     ·
      replace hm := ite_t hc4 hm
      refine WP.skip (then_normal (WP.seq (WP.block (WP.seq (WP.seq (WP.region ?_))))))
      refine wq rfl rfl rfl (ov_fieldAddr Tryz.underlying46 rfl rfl rfl Tryz.sizeOf44 rfl rfl) ?_
      refine wq rfl rfl rfl (ov_load_box (i := 0) Tryz.isAgg44 rfl rfl rfl rfl) ?_
      refine wq rfl rfl rfl (ov_move rfl rfl) ?_
      obtain ⟨x1, e2, hm⟩ := bind_some hm
      obtain ⟨h2, h3, h4, cs1, h5, h6⟩ := h1.get e2 (by decide)
      obtain rfl : cs1 = [(mkS x1.name), (.int .i64 x1.life), (.int .i64 x1.used), (.int .i64 x1.faults), (.bool x1.faulty), (.int .i64 x1.since), (.int .i64 x1.cycles)] := h5
      refine wq rfl rfl rfl (ov_indexAddr Tryz.underlying44 Tryz.sizeOf100 rfl rfl rfl h2 h3 h4) ?_
      refine wq rfl rfl rfl (ov_fieldAddrE Tryz.underlying100 rfl rfl rfl Tryz.sizeOf9 rfl rfl) ?_
      refine wq rfl rfl rfl (ov_load_elem (v := (mkS x1.name)) Tryz.isAgg9 rfl rfl (h6.one (off := 0) rfl)) ?_
      obtain ⟨r2, e3, hm⟩ := bind_some hm
      refine WL.quiet (Runs.free rfl) rfl rfl (oq_con (r := (.int .i64 r2)) Tryz.call45 rfl rfl (fun w' s => ⟨_, (ref12_Word_con x1.name  w' H s.hold hG r2 e3)⟩)) ?_
      refine wq rfl rfl rfl (ov_assign rfl rfl) ?_
      refine WL.nil (then_normal (WP.seq (WP.region ?_)))
      refine wq rfl rfl rfl (ov_move rfl rfl) ?_
      refine wq rfl rfl rfl (ov_neq rfl rfl rfl) ?_
      refine WL.nil (then_normal ?_)
      refine WP.cond rfl (fun hc5 => ?_) (fun hc5 => ?_)
      ·
       replace hm := ite_t hc5 hm
       refine WP.seq (WP.region ?_)
       refine wq rfl rfl rfl (ov_move rfl rfl) ?_
       refine wq rfl rfl rfl (ov_assign rfl rfl) ?_
       refine WL.nil (then_normal (WP.ret (then_ret (block_ret (then_ret (then_ret (block_ret (then_ret ?_))))))))
       obtain rfl := Option.some.inj hm
       refine retQ_ret Tryz.results107 (Res.tmp rfl Res.nil) rfl (fun w' s => ⟨s.below, ?_⟩)
       exact rfl
      ·
       replace hm := ite_f hc5 hm
       refine WP.skip (then_normal (WP.seq (WP.seq ?_)))
       refine WP.region_draws (by kernel_rfl) (by kernel_rfl) (fun _ s => s.drew) ?_
       refine QL.quiet (Runs.free rfl) rfl rfl (OV.quiet (ov_move rfl rfl)) ?_
       refine QL.quiet (Runs.free rfl) rfl rfl (OV.quiet (ov_gtr rfl rfl rfl)) ?_
       refine QL.quiet (Runs.free rfl) rfl rfl (OV.quiet (ov_move rfl rfl)) ?_
       obtain ⟨c1, e4, hm⟩ := bind_some hm
       refine QL.part_bool 15 48 (x := c1) ?_ ?_
       ·
        rcases Bool.eq_false_or_eq_true (decide (i1 > 0)) with hc6 | hc6
        ·
         skip
         replace hm := ite_t hc6 e4
         refine QL.quiet (Runs.yes rfl rfl rfl hc6) rfl rfl (OV.quiet (ov_fieldAddr Tryz.underlying46 rfl rfl rfl Tryz.sizeOf44 rfl rfl)) ?_
         refine QL.quiet (Runs.yes rfl rfl rfl hc6) rfl rfl (OV.quiet (ov_load_box (i := 0) Tryz.isAgg44 rfl rfl rfl rfl)) ?_
         refine QL.quiet (Runs.yes rfl rfl rfl hc6) rfl rfl (OV.quiet (ov_move rfl rfl)) ?_
         obtain ⟨x2, e5, hm⟩ := bind_some hm
         obtain ⟨h7, h8, h9, cs2, h10, h11⟩ := h1.get e5 (by decide)
         obtain rfl : cs2 = [(mkS x2.name), (.int .i64 x2.life), (.int .i64 x2.used), (.int .i64 x2.faults), (.bool x2.faulty), (.int .i64 x2.since), (.int .i64 x2.cycles)] := h10
         refine QL.quiet (Runs.yes rfl rfl rfl hc6) rfl rfl (OV.quiet (ov_indexAddr Tryz.underlying44 Tryz.sizeOf100 rfl rfl rfl h7 h8 h9)) ?_
         refine QL.quiet (Runs.yes rfl rfl rfl hc6) rfl rfl (OV.quiet (ov_fieldAddrE Tryz.underlying100 rfl rfl rfl Tryz.sizeOf9 rfl rfl)) ?_
         refine QL.quiet (Runs.yes rfl rfl rfl hc6) rfl rfl (OV.quiet (ov_load_elem (v := (mkS x2.name)) Tryz.isAgg9 rfl rfl (h11.one (off := 0) rfl))) ?_
         refine QL.quiet (Runs.yes rfl rfl rfl hc6) rfl rfl (OV.quiet (ov_fieldAddr Tryz.underlying46 rfl rfl rfl Tryz.sizeOf44 rfl rfl)) ?_
         refine QL.quiet (Runs.yes rfl rfl rfl hc6) rfl rfl (OV.quiet (ov_load_box (i := 0) Tryz.isAgg44 rfl rfl rfl rfl)) ?_
         refine QL.quiet (Runs.yes rfl rfl rfl hc6) rfl rfl (OV.quiet (ov_move rfl rfl)) ?_
         refine QL.quiet (Runs.yes rfl rfl rfl hc6) rfl rfl (OV.quiet (ov_sub rfl rfl rfl)) ?_
         obtain ⟨x3, e6, hm⟩ := bind_some hm
         obtain ⟨h12, h13, h14, cs3, h15, h16⟩ := h1.get e6 (by decide)
         obtain rfl : cs3 = [(mkS x3.name), (.int .i64 x3.life), (.int .i64 x3.used), (.int .i64 x3.faults), (.bool x3.faulty), (.int .i64 x3.since), (.int .i64 x3.cycles)] := h15
         refine QL.quiet (Runs.yes rfl rfl rfl hc6) rfl rfl (OV.quiet (ov_indexAddr Tryz.underlying44 Tryz.sizeOf100 rfl rfl rfl h12 h13 h14)) ?_
         refine QL.quiet (Runs.yes rfl rfl rfl hc6) rfl rfl (OV.quiet (ov_fieldAddrE Tryz.underlying100 rfl rfl rfl Tryz.sizeOf9 rfl rfl)) ?_
         refine QL.quiet (Runs.yes rfl rfl rfl hc6) rfl rfl (OV.quiet (ov_load_elem (v := (mkS x3.name)) Tryz.isAgg9 rfl rfl (h16.one (off := 0) rfl))) ?_
         refine QL.quiet (Runs.yes rfl rfl rfl hc6) rfl rfl (OV.quiet (ov_sleq rfl rfl rfl)) ?_
         refine QL.quiet (Runs.free rfl) rfl rfl (OV.quiet (ov_pick_true rfl (guard_eq rfl hc6) rfl)) ?_
         exact QL.nil (Sub.cons' rfl (congrArg Value.bool (Option.some.inj hm)) (Sub.skip rfl (Sub.skip rfl (Sub.skip rfl (Sub.skip rfl (Sub.skip rfl (Sub.skip rfl (Sub.skip rfl (Sub.skip rfl (Sub.skip rfl (Sub.skip rfl (Sub.skip rfl (Sub.skip rfl (Sub.skip rfl (Sub.skip rfl (Sub.skip rfl (Sub.refl _)))))))))))))))))
        ·
         skip
         replace hm := ite_f hc6 e4
         refine QL.idle (Idle.no rfl rfl rfl hc6) rfl rfl ?_
         refine QL.idle (Idle.no rfl rfl rfl hc6) rfl rfl ?_
         refine QL.idle (Idle.no rfl rfl rfl hc6) rfl rfl ?_
         refine QL.idle (Idle.no rfl rfl rfl hc6) rfl rfl ?_
         refine QL.idle (Idle.no rfl rfl rfl hc6) rfl rfl ?_
         refine QL.idle (Idle.no rfl rfl rfl hc6) rfl rfl ?_
         refine QL.idle (Idle.no rfl rfl rfl hc6) rfl rfl ?_
         refine QL.idle (Idle.no rfl rfl rfl hc6) rfl rfl ?_
         refine QL.idle (Idle.no rfl rfl rfl hc6) rfl rfl ?_
         refine QL.idle (Idle.no rfl rfl rfl hc6) rfl rfl ?_
         refine QL.idle (Idle.no rfl rfl rfl hc6) rfl rfl ?_
         refine QL.idle (Idle.no rfl rfl rfl hc6) rfl rfl ?_
         refine QL.idle (Idle.no rfl rfl rfl hc6) rfl rfl ?_
         refine QL.idle (Idle.no rfl rfl rfl hc6) rfl rfl ?_
         refine QL.quiet (Runs.free rfl) rfl rfl (OV.quiet (ov_pick_false rfl (guard_eq rfl hc6) rfl)) ?_
         exact QL.nil (Sub.cons' rfl (congrArg Value.bool (Option.some.inj hm)) (Sub.skip rfl (Sub.skip rfl (Sub.skip rfl (Sub.skip rfl (Sub.skip rfl (Sub.skip rfl (Sub.skip rfl (Sub.skip rfl (Sub.skip rfl (Sub.skip rfl (Sub.skip rfl (Sub.skip rfl (Sub.skip rfl (Sub.skip rfl (Sub.skip rfl (Sub.refl _)))))))))))))))))
       refine QL.nil ?_
       refine then_normal ?_
       refine WP.cond rfl (fun hc7 => ?_) (fun hc7 => ?_)
       ·
        replace hm := ite_t hc7 hm
        refine WP.seq (WP.region ?_)
        refine wq rfl rfl rfl (ov_assign rfl rfl) ?_
        refine WL.nil (then_normal (WP.ret (then_ret (block_ret (then_ret (then_ret (block_ret (then_ret ?_))))))))
        obtain rfl := Option.some.inj hm
        refine retQ_ret Tryz.results107 (Res.tmp rfl Res.nil) rfl (fun w' s => ⟨s.below, ?_⟩)
        exact rfl
       ·
        replace hm := ite_f hc7 hm
        refine WP.skip (then_normal (WP.seq ?_))
        refine WP.region_draws (by kernel_rfl) (by kernel_rfl) (fun _ s => s.drew) ?_
        refine QL.quiet (Runs.free rfl) rfl rfl (OV.quiet (ov_fieldAddr Tryz.underlying46 rfl rfl rfl Tryz.sizeOf44 rfl rfl)) ?_
        refine QL.quiet (Runs.free rfl) rfl rfl (OV.quiet (ov_load_box (i := 0) Tryz.isAgg44 rfl rfl rfl rfl)) ?_
        refine QL.quiet (Runs.free rfl) rfl rfl (OV.quiet (ov_move rfl rfl)) ?_
        obtain ⟨x4, e7, hm⟩ := bind_some hm
        obtain ⟨h17, h18, h19, cs4, h20, h21⟩ := h1.get e7 (by decide)
        obtain rfl : cs4 = [(mkS x4.name), (.int .i64 x4.life), (.int .i64 x4.used), (.int .i64 x4.faults), (.bool x4.faulty), (.int .i64 x4.since), (.int .i64 x4.cycles)] := h20
        refine QL.quiet (Runs.free rfl) rfl rfl (OV.quiet (ov_indexAddr Tryz.underlying44 Tryz.sizeOf100 rfl rfl rfl h17 h18 h19)) ?_
        refine QL.quiet (Runs.free rfl) rfl rfl (OV.quiet (ov_load_elems (vs := [(mkS x4.name), (.int .i64 x4.life), (.int .i64 x4.used), (.int .i64 x4.faults), (.bool x4.faulty), (.int .i64 x4.since), (.int .i64 x4.cycles)]) Tryz.isAgg100 Tryz.sizeOf100 rfl rfl rfl h21 h19)) ?_
        refine QL.quiet (Runs.free rfl) rfl rfl (OV.quiet (ov_fieldAddr Tryz.underlying46 rfl rfl rfl Tryz.sizeOf3 rfl rfl)) ?_
        refine QL.quiet (Runs.free rfl) rfl rfl (OV.quiet (ov_load_box (i := 0) Tryz.isAgg3 rfl rfl rfl rfl)) ?_
        obtain ⟨r3, e8, hm⟩ := bind_some hm
        refine QL.quiet (Runs.free rfl) rfl rfl (oq_con (r := (.int .i64 r3)) Tryz.call127 rfl rfl (fun w' s => ⟨_, (ref58_item_con x4 p_m.cycles  w' H s.hold hG r3 e8)⟩)) ?_
        refine QL.quiet (Runs.free rfl) rfl rfl (OV.quiet (ov_assign rfl rfl)) ?_
        refine QL.nil ?_
        refine then_normal (WP.seq (WP.region ?_))
        refine wq rfl rfl rfl (ov_move rfl rfl) ?_
        refine wq rfl rfl rfl (ov_neq rfl rfl rfl) ?_
        refine WL.nil (then_normal ?_)
        refine WP.cond rfl (fun hc8 => ?_) (fun hc8 => ?_)
        ·
         replace hm := ite_t hc8 hm
         refine WP.seq (WP.region ?_)
         refine wq rfl rfl rfl (ov_move rfl rfl) ?_
         refine wq rfl rfl rfl (ov_assign rfl rfl) ?_
         refine WL.nil (then_normal (WP.ret (block_ret (then_ret (then_ret (block_ret (then_ret ?_)))))))
         obtain rfl := Option.some.inj hm
         refine retQ_ret Tryz.results107 (Res.tmp rfl Res.nil) rfl (fun w' s => ⟨s.below, ?_⟩)
         exact rfl
        ·
         replace hm := ite_f hc8 hm
         refine WP.skip (block_normal (then_normal (WP.region ?_)))
         refine wq rfl rfl rfl (ov_move rfl rfl) ?_
         refine wq rfl rfl rfl (ov_add rfl rfl rfl) ?_
         refine wq rfl rfl rfl (ov_assign rfl rfl) ?_
         refine WL.nil (then_normal ?_)
         exact ⟨(IntKind.wrap .i64 (i1 + 1)), (Sub.cons rfl (Sub.cons rfl (Sub.cons rfl (Sub.nil _)))), fun w' s => s, hm⟩
     ·
      replace hm := ite_f hc4 hm
      refine WP.exit (then_exit (then_exit (block_here (then_normal ?_))))
      exact ⟨(Sub.cons rfl (Sub.nil _)), fun w' s => (s.select [] (by decide) rfl), hm⟩
   ·
    rintro g' S' ⟨hsub2, hS2, hm⟩
    refine WP.sub hsub2 (WP.weaken hS2 ?_)
    replace hm := hk1.symm.trans hm
    refine WP.seq (WP.region ?_)
    refine wq rfl rfl rfl (ov_assign rfl rfl) ?_
    refine WL.nil (then_normal (WP.ret ?_))
    obtain rfl := Option.some.inj hm
    refine retQ_ret Tryz.results107 (Res.tmp rfl Res.nil) rfl (fun w' s => ⟨s.below, ?_⟩)
    exact rfl

end Go.Proofs.YtpigfknmlmeihaaGreatDoor.W
