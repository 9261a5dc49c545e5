import Derived.Test.YtkgijoddkibapaaGreatDoorPlain
import Derived.Test.YtkgijoddkibapaaGreatDoorEqs
import Derived.Test.YtkgijoddkibapaaGreatDoorProg
import Derived.Test.YtkgijoddkibapaaGreatDoorExt
import Derived.Test.YtkgijoddkibapaaGreatDoorBuild
import Derived.Test.YtkgijoddkibapaaGreatDoorClone
import Derived.Test.YtkgijoddkibapaaGreatDoorWalk0
set_option linter.unusedVariables false
set_option maxRecDepth 100000
set_option maxHeartbeats 4000000
namespace Go.Proofs.YtkgijoddkibapaaGreatDoor.W
open Go Go.RowKit Go.Proofs.Tryz
theorem ref13_Way_con (p_x : Step) (p_actuator : Int) (ao1 : Option Addr) (cap1 : Nat) (w : World) (H : Heap) (hH : Le H (hp w)) (h1 : SL H encStroke ao1 p_x.strokes) (hc1 : p_x.strokes.length ≤ cap1) (hG : Glob H) (r : Int) (hm : ref13_Way p_x p_actuator = some r) :
  Con prog 60 [(.agg #[(.slice ao1 p_x.strokes.length cap1), (.int .i64 p_x.wait)]), (.int .i64 p_actuator)] w H (fun v _ => v = (.int .i64 r)) := by
 unfold ref13_Way at hm
 refine con_of hH func60 rfl 27 ntmps60 rfl ?_
 refine WP.seq (WP.region ?_)
 refine ws rfl (os_box (cs := [(.slice ao1 p_x.strokes.length cap1), (.int .i64 p_x.wait)]) rfl rfl rfl (fun b1 => ?_))
 refine Va rfl (WL.nil (tn ?_))
 obtain ⟨k1, hk1, hm⟩ := joinK_some hm
 refine WP.seq_join (fun g' S' => Sub [(1000000007, (.bool false))] g' ∧ (∀ w', S' w' → St w H [] H w') ∧ k1 = some r) ?_ ?_
 ·
  refine WP.seq (WP.region (Va rfl (WL.nil (tn (WP.block ?_)))))
  refine WP.loop (fun m1 g' S' => ∃ (i1 : Int), Sub [(1, (.int .i64 p_actuator)), (2, (pB b1 0)), (5, (.int .i64 i1)), (1000000007, (.bool false))] g' ∧ (∀ w', S' w' → St w H [.blk b1 55 [(.slice ao1 p_x.strokes.length cap1), (.int .i64 p_x.wait)]] H w') ∧ ref13_Way_loop1 p_x p_actuator k1 m1 i1 = some r) ((Int.toNat ((p_x.strokes.length : Int) - 0) + 1)) ⟨0, (Sub.all rfl), fun w' s => s, hm⟩ ?_ ?_
  ·
   rintro g' S' ⟨_, _, _, hm⟩
   exact none_some hm
  rintro m1 g' S' ⟨i1, hsub1, hS1, hm⟩
  refine WP.sub hsub1 (WP.weaken hS1 ?_)
  rw [ref13_Way_loop1] at hm
  refine WP.seq (WP.seq (WP.region (Vm rfl (V rfl (ov_fieldAddr underlying55 rfl rfl rfl sizeOf53 rfl rfl) (Vl 0 isAgg53 rfl (V rfl (ov_len_slice underlying53 rfl rfl) (V rfl (ov_lss rfl rfl rfl) (WL.nil (tn ?_)))))))))
  refine WP.cond rfl (fun hc2 => ?_) (fun hc2 => ?_)
  ·
   replace hm := ite_t hc2 hm
   refine WP.skip (tn (WP.seq (WP.block (WP.seq (WP.region (V rfl (ov_fieldAddr underlying55 rfl rfl rfl sizeOf53 rfl rfl) (Vl 0 isAgg53 rfl (Vm rfl ?_))))))))
   obtain ⟨x1, e1, hm⟩ := bind_some hm
   obtain ⟨h2, h3, h4, cs1, h5, h6⟩ := h1.get e1 (by decide)
   obtain rfl : cs1 = [(.int .i64 x1.actuator), (.bool x1.out)] := h5
   refine V rfl (ov_indexAddr underlying53 sizeOf59 rfl rfl rfl h2 h3 h4) (V rfl (ov_fieldAddrE underlying59 rfl rfl rfl sizeOf3 rfl rfl) ?_)
   refine V rfl (ov_load_elem (v := (.int .i64 x1.actuator)) isAgg3 rfl rfl (h6.one (off := 0) rfl)) (Vm rfl (V rfl (ov_eql rfl rfl rfl) (WL.nil (tn ?_))))
   refine WP.cond rfl (fun hc3 => ?_) (fun hc3 => ?_)
   ·
    replace hm := ite_t hc3 hm
    refine WP.seq (WP.seq (WP.region (V rfl (ov_fieldAddr underlying55 rfl rfl rfl sizeOf53 rfl rfl) (Vl 0 isAgg53 rfl (Vm rfl ?_)))))
    obtain ⟨x2, e2, hm⟩ := bind_some hm
    obtain ⟨h7, h8, h9, cs2, h10, h11⟩ := h1.get e2 (by decide)
    obtain rfl : cs2 = [(.int .i64 x2.actuator), (.bool x2.out)] := h10
    refine V rfl (ov_indexAddr underlying53 sizeOf59 rfl rfl rfl h7 h8 h9) (V rfl (ov_fieldAddrE underlying59 rfl rfl rfl sizeOf4 rfl rfl) ?_)
    refine V rfl (ov_load_elem (v := (.bool x2.out)) isAgg4 rfl rfl (h11.one (off := 1) rfl)) (WL.nil (tn ?_))
    refine WP.cond rfl (fun hc4 => ?_) (fun hc4 => ?_)
    ·
     replace hm := ite_t hc4 hm
     refine WP.seq (WP.region (Va rfl (WL.nil (tn (WP.ret (then_ret (block_ret (then_ret (then_ret (block_ret (then_ret ?_)))))))))))
     obtain rfl := Option.some.inj hm
     refine retQ_ret results60 (Res.tmp rfl Res.nil) rfl (fun w' s => ⟨s.below, ?_⟩)
     exact rfl
    replace hm := ite_f hc4 hm
    refine WP.skip (tn (WP.seq (WP.region (Va rfl (WL.nil (tn (WP.ret (block_ret (then_ret (then_ret (block_ret (then_ret ?_))))))))))))
    obtain rfl := Option.some.inj hm
    refine retQ_ret results60 (Res.tmp rfl Res.nil) rfl (fun w' s => ⟨s.below, ?_⟩)
    exact rfl
   replace hm := ite_f hc3 hm
   refine WP.skip (bn (tn (WP.region (Vm rfl (V rfl (ov_add rfl rfl rfl) (Va rfl (WL.nil (tn ?_))))))))
   exact ⟨(IntKind.wrap .i64 (i1 + 1)), (Sub.all rfl), fun w' s => s, hm⟩
  replace hm := ite_f hc2 hm
  refine WP.exit (then_exit (then_exit (block_here (tn ?_))))
  exact ⟨(Sub.all rfl), fun w' s => (s.select [] (by decide) rfl), hm⟩
 rintro g' S' ⟨hsub2, hS2, hm⟩
 refine WP.sub hsub2 (WP.weaken hS2 ?_)
 replace hm := hk1.symm.trans hm
 refine WP.seq (WP.region (Va rfl (WL.nil (tn (WP.ret ?_)))))
 obtain rfl := Option.some.inj hm
 refine retQ_ret results60 (Res.tmp rfl Res.nil) rfl (fun w' s => ⟨s.below, ?_⟩)
 exact rfl
theorem ref14_moves_con (p_s : Sequence) (p_actuator : Int) (ao1 : Option Addr) (cap1 : Nat) (w : World) (H : Heap) (hH : Le H (hp w)) (h1 : SL H encStep ao1 p_s.steps) (hc1 : p_s.steps.length ≤ cap1) (hG : Glob H) (r : Bool) (hm : ref14_moves p_s p_actuator = some r) :
  Con prog 34 [(.agg #[(.int .i64 p_s.actuators), (.slice ao1 p_s.steps.length cap1)]), (.int .i64 p_actuator)] w H (fun v _ => v = (.bool r)) := by
 unfold ref14_moves at hm
 refine con_of hH func34 rfl 21 ntmps34 rfl ?_
 refine WP.seq (WP.region ?_)
 refine ws rfl (os_box (cs := [(.int .i64 p_s.actuators), (.slice ao1 p_s.steps.length cap1)]) rfl rfl rfl (fun b1 => ?_))
 refine Va rfl (WL.nil (tn ?_))
 obtain ⟨k1, hk1, hm⟩ := joinK_some hm
 refine WP.seq_join (fun g' S' => Sub [(1000000007, (.bool false))] g' ∧ (∀ w', S' w' → St w H [] H w') ∧ k1 = some r) ?_ ?_
 ·
  refine WP.seq (WP.region (Va rfl (WL.nil (tn (WP.block ?_)))))
  refine WP.loop (fun m1 g' S' => ∃ (i1 : Int), Sub [(1, (.int .i64 p_actuator)), (2, (pB b1 0)), (5, (.int .i64 i1)), (1000000007, (.bool false))] g' ∧ (∀ w', S' w' → St w H [.blk b1 24 [(.int .i64 p_s.actuators), (.slice ao1 p_s.steps.length cap1)]] H w') ∧ ref14_moves_loop1 p_s p_actuator k1 m1 i1 = some r) ((Int.toNat ((p_s.steps.length : Int) - 0) + 1)) ⟨0, (Sub.all rfl), fun w' s => s, hm⟩ ?_ ?_
  ·
   rintro g' S' ⟨_, _, _, hm⟩
   exact none_some hm
  rintro m1 g' S' ⟨i1, hsub1, hS1, hm⟩
  refine WP.sub hsub1 (WP.weaken hS1 ?_)
  rw [ref14_moves_loop1] at hm
  refine WP.seq (WP.seq (WP.region (Vm rfl (V rfl (ov_fieldAddr underlying24 rfl rfl rfl sizeOf22 rfl rfl) (Vl 0 isAgg22 rfl (V rfl (ov_len_slice underlying22 rfl rfl) (V rfl (ov_lss rfl rfl rfl) (WL.nil (tn ?_)))))))))
  refine WP.cond rfl (fun hc2 => ?_) (fun hc2 => ?_)
  ·
   replace hm := ite_t hc2 hm
   refine WP.skip (tn (WP.seq (WP.block (WP.seq (WP.region (V rfl (ov_fieldAddr underlying24 rfl rfl rfl sizeOf22 rfl rfl) (Vl 0 isAgg22 rfl (Vm rfl ?_))))))))
   obtain ⟨x1, e1, hm⟩ := bind_some hm
   obtain ⟨h3, h4, h5, cs1, h6, h7⟩ := h1.get e1 (by decide)
   obtain ⟨ao2, cap2, rfl, h2, hc3⟩ := h6
   refine V rfl (ov_indexAddr underlying22 sizeOf55 rfl rfl rfl h3 h4 h5) (V rfl (ov_load_elems (vs := [(.slice ao2 x1.strokes.length cap2), (.int .i64 x1.wait)]) isAgg55 sizeOf55 rfl rfl rfl h7 h5) (Vm rfl ?_))
   obtain ⟨r1, e2, hm⟩ := bind_some hm
   refine wo rfl (oq_con (r := (.int .i64 r1)) call60 rfl rfl (fun w' s => ⟨_, (ref13_Way_con x1 p_actuator ao2 cap2  w' H s.hold h2 hc3 hG r1 e2)⟩)) ?_
   refine V rfl (ov_neq rfl rfl rfl) (WL.nil (tn ?_))
   refine WP.cond rfl (fun hc4 => ?_) (fun hc4 => ?_)
   ·
    replace hm := ite_t hc4 hm
    refine WP.seq (WP.region (Va rfl (WL.nil (tn (WP.ret (block_ret (then_ret (then_ret (block_ret (then_ret ?_))))))))))
    obtain rfl := Option.some.inj hm
    refine retQ_ret results34 (Res.tmp rfl Res.nil) rfl (fun w' s => ⟨s.below, ?_⟩)
    exact rfl
   replace hm := ite_f hc4 hm
   refine WP.skip (bn (tn (WP.region (Vm rfl (V rfl (ov_add rfl rfl rfl) (Va rfl (WL.nil (tn ?_))))))))
   exact ⟨(IntKind.wrap .i64 (i1 + 1)), (Sub.all rfl), fun w' s => s, hm⟩
  replace hm := ite_f hc2 hm
  refine WP.exit (then_exit (then_exit (block_here (tn ?_))))
  exact ⟨(Sub.all rfl), fun w' s => (s.select [] (by decide) rfl), hm⟩
 rintro g' S' ⟨hsub2, hS2, hm⟩
 refine WP.sub hsub2 (WP.weaken hS2 ?_)
 replace hm := hk1.symm.trans hm
 refine WP.seq (WP.region (Va rfl (WL.nil (tn (WP.ret ?_)))))
 obtain rfl := Option.some.inj hm
 refine retQ_ret results34 (Res.tmp rfl Res.nil) rfl (fun w' s => ⟨s.below, ?_⟩)
 exact rfl
theorem ref14_Check_con (p_s : Sequence) (ao1 : Option Addr) (cap1 : Nat) (w : World) (H : Heap) (hH : Le H (hp w)) (h1 : SL H encStep ao1 p_s.steps) (hc1 : p_s.steps.length ≤ cap1) (hG : Glob H) (r : Int) (hm : ref14_Check p_s = some r) :
  Con prog 13 [(.agg #[(.int .i64 p_s.actuators), (.slice ao1 p_s.steps.length cap1)])] w H (fun v _ => v = (.int .i64 r)) := by
 unfold ref14_Check at hm
 refine con_of hH func13 rfl 36 ntmps13 rfl ?_
 refine WP.seq (WP.region ?_)
 refine ws rfl (os_box (cs := [(.int .i64 p_s.actuators), (.slice ao1 p_s.steps.length cap1)]) rfl rfl rfl (fun b1 => ?_))
 refine Va rfl (WL.nil (tn (WP.seq (WP.seq (WP.region (V rfl (ov_fieldAddr underlying24 rfl rfl rfl sizeOf3 rfl rfl) (Vl 0 isAgg3 rfl (V rfl (ov_lss rfl rfl rfl) (Vm rfl ?_)))))))))
 refine WL.cut_bool 4 12 (x := ((decide (p_s.actuators < 1)) || (decide (p_s.actuators > 6)))) ?_ ?_
 ·
  rcases Bool.eq_false_or_eq_true (decide (p_s.actuators < 1)) with hc2 | hc2
  ·
   refine Vi rfl (Idle.no rfl rfl rfl hc2) (Vi rfl (Idle.no rfl rfl rfl hc2) (Vi rfl (Idle.no rfl rfl rfl hc2) (V rfl (ov_pick_true rfl (guard_eq rfl hc2) rfl) ?_)))
   exact WL.nil ⟨Sub.cons' rfl (congrArg Value.bool (orT hc2)) (Sub.dropn 4 rfl), fun _ s => s⟩
  refine wy hc2 rfl (ov_fieldAddr underlying24 rfl rfl rfl sizeOf3 rfl rfl) ?_
  refine wy hc2 rfl (ov_load_box (i := 0) isAgg3 rfl rfl rfl rfl) ?_
  refine wy hc2 rfl (ov_gtr rfl rfl rfl) ?_
  refine V rfl (ov_pick_false rfl (guard_eq rfl hc2) rfl) ?_
  exact WL.nil ⟨Sub.cons' rfl (congrArg Value.bool (orF hc2)) (Sub.dropn 4 rfl), fun _ s => s⟩
 refine WL.nil (tn ?_)
 refine WP.cond rfl (fun hc3 => ?_) (fun hc3 => ?_)
 ·
  replace hm := ite_t hc3 hm
  refine WP.seq (WP.region (Va rfl (WL.nil (tn (WP.ret (then_ret ?_))))))
  obtain rfl := Option.some.inj hm
  refine retQ_ret results13 (Res.tmp rfl Res.nil) rfl (fun w' s => ⟨s.below, ?_⟩)
  exact rfl
 replace hm := ite_f hc3 hm
 refine WP.skip (tn (WP.seq (WP.seq (WP.region (V rfl (ov_fieldAddr underlying24 rfl rfl rfl sizeOf22 rfl rfl) (Vl 0 isAgg22 rfl (V rfl (ov_len_slice underlying22 rfl rfl) (V rfl (ov_eql rfl rfl rfl) (WL.nil (tn ?_))))))))))
 refine WP.cond rfl (fun hc4 => ?_) (fun hc4 => ?_)
 ·
  replace hm := ite_t hc4 hm
  refine WP.seq (WP.region (Va rfl (WL.nil (tn (WP.ret (then_ret ?_))))))
  obtain rfl := Option.some.inj hm
  refine retQ_ret results13 (Res.tmp rfl Res.nil) rfl (fun w' s => ⟨s.below, ?_⟩)
  exact rfl
 replace hm := ite_f hc4 hm
 refine WP.skip (tn (WP.seq (WP.seq (WP.region (V rfl (ov_fieldAddr underlying24 rfl rfl rfl sizeOf22 rfl rfl) (Vl 0 isAgg22 rfl (V rfl (ov_len_slice underlying22 rfl rfl) (V rfl (ov_gtr rfl rfl rfl) (WL.nil (tn ?_))))))))))
 refine WP.cond rfl (fun hc5 => ?_) (fun hc5 => ?_)
 ·
  replace hm := ite_t hc5 hm
  refine WP.seq (WP.region (Va rfl (WL.nil (tn (WP.ret (then_ret ?_))))))
  obtain rfl := Option.some.inj hm
  refine retQ_ret results13 (Res.tmp rfl Res.nil) rfl (fun w' s => ⟨s.below, ?_⟩)
  exact rfl
 replace hm := ite_f hc5 hm
 refine WP.skip (tn (WP.seq (WP.seq (WP.region (V rfl (ov_load_whole (i := 0) isAgg24 sizeOf24 rfl rfl rfl rfl) ?_)))))
 obtain ⟨r1, e1, hm⟩ := bind_some hm
 refine wo rfl (oq_con (r := (.int .i64 r1)) call33 rfl rfl (fun w' s => ⟨_, (ref14_steps_con p_s ao1 cap1  w' H s.hold h1 hc1 hG r1 e1)⟩)) ?_
 refine Va rfl (WL.nil (tn (WP.seq (WP.region (Vm rfl (V rfl (ov_neq rfl rfl rfl) (WL.nil (tn ?_))))))))
 refine WP.cond rfl (fun hc6 => ?_) (fun hc6 => ?_)
 ·
  replace hm := ite_t hc6 hm
  refine WP.seq (WP.region (Vm rfl (Va rfl (WL.nil (tn (WP.ret (then_ret ?_)))))))
  obtain rfl := Option.some.inj hm
  refine retQ_ret results13 (Res.tmp rfl Res.nil) rfl (fun w' s => ⟨s.below, ?_⟩)
  exact rfl
 replace hm := ite_f hc6 hm
 refine WP.skip (tn ?_)
 obtain ⟨k1, hk1, hm⟩ := joinK_some hm
 refine WP.seq_join (fun g' S' => Sub [(1000000007, (.bool false))] g' ∧ (∀ w', S' w' → St w H [] H w') ∧ k1 = some r) ?_ ?_
 ·
  refine WP.seq (WP.region (Va rfl (WL.nil (tn (WP.block ?_)))))
  refine WP.loop (fun m1 g' S' => ∃ (i1 : Int), Sub [(1, (pB b1 0)), (4, (.int .i64 i1)), (1000000007, (.bool false))] g' ∧ (∀ w', S' w' → St w H [.blk b1 24 [(.int .i64 p_s.actuators), (.slice ao1 p_s.steps.length cap1)]] H w') ∧ ref14_Check_loop1 p_s k1 m1 i1 = some r) ((Int.toNat (p_s.actuators - 0) + 1)) ⟨0, (Sub.all rfl), fun w' s => s, hm⟩ ?_ ?_
  ·
   rintro g' S' ⟨_, _, _, hm⟩
   exact none_some hm
  rintro m1 g' S' ⟨i1, hsub1, hS1, hm⟩
  refine WP.sub hsub1 (WP.weaken hS1 ?_)
  rw [ref14_Check_loop1] at hm
  refine WP.seq (WP.seq (WP.region (Vm rfl (V rfl (ov_fieldAddr underlying24 rfl rfl rfl sizeOf3 rfl rfl) (Vl 0 isAgg3 rfl (V rfl (ov_lss rfl rfl rfl) (WL.nil (tn ?_))))))))
  refine WP.cond rfl (fun hc7 => ?_) (fun hc7 => ?_)
  ·
   replace hm := ite_t hc7 hm
   refine WP.skip (tn (WP.seq (WP.block (WP.seq (WP.region (V rfl (ov_load_whole (i := 0) isAgg24 sizeOf24 rfl rfl rfl rfl) (Vm rfl ?_)))))))
   obtain ⟨r2, e2, hm⟩ := bind_some hm
   refine wo rfl (oq_con (r := (.bool r2)) call34 rfl rfl (fun w' s => ⟨_, (ref14_moves_con p_s i1 ao1 cap1  w' H s.hold h1 hc1 hG r2 e2)⟩)) ?_
   refine V rfl (ov_not rfl rfl) (WL.nil (tn ?_))
   refine WP.cond rfl (fun hc8 => ?_) (fun hc8 => ?_)
   ·
    replace hm := ite_t hc8 hm
    refine WP.seq (WP.region (Va rfl (WL.nil (tn (WP.ret (block_ret (then_ret (then_ret (block_ret (then_ret ?_))))))))))
    obtain rfl := Option.some.inj hm
    refine retQ_ret results13 (Res.tmp rfl Res.nil) rfl (fun w' s => ⟨s.below, ?_⟩)
    exact rfl
   replace hm := ite_f hc8 hm
   refine WP.skip (bn (tn (WP.region (Vm rfl (V rfl (ov_add rfl rfl rfl) (Va rfl (WL.nil (tn ?_))))))))
   exact ⟨(IntKind.wrap .i64 (i1 + 1)), (Sub.all rfl), fun w' s => s, hm⟩
  replace hm := ite_f hc7 hm
  refine WP.exit (then_exit (then_exit (block_here (tn ?_))))
  exact ⟨(Sub.all rfl), fun w' s => (s.select [] (by decide) rfl), hm⟩
 rintro g' S' ⟨hsub2, hS2, hm⟩
 refine WP.sub hsub2 (WP.weaken hS2 ?_)
 replace hm := hk1.symm.trans hm
 refine WP.seq (WP.region (Va rfl (WL.nil (tn (WP.ret ?_)))))
 obtain rfl := Option.some.inj hm
 refine retQ_ret results13 (Res.tmp rfl Res.nil) rfl (fun w' s => ⟨s.below, ?_⟩)
 exact rfl
theorem ref17_Few_con (p_s : Sequence) (p_p : Plant) (ao1 : Option Addr) (cap1 : Nat) (ao2 : Option Addr) (cap2 : Nat) (w : World) (H : Heap) (hH : Le H (hp w)) (h1 : SL H encStep ao1 p_s.steps) (hc1 : p_s.steps.length ≤ cap1) (h2 : SL H encTravel ao2 p_p.travels) (hc2 : p_p.travels.length ≤ cap2) (hG : Glob H) (r : Bool) (hm : ref17_Few p_s p_p = some r) :
  Con prog 4 [(.agg #[(.int .i64 p_s.actuators), (.slice ao1 p_s.steps.length cap1)]), (.agg #[(.slice ao2 p_p.travels.length cap2)])] w H (fun v _ => v = (.bool r)) := by
 unfold ref17_Few at hm
 refine con_of hH func4 rfl 24 ntmps4 rfl ?_
 refine WP.seq (WP.region ?_)
 refine ws rfl (os_box (cs := [(.int .i64 p_s.actuators), (.slice ao1 p_s.steps.length cap1)]) rfl rfl rfl (fun b1 => ?_))
 refine ws rfl (os_box (cs := [(.slice ao2 p_p.travels.length cap2)]) rfl rfl rfl (fun b2 => ?_))
 refine Va rfl (WL.nil (tn (WP.seq (WP.region (V rfl (ov_load_whole (i := 1) isAgg24 sizeOf24 rfl rfl rfl rfl) ?_)))))
 obtain ⟨r1, e1, hm⟩ := bind_some hm
 refine wo rfl (oq_con (r := (.bool r1)) call12 rfl rfl (fun w' s => ⟨_, (ref14_Few_con p_s ao1 cap1  w' H s.hold h1 hc1 hG r1 e1)⟩)) ?_
 refine Vm rfl ?_
 refine WL.cut_bool 5 12 (x := (r1 && (decide ((p_p.travels.length : Int) ≤ 20)))) ?_ ?_
 ·
  rcases Bool.eq_false_or_eq_true r1 with hc3 | hc3
  ·
   refine wy hc3 rfl (ov_fieldAddr underlying27 rfl rfl rfl sizeOf25 rfl rfl) ?_
   refine wy hc3 rfl (ov_load_box (i := 0) isAgg25 rfl rfl rfl rfl) ?_
   refine wy hc3 rfl (ov_len_slice underlying25 rfl rfl) ?_
   refine wy hc3 rfl (ov_leq rfl rfl rfl) ?_
   refine V rfl (ov_pick_true rfl (guard_eq rfl hc3) rfl) ?_
   exact WL.nil ⟨Sub.cons' rfl (congrArg Value.bool (andT hc3)) (Sub.dropn 5 rfl), fun _ s => s⟩
  refine Vi rfl (Idle.no rfl rfl rfl hc3) (Vi rfl (Idle.no rfl rfl rfl hc3) (Vi rfl (Idle.no rfl rfl rfl hc3) (Vi rfl (Idle.no rfl rfl rfl hc3) (V rfl (ov_pick_false rfl (guard_eq rfl hc3) rfl) ?_))))
  exact WL.nil ⟨Sub.cons' rfl (congrArg Value.bool (andF hc3)) (Sub.dropn 5 rfl), fun _ s => s⟩
 refine Vm rfl ?_
 obtain ⟨c1, e2, hm⟩ := bind_some hm
 refine WL.cut_bool 10 23 (x := c1) ?_ ?_
 ·
  rcases Bool.eq_false_or_eq_true (r1 && (decide ((p_p.travels.length : Int) ≤ 20))) with hc4 | hc4
  ·
   replace hm := ite_t hc4 e2
   refine wy hc4 rfl (ov_fieldAddr underlying24 rfl rfl rfl sizeOf22 rfl rfl) ?_
   refine wy hc4 rfl (ov_load_box (i := 1) isAgg22 rfl rfl rfl rfl) ?_
   refine wy hc4 rfl (ov_len_slice underlying22 rfl rfl) ?_
   refine wy hc4 rfl (ov_leq rfl rfl rfl) ?_
   refine wy hc4 rfl (ov_move rfl rfl) ?_
   obtain ⟨c2, e3, hm⟩ := bind_some hm
   refine WL.cut_bool 4 22 (x := c2) ?_ ?_
   ·
    rcases Bool.eq_false_or_eq_true (decide ((p_s.steps.length : Int) ≤ 12)) with hc5 | hc5
    ·
     replace hm := ite_t hc5 e3
     refine Vi rfl (Idle.no rfl rfl rfl hc5) (Vi rfl (Idle.no rfl rfl rfl hc5) (Vi rfl (Idle.no rfl rfl rfl hc5) ?_))
     refine wy hc4 rfl (ov_pick_true rfl (guard_eq rfl hc5) rfl) ?_
     exact WL.nil ⟨Sub.cons' rfl (congrArg Value.bool (Option.some.inj hm)) (Sub.dropn 4 rfl), fun _ s => s⟩
    replace hm := ite_f hc5 e3
    refine wy hc5 rfl (ov_load_whole (i := 1) isAgg24 sizeOf24 rfl rfl rfl rfl) ?_
    obtain ⟨r2, e4, hm⟩ := bind_some hm
    refine WL.quiet (Runs.yes rfl rfl rfl hc5) rfl rfl (oq_con (r := (.int .i64 r2)) call13 rfl rfl (fun w' s => ⟨_, (ref14_Check_con p_s ao1 cap1  w' H s.hold h1 hc1 hG r2 e4)⟩)) ?_
    refine wy hc5 rfl (ov_neq rfl rfl rfl) ?_
    refine wy hc4 rfl (ov_pick_false rfl (guard_eq rfl hc5) rfl) ?_
    exact WL.nil ⟨Sub.cons' rfl (congrArg Value.bool (Option.some.inj hm)) (Sub.dropn 4 rfl), fun _ s => s⟩
   refine V rfl (ov_pick_true rfl (guard_eq rfl hc4) rfl) ?_
   exact WL.nil ⟨Sub.cons' rfl (congrArg Value.bool (Option.some.inj hm)) (Sub.dropn 7 rfl), fun _ s => s⟩
  replace hm := ite_f hc4 e2
  refine Vi rfl (Idle.no rfl rfl rfl hc4) (Vi rfl (Idle.no rfl rfl rfl hc4) (Vi rfl (Idle.no rfl rfl rfl hc4) (Vi rfl (Idle.no rfl rfl rfl hc4) (Vi rfl (Idle.no rfl rfl rfl hc4) (Vi rfl (Idle.undef rfl rfl rfl) (Vi rfl (Idle.undef rfl rfl rfl) (Vi rfl (Idle.undef rfl rfl rfl) (Vi rfl (Idle.no rfl rfl rfl hc4) (V rfl (ov_pick_false rfl (guard_eq rfl hc4) rfl) ?_)))))))))
  exact WL.nil ⟨Sub.cons' rfl (congrArg Value.bool (Option.some.inj hm)) (Sub.dropn 10 rfl), fun _ s => s⟩
 refine Va rfl (WL.nil (tn (WP.ret ?_)))
 obtain rfl := Option.some.inj hm
 refine retQ_ret results4 (Res.tmp rfl Res.nil) rfl (fun w' s => ⟨s.below, ?_⟩)
 exact rfl
theorem ref03_Check_con (p_a : Span) (w : World) (H : Heap) (hH : Le H (hp w)) (hG : Glob H) (r : Int) (hm : ref03_Check p_a = some r) :
  Con prog 14 [(.agg #[(.int .i64 p_a.low), (.int .i64 p_a.high)])] w H (fun v _ => v = (.int .i64 r)) := by
 unfold ref03_Check at hm
 refine con_of hH func14 rfl 18 ntmps14 rfl ?_
 refine WP.seq (WP.region ?_)
 refine ws rfl (os_box (cs := [(.int .i64 p_a.low), (.int .i64 p_a.high)]) rfl rfl rfl (fun b1 => ?_))
 refine Va rfl (WL.nil (tn (WP.seq (WP.seq (WP.region (V rfl (ov_fieldAddr underlying38 rfl rfl rfl sizeOf3 rfl rfl) (Vl 0 isAgg3 rfl ?_)))))))
 obtain ⟨r1, e1, hm⟩ := bind_some hm
 refine wo rfl (oq_con (r := (.bool r1)) call35 rfl rfl (fun w' s => ⟨_, (ref03_Time_con p_a.low  w' H s.hold hG r1 e1)⟩)) ?_
 refine V rfl (ov_not rfl rfl) (Vm rfl ?_)
 obtain ⟨c1, e2, hm⟩ := bind_some hm
 refine WL.cut_bool 5 12 (x := c1) ?_ ?_
 ·
  rcases Bool.eq_false_or_eq_true (!r1) with hc1 | hc1
  ·
   replace hm := ite_t hc1 e2
   refine Vi rfl (Idle.no rfl rfl rfl hc1) (Vi rfl (Idle.no rfl rfl rfl hc1) (Vi rfl (Idle.no rfl rfl rfl hc1) (Vi rfl (Idle.no rfl rfl rfl hc1) (V rfl (ov_pick_true rfl (guard_eq rfl hc1) rfl) ?_))))
   exact WL.nil ⟨Sub.cons' rfl (congrArg Value.bool (Option.some.inj hm)) (Sub.dropn 5 rfl), fun _ s => s⟩
  replace hm := ite_f hc1 e2
  refine wy hc1 rfl (ov_fieldAddr underlying38 rfl rfl rfl sizeOf3 rfl rfl) ?_
  refine wy hc1 rfl (ov_load_box (i := 0) isAgg3 rfl rfl rfl rfl) ?_
  obtain ⟨r2, e3, hm⟩ := bind_some hm
  refine WL.quiet (Runs.yes rfl rfl rfl hc1) rfl rfl (oq_con (r := (.bool r2)) call35 rfl rfl (fun w' s => ⟨_, (ref03_Time_con p_a.high  w' H s.hold hG r2 e3)⟩)) ?_
  refine wy hc1 rfl (ov_not rfl rfl) ?_
  refine V rfl (ov_pick_false rfl (guard_eq rfl hc1) rfl) ?_
  exact WL.nil ⟨Sub.cons' rfl (congrArg Value.bool (Option.some.inj hm)) (Sub.dropn 5 rfl), fun _ s => s⟩
 refine WL.nil (tn ?_)
 refine WP.cond rfl (fun hc2 => ?_) (fun hc2 => ?_)
 ·
  replace hm := ite_t hc2 hm
  refine WP.seq (WP.region (Va rfl (WL.nil (tn (WP.ret (then_ret ?_))))))
  obtain rfl := Option.some.inj hm
  refine retQ_ret results14 (Res.tmp rfl Res.nil) rfl (fun w' s => ⟨s.below, ?_⟩)
  exact rfl
 replace hm := ite_f hc2 hm
 refine WP.skip (tn (WP.seq (WP.seq (WP.region (V rfl (ov_fieldAddr underlying38 rfl rfl rfl sizeOf3 rfl rfl) (Vl 0 isAgg3 rfl (V rfl (ov_fieldAddr underlying38 rfl rfl rfl sizeOf3 rfl rfl) (Vl 0 isAgg3 rfl (V rfl (ov_gtr rfl rfl rfl) (WL.nil (tn ?_)))))))))))
 refine WP.cond rfl (fun hc3 => ?_) (fun hc3 => ?_)
 ·
  replace hm := ite_t hc3 hm
  refine WP.seq (WP.region (Va rfl (WL.nil (tn (WP.ret (then_ret ?_))))))
  obtain rfl := Option.some.inj hm
  refine retQ_ret results14 (Res.tmp rfl Res.nil) rfl (fun w' s => ⟨s.below, ?_⟩)
  exact rfl
 replace hm := ite_f hc3 hm
 refine WP.skip (tn (WP.seq (WP.region (Va rfl (WL.nil (tn (WP.ret ?_)))))))
 obtain rfl := Option.some.inj hm
 refine retQ_ret results14 (Res.tmp rfl Res.nil) rfl (fun w' s => ⟨s.below, ?_⟩)
 exact rfl
theorem ref17_Way_con (p_p : Plant) (p_x : Stroke) (ao1 : Option Addr) (cap1 : Nat) (w : World) (H : Heap) (hH : Le H (hp w)) (h1 : SL H encTravel ao1 p_p.travels) (hc1 : p_p.travels.length ≤ cap1) (hG : Glob H) (r : Span) (hm : ref17_Way p_p p_x = some r) :
  Con prog 17 [(.agg #[(.slice ao1 p_p.travels.length cap1)]), (.agg #[(.int .i64 p_x.actuator), (.bool p_x.out)])] w H (fun v _ => v = (.agg #[(.int .i64 r.low), (.int .i64 r.high)])) := by
 unfold ref17_Way at hm
 refine con_of hH func17 rfl 21 ntmps17 rfl ?_
 refine WP.seq (WP.region ?_)
 refine ws rfl (os_box (cs := [(.slice ao1 p_p.travels.length cap1)]) rfl rfl rfl (fun b1 => ?_))
 refine ws rfl (os_box (cs := [(.int .i64 p_x.actuator), (.bool p_x.out)]) rfl rfl rfl (fun b2 => ?_))
 refine ws rfl (os_alloc (cs := [(.int .i64 0), (.int .i64 0)]) zeroValue38 rfl rfl (fun b3 => ?_))
 refine WL.nil (tn (WP.seq (WP.seq (WP.region (V rfl (ov_fieldAddr underlying59 rfl rfl rfl sizeOf4 rfl rfl) (Vl 1 isAgg4 rfl (WL.nil (tn ?_))))))))
 refine WP.cond rfl (fun hc2 => ?_) (fun hc2 => ?_)
 ·
  replace hm := ite_t hc2 hm
  refine WP.seq (WP.region (V rfl (ov_fieldAddr underlying27 rfl rfl rfl sizeOf25 rfl rfl) (Vl 2 isAgg25 rfl (V rfl (ov_fieldAddr underlying59 rfl rfl rfl sizeOf3 rfl rfl) (Vl 1 isAgg3 rfl ?_)))))
  obtain ⟨x1, e1, hm⟩ := bind_some hm
  obtain ⟨h2, h3, h4, cs1, h5, h6⟩ := h1.get e1 (by decide)
  obtain rfl : cs1 = [(.int .i64 x1.out.low), (.int .i64 x1.out.high), (.int .i64 x1.in_.low), (.int .i64 x1.in_.high)] := h5
  refine V rfl (ov_indexAddr underlying25 sizeOf51 rfl rfl rfl h2 h3 h4) (V rfl (ov_fieldAddrE underlying51 rfl rfl rfl sizeOf38 rfl rfl) ?_)
  refine V rfl (ov_load_elems (vs := [(.int .i64 x1.out.low), (.int .i64 x1.out.high)]) isAgg38 sizeOf38 rfl rfl rfl (h6.part 0 2) h4) ?_
  refine ws0 rfl (os_store (i := 0) (vs := [(.int .i64 x1.out.low), (.int .i64 x1.out.high)]) (cs' := [(.int .i64 x1.out.low), (.int .i64 x1.out.high)]) sizeOf38 rfl rfl rfl rfl rfl rfl rfl rfl rfl ?_)
  refine WL.nil (tn (WP.ret (then_ret ?_)))
  obtain rfl := Option.some.inj hm
  refine retQ_ret results17 (Res.cell rfl (box_loads (i := 0) isAgg38 sizeOf38 rfl rfl) Res.nil) rfl (fun w' s => ⟨s.below, ?_⟩)
  exact rfl
 replace hm := ite_f hc2 hm
 refine WP.skip (tn (WP.seq (WP.region (V rfl (ov_fieldAddr underlying27 rfl rfl rfl sizeOf25 rfl rfl) (Vl 2 isAgg25 rfl (V rfl (ov_fieldAddr underlying59 rfl rfl rfl sizeOf3 rfl rfl) (Vl 1 isAgg3 rfl ?_)))))))
 obtain ⟨x2, e2, hm⟩ := bind_some hm
 obtain ⟨h7, h8, h9, cs2, h10, h11⟩ := h1.get e2 (by decide)
 obtain rfl : cs2 = [(.int .i64 x2.out.low), (.int .i64 x2.out.high), (.int .i64 x2.in_.low), (.int .i64 x2.in_.high)] := h10
 refine V rfl (ov_indexAddr underlying25 sizeOf51 rfl rfl rfl h7 h8 h9) (V rfl (ov_fieldAddrE underlying51 rfl rfl rfl sizeOf38 rfl rfl) ?_)
 refine V rfl (ov_load_elems (vs := [(.int .i64 x2.in_.low), (.int .i64 x2.in_.high)]) isAgg38 sizeOf38 rfl rfl rfl (h11.part 2 2) h9) ?_
 refine ws0 rfl (os_store (i := 0) (vs := [(.int .i64 x2.in_.low), (.int .i64 x2.in_.high)]) (cs' := [(.int .i64 x2.in_.low), (.int .i64 x2.in_.high)]) sizeOf38 rfl rfl rfl rfl rfl rfl rfl rfl rfl ?_)
 refine WL.nil (tn (WP.ret ?_))
 obtain rfl := Option.some.inj hm
 refine retQ_ret results17 (Res.cell rfl (box_loads (i := 0) isAgg38 sizeOf38 rfl rfl) Res.nil) rfl (fun w' s => ⟨s.below, ?_⟩)
 exact rfl
theorem ref17_point_con (p_t : Int) (w : World) (H : Heap) (hH : Le H (hp w)) (hG : Glob H) (r : Span) (hm : ref17_point p_t = some r) :
  Con prog 61 [(.int .i64 p_t)] w H (fun v _ => v = (.agg #[(.int .i64 r.low), (.int .i64 r.high)])) := by
 unfold ref17_point at hm
 refine con_of hH func61 rfl 6 ntmps61 rfl ?_
 refine WP.seq (WP.region ?_)
 refine ws rfl (os_alloc (cs := [(.int .i64 0), (.int .i64 0)]) zeroValue38 rfl rfl (fun b1 => ?_))
 refine WL.nil (tn (WP.seq (WP.region (Vm rfl (Vm rfl (V rfl (ov_build (r := (.agg #[(.int .i64 p_t), (.int .i64 p_t)])) rfl rfl (fun _ => by kernel_rfl)) ?_))))))
 refine ws0 rfl (os_store (i := 0) (vs := [(.int .i64 p_t), (.int .i64 p_t)]) (cs' := [(.int .i64 p_t), (.int .i64 p_t)]) sizeOf38 rfl rfl rfl rfl rfl rfl rfl rfl rfl ?_)
 refine WL.nil (tn (WP.ret ?_))
 obtain rfl := Option.some.inj hm
 refine retQ_ret results61 (Res.cell rfl (box_loads (i := 0) isAgg38 sizeOf38 rfl rfl) Res.nil) rfl (fun w' s => ⟨s.below, ?_⟩)
 exact rfl
theorem ref03_Last_con (p_a : Span) (p_b : Span) (w : World) (H : Heap) (hH : Le H (hp w)) (hG : Glob H) (r : Span) (hm : ref03_Last p_a p_b = some r) :
  Con prog 62 [(.agg #[(.int .i64 p_a.low), (.int .i64 p_a.high)]), (.agg #[(.int .i64 p_b.low), (.int .i64 p_b.high)])] w H (fun v _ => v = (.agg #[(.int .i64 r.low), (.int .i64 r.high)])) := by
 unfold ref03_Last at hm
 refine con_of hH func62 rfl 16 ntmps62 rfl ?_
 refine WP.seq (WP.region ?_)
 refine ws rfl (os_box (cs := [(.int .i64 p_a.low), (.int .i64 p_a.high)]) rfl rfl rfl (fun b1 => ?_))
 refine ws rfl (os_box (cs := [(.int .i64 p_b.low), (.int .i64 p_b.high)]) rfl rfl rfl (fun b2 => ?_))
 refine ws rfl (os_alloc (cs := [(.int .i64 0), (.int .i64 0)]) zeroValue38 rfl rfl (fun b3 => ?_))
 refine WL.nil (tn (WP.seq (WP.region (V rfl (ov_fieldAddr underlying38 rfl rfl rfl sizeOf3 rfl rfl) (Vl 2 isAgg3 rfl (V rfl (ov_fieldAddr underlying38 rfl rfl rfl sizeOf3 rfl rfl) (Vl 1 isAgg3 rfl (V rfl (ov_max rfl rfl rfl) (V rfl (ov_fieldAddr underlying38 rfl rfl rfl sizeOf3 rfl rfl) (Vl 2 isAgg3 rfl (V rfl (ov_fieldAddr underlying38 rfl rfl rfl sizeOf3 rfl rfl) (Vl 1 isAgg3 rfl (V rfl (ov_max rfl rfl rfl) ?_)))))))))))))
 refine V rfl (ov_build (r := (.agg #[(.int .i64 (if p_b.low > p_a.low then p_b.low else p_a.low)), (.int .i64 (if p_b.high > p_a.high then p_b.high else p_a.high))])) rfl rfl (fun _ => by kernel_rfl)) ?_
 refine ws0 rfl (os_store (i := 0) (vs := [(.int .i64 (if p_b.low > p_a.low then p_b.low else p_a.low)), (.int .i64 (if p_b.high > p_a.high then p_b.high else p_a.high))]) (cs' := [(.int .i64 (if p_b.low > p_a.low then p_b.low else p_a.low)), (.int .i64 (if p_b.high > p_a.high then p_b.high else p_a.high))]) sizeOf38 rfl rfl rfl rfl rfl rfl rfl rfl rfl ?_)
 refine WL.nil (tn (WP.ret ?_))
 obtain rfl := Option.some.inj hm
 refine retQ_ret results62 (Res.cell rfl (box_loads (i := 0) isAgg38 sizeOf38 rfl rfl) Res.nil) rfl (fun w' s => ⟨s.below, ?_⟩)
 exact rfl
theorem ref03_Plus_con (p_a : Span) (p_b : Span) (w : World) (H : Heap) (hH : Le H (hp w)) (hG : Glob H) (r : Span) (hm : ref03_Plus p_a p_b = some r) :
  Con prog 63 [(.agg #[(.int .i64 p_a.low), (.int .i64 p_a.high)]), (.agg #[(.int .i64 p_b.low), (.int .i64 p_b.high)])] w H (fun v _ => v = (.agg #[(.int .i64 r.low), (.int .i64 r.high)])) := by
 unfold ref03_Plus at hm
 refine con_of hH func63 rfl 16 ntmps63 rfl ?_
 refine WP.seq (WP.region ?_)
 refine ws rfl (os_box (cs := [(.int .i64 p_a.low), (.int .i64 p_a.high)]) rfl rfl rfl (fun b1 => ?_))
 refine ws rfl (os_box (cs := [(.int .i64 p_b.low), (.int .i64 p_b.high)]) rfl rfl rfl (fun b2 => ?_))
 refine ws rfl (os_alloc (cs := [(.int .i64 0), (.int .i64 0)]) zeroValue38 rfl rfl (fun b3 => ?_))
 refine WL.nil (tn (WP.seq (WP.region (V rfl (ov_fieldAddr underlying38 rfl rfl rfl sizeOf3 rfl rfl) (Vl 2 isAgg3 rfl (V rfl (ov_fieldAddr underlying38 rfl rfl rfl sizeOf3 rfl rfl) (Vl 1 isAgg3 rfl (V rfl (ov_add rfl rfl rfl) (V rfl (ov_fieldAddr underlying38 rfl rfl rfl sizeOf3 rfl rfl) (Vl 2 isAgg3 rfl (V rfl (ov_fieldAddr underlying38 rfl rfl rfl sizeOf3 rfl rfl) (Vl 1 isAgg3 rfl (V rfl (ov_add rfl rfl rfl) ?_)))))))))))))
 refine V rfl (ov_build (r := (.agg #[(.int .i64 (IntKind.wrap .i64 (p_a.low + p_b.low))), (.int .i64 (IntKind.wrap .i64 (p_a.high + p_b.high)))])) rfl rfl (fun _ => by kernel_rfl)) ?_
 refine ws0 rfl (os_store (i := 0) (vs := [(.int .i64 (IntKind.wrap .i64 (p_a.low + p_b.low))), (.int .i64 (IntKind.wrap .i64 (p_a.high + p_b.high)))]) (cs' := [(.int .i64 (IntKind.wrap .i64 (p_a.low + p_b.low))), (.int .i64 (IntKind.wrap .i64 (p_a.high + p_b.high)))]) sizeOf38 rfl rfl rfl rfl rfl rfl rfl rfl rfl ?_)
 refine WL.nil (tn (WP.ret ?_))
 obtain rfl := Option.some.inj hm
 refine retQ_ret results63 (Res.cell rfl (box_loads (i := 0) isAgg38 sizeOf38 rfl rfl) Res.nil) rfl (fun w' s => ⟨s.below, ?_⟩)
 exact rfl
theorem ref17_All_con (p_s : Sequence) (p_p : Plant) (ao1 : Option Addr) (cap1 : Nat) (ao2 : Option Addr) (cap2 : Nat) (w : World) (H : Heap) (hH : Le H (hp w)) (h1 : SL H encStep ao1 p_s.steps) (hc1 : p_s.steps.length ≤ cap1) (h2 : SL H encTravel ao2 p_p.travels) (hc2 : p_p.travels.length ≤ cap2) (hG : Glob H) (r : (List RSlot)) (hm : ref17_All p_s p_p = some r) :
  Con prog 36 [(.agg #[(.int .i64 p_s.actuators), (.slice ao1 p_s.steps.length cap1)]), (.agg #[(.slice ao2 p_p.travels.length cap2)])] w H (fun v H' => ∃ (ao3 : Option Addr) (cap3 : Nat), v = (.slice ao3 r.length cap3) ∧ SL H' encRSlot ao3 r ∧ r.length ≤ cap3) := by
 unfold ref17_All at hm
 refine con_of hH func36 rfl 58 ntmps36 rfl ?_
 refine WP.seq (WP.region ?_)
 refine ws rfl (os_box (cs := [(.int .i64 p_s.actuators), (.slice ao1 p_s.steps.length cap1)]) rfl rfl rfl (fun b1 => ?_))
 refine ws rfl (os_box (cs := [(.slice ao2 p_p.travels.length cap2)]) rfl rfl rfl (fun b2 => ?_))
 refine Va rfl (WL.nil (tn (WP.seq (WP.region (Va rfl (WL.nil (tn (WP.seq (WP.region ?_)))))))))
 obtain ⟨r1, e1, hm⟩ := bind_some hm
 refine wo rfl (oq_con (r := (.agg #[(.int .i64 r1.low), (.int .i64 r1.high)])) call61 rfl rfl (fun w' s => ⟨_, (ref17_point_con 0  w' H s.hold hG r1 e1)⟩)) ?_
 refine ws rfl (os_alloc (cs := [(.int .i64 0), (.int .i64 0)]) zeroValue38 rfl rfl (fun b3 => ?_))
 refine ws0 rfl (os_store (i := 0) (vs := [(.int .i64 r1.low), (.int .i64 r1.high)]) (cs' := [(.int .i64 r1.low), (.int .i64 r1.high)]) sizeOf38 rfl rfl rfl rfl rfl rfl rfl rfl rfl ?_)
 refine WL.nil (tn ?_)
 obtain ⟨k1, hk1, hm⟩ := joinK_some hm
 refine WP.seq_join (fun g' S' => ∃ (l4 : (List RSlot)) (ao8 : Option Addr) (cap8 : Nat) (xs3 : List Value), RL H encRSlot l4 xs3 ∧ Sub [(5, (.slice ao8 l4.length cap8)), (1000000007, (.bool false))] g' ∧ (∀ w', S' w' → St w H [.row 80 (encRSlot).size l4.length (.slice ao8 l4.length cap8) xs3] H w') ∧ k1 l4 = some r) ?_ ?_
 ·
  refine WP.seq (WP.region (Va rfl (WL.nil (tn (WP.block ?_)))))
  have rl1 := RL.nil (α := RSlot) H encRSlot
  refine WP.weaken (fun _ s => s.nilrow 80 (encRSlot).size) ?_
  refine WP.loop (fun m1 g' S' => ∃ (i1 : Int) (l1 : (List RSlot)) (ao4 : Option Addr) (cap4 : Nat) (xs1 : List Value) (i2 : Int) (i3 : Int), RL H encRSlot l1 xs1 ∧ Sub [(2, (pB b1 0)), (3, (pB b2 0)), (5, (.slice ao4 l1.length cap4)), (6, (pB b3 0)), (7, (.int .i64 i1)), (1000000007, (.bool false))] g' ∧ (∀ w', S' w' → St w H [.row 80 (encRSlot).size l1.length (.slice ao4 l1.length cap4) xs1, .blk b3 38 [(.int .i64 i2), (.int .i64 i3)], .blk b2 27 [(.slice ao2 p_p.travels.length cap2)], .blk b1 24 [(.int .i64 p_s.actuators), (.slice ao1 p_s.steps.length cap1)]] H w') ∧ ref17_All_loop1 p_s k1 p_p m1 i1 l1 i2 i3 = some r) ((Int.toNat ((p_s.steps.length : Int) - 0) + 1)) ⟨0, ([] : List RSlot), none, 0, [], r1.low, r1.high, rl1, (Sub.all rfl), fun w' s => s, hm⟩ ?_ ?_
  ·
   rintro g' S' ⟨_, _, _, _, _, _, _, _, _, _, hm⟩
   exact none_some hm
  rintro m1 g' S' ⟨i1, l1, ao4, cap4, xs1, i2, i3, rl2, hsub1, hS1, hm⟩
  refine WP.sub hsub1 (WP.weaken hS1 ?_)
  rw [ref17_All_loop1] at hm
  refine WP.seq (WP.seq (WP.region (Vm rfl (V rfl (ov_fieldAddr underlying24 rfl rfl rfl sizeOf22 rfl rfl) (Vl 3 isAgg22 rfl (V rfl (ov_len_slice underlying22 rfl rfl) (V rfl (ov_lss rfl rfl rfl) (WL.nil (tn ?_)))))))))
  refine WP.cond rfl (fun hc4 => ?_) (fun hc4 => ?_)
  ·
   replace hm := ite_t hc4 hm
   refine WP.skip (tn ?_)
   obtain ⟨k2, hk2, hm⟩ := joinK_some hm
   refine WP.seq_join (fun g' S' => ∃ (l3 : (List RSlot)) (ao7 : Option Addr) (cap7 : Nat) (xs2 : List Value) (i11 : Int) (i12 : Int), RL H encRSlot l3 xs2 ∧ Sub [(2, (pB b1 0)), (3, (pB b2 0)), (5, (.slice ao7 l3.length cap7)), (6, (pB b3 0)), (7, (.int .i64 i1)), (1000000007, (.bool false))] g' ∧ (∀ w', S' w' → St w H [.row 80 (encRSlot).size l3.length (.slice ao7 l3.length cap7) xs2, .blk b3 38 [(.int .i64 i11), (.int .i64 i12)], .blk b2 27 [(.slice ao2 p_p.travels.length cap2)], .blk b1 24 [(.int .i64 p_s.actuators), (.slice ao1 p_s.steps.length cap1)]] H w') ∧ k2 l3 i11 i12 = some r) ?_ ?_
   ·
    refine WP.block (WP.seq (WP.region (V rfl (ov_fieldAddr underlying24 rfl rfl rfl sizeOf22 rfl rfl) (Vl 3 isAgg22 rfl (Vm rfl ?_)))))
    obtain ⟨x1, e2, hm⟩ := bind_some hm
    obtain ⟨h5, h6, h7, cs1, h8, h9⟩ := h1.get e2 (by decide)
    obtain ⟨ao5, cap5, rfl, h4, hc5⟩ := h8
    refine V rfl (ov_indexAddr underlying22 sizeOf55 rfl rfl rfl h5 h6 h7) (V rfl (ov_load_elems (vs := [(.slice ao5 x1.strokes.length cap5), (.int .i64 x1.wait)]) isAgg55 sizeOf55 rfl rfl rfl h9 h7) ?_)
    refine ws rfl (os_alloc (cs := [(.slice none 0 0), (.int .i64 0)]) zeroValue55 rfl rfl (fun b4 => ?_))
    refine ws0 rfl (os_store (i := 0) (vs := [(.slice ao5 x1.strokes.length cap5), (.int .i64 x1.wait)]) (cs' := [(.slice ao5 x1.strokes.length cap5), (.int .i64 x1.wait)]) sizeOf55 rfl rfl rfl rfl rfl rfl rfl rfl rfl ?_)
    refine WL.nil (tn (WP.seq (WP.region (V rfl (ov_load_whole (i := 2) isAgg38 sizeOf38 rfl rfl rfl rfl) ?_))))
    refine ws rfl (os_alloc (cs := [(.int .i64 0), (.int .i64 0)]) zeroValue38 rfl rfl (fun b5 => ?_))
    refine ws0 rfl (os_store (i := 0) (vs := [(.int .i64 i2), (.int .i64 i3)]) (cs' := [(.int .i64 i2), (.int .i64 i3)]) sizeOf38 rfl rfl rfl rfl rfl rfl rfl rfl rfl ?_)
    refine WL.nil (tn ?_)
    obtain ⟨k3, hk3, hm⟩ := joinK_some hm
    refine WP.seq_join (fun g' S' => ∃ (i7 : Int) (i8 : Int), Sub [(2, (pB b1 0)), (3, (pB b2 0)), (5, (.slice ao4 l1.length cap4)), (6, (pB b3 0)), (7, (.int .i64 i1)), (8, (pB b4 0)), (9, (pB b5 0)), (1000000007, (.bool false))] g' ∧ (∀ w', S' w' → St w H [.blk b5 38 [(.int .i64 i7), (.int .i64 i8)], .blk b4 55 [(.slice ao5 x1.strokes.length cap5), (.int .i64 x1.wait)], .row 80 (encRSlot).size l1.length (.slice ao4 l1.length cap4) xs1, .blk b3 38 [(.int .i64 i2), (.int .i64 i3)], .blk b2 27 [(.slice ao2 p_p.travels.length cap2)], .blk b1 24 [(.int .i64 p_s.actuators), (.slice ao1 p_s.steps.length cap1)]] H w') ∧ k3 i7 i8 = some r) ?_ ?_
    ·
     refine WP.seq (WP.region (Va rfl (WL.nil (tn (WP.block ?_)))))
     refine WP.loop (fun m2 g' S' => ∃ (i4 : Int) (i5 : Int) (i6 : Int), Sub [(2, (pB b1 0)), (3, (pB b2 0)), (5, (.slice ao4 l1.length cap4)), (6, (pB b3 0)), (7, (.int .i64 i1)), (8, (pB b4 0)), (9, (pB b5 0)), (10, (.int .i64 i4)), (1000000007, (.bool false))] g' ∧ (∀ w', S' w' → St w H [.blk b5 38 [(.int .i64 i5), (.int .i64 i6)], .blk b4 55 [(.slice ao5 x1.strokes.length cap5), (.int .i64 x1.wait)], .row 80 (encRSlot).size l1.length (.slice ao4 l1.length cap4) xs1, .blk b3 38 [(.int .i64 i2), (.int .i64 i3)], .blk b2 27 [(.slice ao2 p_p.travels.length cap2)], .blk b1 24 [(.int .i64 p_s.actuators), (.slice ao1 p_s.steps.length cap1)]] H w') ∧ ref17_All_loop2 p_p i2 i3 x1 k3 m2 i4 i5 i6 = some r) ((Int.toNat ((x1.strokes.length : Int) - 0) + 1)) ⟨0, i2, i3, (Sub.all rfl), fun w' s => s, hm⟩ ?_ ?_
     ·
      rintro g' S' ⟨_, _, _, _, _, hm⟩
      exact none_some hm
     rintro m2 g' S' ⟨i4, i5, i6, hsub2, hS2, hm⟩
     refine WP.sub hsub2 (WP.weaken hS2 ?_)
     rw [ref17_All_loop2] at hm
     refine WP.seq (WP.seq (WP.region (Vm rfl (V rfl (ov_fieldAddr underlying55 rfl rfl rfl sizeOf53 rfl rfl) (Vl 1 isAgg53 rfl (V rfl (ov_len_slice underlying53 rfl rfl) (V rfl (ov_lss rfl rfl rfl) (WL.nil (tn ?_)))))))))
     refine WP.cond rfl (fun hc6 => ?_) (fun hc6 => ?_)
     ·
      replace hm := ite_t hc6 hm
      refine WP.skip (tn (WP.seq (WP.block ?_)))
      refine WP.region_any (S₀ := St w H [.blk b4 55 [(.slice ao5 x1.strokes.length cap5), (.int .i64 x1.wait)], .row 80 (encRSlot).size l1.length (.slice ao4 l1.length cap4) xs1, .blk b3 38 [(.int .i64 i2), (.int .i64 i3)], .blk b2 27 [(.slice ao2 p_p.travels.length cap2)], .blk b1 24 [(.int .i64 p_s.actuators), (.slice ao1 p_s.steps.length cap1)]] H) 12 rfl (by kernel_rfl) (fun w' s => (s.select [1, 2, 3, 4, 5] (by decide) rfl)) (fun _ s => s.drew) ?_
      refine TQ 1 (by kernel_rfl) rfl (ov_load_whole (i := 2) isAgg38 sizeOf38 rfl rfl rfl rfl) (TQ 2 (by kernel_rfl) rfl (ov_load_whole (i := 3) isAgg27 sizeOf27 rfl rfl rfl rfl) (TQ 3 (by kernel_rfl) rfl (ov_fieldAddr underlying55 rfl rfl rfl sizeOf53 rfl rfl) (TQ 4 (by kernel_rfl) rfl (ov_load_box (i := 0) isAgg53 rfl rfl rfl rfl) (TQ 5 (by kernel_rfl) rfl (ov_move rfl rfl) ?_))))
      obtain ⟨x2, e3, hm⟩ := bind_some hm
      obtain ⟨h10, h11, h12, cs2, h13, h14⟩ := h4.get e3 (by decide)
      obtain rfl : cs2 = [(.int .i64 x2.actuator), (.bool x2.out)] := h13
      refine TQ 6 (by kernel_rfl) rfl (ov_indexAddr underlying53 sizeOf59 rfl rfl rfl h10 h11 h12) (TQ 7 (by kernel_rfl) rfl (ov_load_elems (vs := [(.int .i64 x2.actuator), (.bool x2.out)]) isAgg59 sizeOf59 rfl rfl rfl h14 h12) ?_)
      refine AL.any (rs := [0, 8]) (by kernel_rfl) (by decide) ?_
      refine ALs.cons (i := 0) rfl (Runs.free rfl) rfl rfl ?_ ?_
      ·
       refine OQ.step (OV.quiet (ov_load_whole (i := 0) isAgg38 sizeOf38 rfl rfl rfl rfl)) ?_
       refine ⟨fun w' s => (s.select [1, 2, 3, 4, 5] (by decide) rfl), ?_⟩
       refine AL.any (rs := [8]) (by kernel_rfl) (by decide) ?_
       refine ALs.cons (i := 8) rfl (Runs.free rfl) rfl rfl ?_ ?_
       ·
        obtain ⟨r2, e4, hm⟩ := bind_some hm
        refine OQ.step (oq_con (r := (.agg #[(.int .i64 r2.low), (.int .i64 r2.high)])) call17 rfl rfl (fun w' s => ⟨_, (ref17_Way_con p_p x2 ao2 cap2  w' H s.hold h2 hc2 hG r2 e4)⟩)) ?_
        refine ⟨fun w' s => (s.select [1, 2, 3, 4, 5] (by decide) rfl), ?_⟩
        refine AL.any (rs := [9]) (by kernel_rfl) (by decide) ?_
        refine ALs.cons (i := 9) rfl (Runs.free rfl) rfl rfl ?_ ?_
        ·
         obtain ⟨r3, e5, hm⟩ := bind_some hm
         refine OQ.step (oq_con (r := (.agg #[(.int .i64 r3.low), (.int .i64 r3.high)])) call63 rfl rfl (fun w' s => ⟨_, (ref03_Plus_con (Span.mk i2 i3) r2  w' H s.hold hG r3 e5)⟩)) ?_
         refine ⟨fun w' s => (s.select [1, 2, 3, 4, 5] (by decide) rfl), ?_⟩
         refine AL.any (rs := [10]) (by kernel_rfl) (by decide) ?_
         refine ALs.cons (i := 10) rfl (Runs.free rfl) rfl rfl ?_ ?_
         ·
          obtain ⟨r4, e6, hm⟩ := bind_some hm
          refine OQ.step (oq_con (r := (.agg #[(.int .i64 r4.low), (.int .i64 r4.high)])) call62 rfl rfl (fun w' s => ⟨_, (ref03_Last_con (Span.mk i5 i6) r3  w' H s.hold hG r4 e6)⟩)) ?_
          refine ⟨fun w' s => (s.select [1, 2, 3, 4, 5] (by decide) rfl), ?_⟩
          refine AL.any (rs := [11]) (by kernel_rfl) (by decide) ?_
          refine ALs.cons0 (i := 11) rfl (Runs.free rfl) rfl ?_ ?_
          ·
           refine os_store (i := 0) (vs := [(.int .i64 r4.low), (.int .i64 r4.high)]) (cs' := [(.int .i64 r4.low), (.int .i64 r4.high)]) sizeOf38 rfl rfl rfl rfl rfl rfl rfl rfl rfl ?_
           refine ⟨fun w' s => (s.select [1, 2, 3, 4, 5] (by decide) rfl), ?_⟩
           refine AL.done (by kernel_rfl) ?_
           refine bn (tn (WP.region (Vm rfl (V rfl (ov_add rfl rfl rfl) (Va rfl (WL.nil (tn ?_)))))))
           exact ⟨(IntKind.wrap .i64 (i4 + 1)), r4.low, r4.high, (Sub.all rfl), fun w' s => s, hm⟩
          exact ALs.nil
         exact ALs.nil
        exact ALs.nil
       exact ALs.nil
      refine ALs.cons (i := 8) rfl (Runs.free rfl) rfl rfl ?_ ?_
      ·
       obtain ⟨r2, e4, hm⟩ := bind_some hm
       refine OQ.step (oq_con (r := (.agg #[(.int .i64 r2.low), (.int .i64 r2.high)])) call17 rfl rfl (fun w' s => ⟨_, (ref17_Way_con p_p x2 ao2 cap2  w' H s.hold h2 hc2 hG r2 e4)⟩)) ?_
       refine ⟨fun w' s => (s.select [1, 2, 3, 4, 5] (by decide) rfl), ?_⟩
       refine AL.any (rs := [0, 9]) (by kernel_rfl) (by decide) ?_
       refine ALs.cons (i := 0) rfl (Runs.free rfl) rfl rfl ?_ ?_
       ·
        refine OQ.step (OV.quiet (ov_load_whole (i := 0) isAgg38 sizeOf38 rfl rfl rfl rfl)) ?_
        refine ⟨fun w' s => (s.select [1, 2, 3, 4, 5] (by decide) rfl), ?_⟩
        refine AL.any (rs := [9]) (by kernel_rfl) (by decide) ?_
        refine ALs.cons (i := 9) rfl (Runs.free rfl) rfl rfl ?_ ?_
        ·
         obtain ⟨r3, e5, hm⟩ := bind_some hm
         refine OQ.step (oq_con (r := (.agg #[(.int .i64 r3.low), (.int .i64 r3.high)])) call63 rfl rfl (fun w' s => ⟨_, (ref03_Plus_con (Span.mk i2 i3) r2  w' H s.hold hG r3 e5)⟩)) ?_
         refine ⟨fun w' s => (s.select [1, 2, 3, 4, 5] (by decide) rfl), ?_⟩
         refine AL.any (rs := [10]) (by kernel_rfl) (by decide) ?_
         refine ALs.cons (i := 10) rfl (Runs.free rfl) rfl rfl ?_ ?_
         ·
          obtain ⟨r4, e6, hm⟩ := bind_some hm
          refine OQ.step (oq_con (r := (.agg #[(.int .i64 r4.low), (.int .i64 r4.high)])) call62 rfl rfl (fun w' s => ⟨_, (ref03_Last_con (Span.mk i5 i6) r3  w' H s.hold hG r4 e6)⟩)) ?_
          refine ⟨fun w' s => (s.select [1, 2, 3, 4, 5] (by decide) rfl), ?_⟩
          refine AL.any (rs := [11]) (by kernel_rfl) (by decide) ?_
          refine ALs.cons0 (i := 11) rfl (Runs.free rfl) rfl ?_ ?_
          ·
           refine os_store (i := 0) (vs := [(.int .i64 r4.low), (.int .i64 r4.high)]) (cs' := [(.int .i64 r4.low), (.int .i64 r4.high)]) sizeOf38 rfl rfl rfl rfl rfl rfl rfl rfl rfl ?_
           refine ⟨fun w' s => (s.select [1, 2, 3, 4, 5] (by decide) rfl), ?_⟩
           refine AL.done (by kernel_rfl) ?_
           refine bn (tn (WP.region (Vm rfl (V rfl (ov_add rfl rfl rfl) (Va rfl (WL.nil (tn ?_)))))))
           exact ⟨(IntKind.wrap .i64 (i4 + 1)), r4.low, r4.high, (Sub.all rfl), fun w' s => s, hm⟩
          exact ALs.nil
         exact ALs.nil
        exact ALs.nil
       refine ALs.cons (i := 9) rfl (Runs.free rfl) rfl rfl ?_ ?_
       ·
        obtain ⟨r3, e5, hm⟩ := bind_some hm
        refine OQ.step (oq_con (r := (.agg #[(.int .i64 r3.low), (.int .i64 r3.high)])) call63 rfl rfl (fun w' s => ⟨_, (ref03_Plus_con (Span.mk i2 i3) r2  w' H s.hold hG r3 e5)⟩)) ?_
        refine ⟨fun w' s => (s.select [1, 2, 3, 4, 5] (by decide) rfl), ?_⟩
        refine AL.any (rs := [0]) (by kernel_rfl) (by decide) ?_
        refine ALs.cons (i := 0) rfl (Runs.free rfl) rfl rfl ?_ ?_
        ·
         refine OQ.step (OV.quiet (ov_load_whole (i := 0) isAgg38 sizeOf38 rfl rfl rfl rfl)) ?_
         refine ⟨fun w' s => (s.select [1, 2, 3, 4, 5] (by decide) rfl), ?_⟩
         refine AL.any (rs := [10]) (by kernel_rfl) (by decide) ?_
         refine ALs.cons (i := 10) rfl (Runs.free rfl) rfl rfl ?_ ?_
         ·
          obtain ⟨r4, e6, hm⟩ := bind_some hm
          refine OQ.step (oq_con (r := (.agg #[(.int .i64 r4.low), (.int .i64 r4.high)])) call62 rfl rfl (fun w' s => ⟨_, (ref03_Last_con (Span.mk i5 i6) r3  w' H s.hold hG r4 e6)⟩)) ?_
          refine ⟨fun w' s => (s.select [1, 2, 3, 4, 5] (by decide) rfl), ?_⟩
          refine AL.any (rs := [11]) (by kernel_rfl) (by decide) ?_
          refine ALs.cons0 (i := 11) rfl (Runs.free rfl) rfl ?_ ?_
          ·
           refine os_store (i := 0) (vs := [(.int .i64 r4.low), (.int .i64 r4.high)]) (cs' := [(.int .i64 r4.low), (.int .i64 r4.high)]) sizeOf38 rfl rfl rfl rfl rfl rfl rfl rfl rfl ?_
           refine ⟨fun w' s => (s.select [1, 2, 3, 4, 5] (by decide) rfl), ?_⟩
           refine AL.done (by kernel_rfl) ?_
           refine bn (tn (WP.region (Vm rfl (V rfl (ov_add rfl rfl rfl) (Va rfl (WL.nil (tn ?_)))))))
           exact ⟨(IntKind.wrap .i64 (i4 + 1)), r4.low, r4.high, (Sub.all rfl), fun w' s => s, hm⟩
          exact ALs.nil
         exact ALs.nil
        exact ALs.nil
       exact ALs.nil
      exact ALs.nil
     replace hm := ite_f hc6 hm
     refine WP.exit (then_exit (then_exit (block_here (tn ?_))))
     exact ⟨i5, i6, (Sub.all rfl), fun w' s => s, hm⟩
    rintro g' S' ⟨i7, i8, hsub3, hS3, hm⟩
    refine WP.sub hsub3 (WP.weaken hS3 ?_)
    replace hm := (congrFun (congrFun hk3 i7) i8).symm.trans hm
    obtain ⟨k4, hk4, hm⟩ := joinK_some hm
    refine WP.seq_join (fun g' S' => ∃ (b7 : Nat) (i9 : Int) (i10 : Int), Sub [(2, (pB b1 0)), (3, (pB b2 0)), (5, (.slice ao4 l1.length cap4)), (6, (pB b3 0)), (7, (.int .i64 i1)), (9, (pB b5 0)), (11, (pB b7 0)), (1000000007, (.bool false))] g' ∧ (∀ w', S' w' → St w H [.blk b7 38 [(.int .i64 i9), (.int .i64 i10)], .blk b5 38 [(.int .i64 i7), (.int .i64 i8)], .row 80 (encRSlot).size l1.length (.slice ao4 l1.length cap4) xs1, .blk b3 38 [(.int .i64 i2), (.int .i64 i3)], .blk b2 27 [(.slice ao2 p_p.travels.length cap2)], .blk b1 24 [(.int .i64 p_s.actuators), (.slice ao1 p_s.steps.length cap1)]] H w') ∧ k4 i9 i10 = some r) ?_ ?_
    ·
     refine WP.region_any (S₀ := St w H [.blk b5 38 [(.int .i64 i7), (.int .i64 i8)], .blk b4 55 [(.slice ao5 x1.strokes.length cap5), (.int .i64 x1.wait)], .row 80 (encRSlot).size l1.length (.slice ao4 l1.length cap4) xs1, .blk b3 38 [(.int .i64 i2), (.int .i64 i3)], .blk b2 27 [(.slice ao2 p_p.travels.length cap2)], .blk b1 24 [(.int .i64 p_s.actuators), (.slice ao1 p_s.steps.length cap1)]] H) 7 rfl (by kernel_rfl) (fun w' s => s) (fun _ s => s.drew) ?_
     refine TQ 0 (by kernel_rfl) rfl (ov_load_whole (i := 0) isAgg38 sizeOf38 rfl rfl rfl rfl) (TQ 1 (by kernel_rfl) rfl (ov_fieldAddr underlying55 rfl rfl rfl sizeOf3 rfl rfl) (TQ 2 (by kernel_rfl) rfl (ov_load_box (i := 1) isAgg3 rfl rfl rfl rfl) ?_))
     refine AL.any (rs := [3, 5]) (by kernel_rfl) (by decide) ?_
     refine ALs.cons (i := 3) rfl (Runs.free rfl) rfl rfl ?_ ?_
     ·
      obtain ⟨r5, e7, hm⟩ := bind_some hm
      refine OQ.step (oq_con (r := (.agg #[(.int .i64 r5.low), (.int .i64 r5.high)])) call61 rfl rfl (fun w' s => ⟨_, (ref17_point_con x1.wait  w' H s.hold hG r5 e7)⟩)) ?_
      refine ⟨fun w' s => s, ?_⟩
      refine AL.any (rs := [4, 5]) (by kernel_rfl) (by decide) ?_
      refine ALs.cons (i := 4) rfl (Runs.free rfl) rfl rfl ?_ ?_
      ·
       obtain ⟨r6, e8, hm⟩ := bind_some hm
       refine OQ.step (oq_con (r := (.agg #[(.int .i64 r6.low), (.int .i64 r6.high)])) call63 rfl rfl (fun w' s => ⟨_, (ref03_Plus_con (Span.mk i7 i8) r5  w' H s.hold hG r6 e8)⟩)) ?_
       refine ⟨fun w' s => s, ?_⟩
       refine AL.any (rs := [5]) (by kernel_rfl) (by decide) ?_
       refine ALs.cons (i := 5) rfl (Runs.free rfl) rfl rfl ?_ ?_
       ·
        refine os_alloc (cs := [(.int .i64 0), (.int .i64 0)]) zeroValue38 rfl rfl (fun b6 => ?_)
        refine ⟨fun w' s => (s.select [1, 2, 3, 4, 5, 6] (by decide) rfl), ?_⟩
        refine AL.any (rs := [6]) (by kernel_rfl) (by decide) ?_
        refine ALs.cons0 (i := 6) rfl (Runs.free rfl) rfl ?_ ?_
        ·
         refine os_store (i := 0) (vs := [(.int .i64 r6.low), (.int .i64 r6.high)]) (cs' := [(.int .i64 r6.low), (.int .i64 r6.high)]) sizeOf38 rfl rfl rfl rfl rfl rfl rfl rfl rfl ?_
         refine ⟨fun w' s => (s.select [1, 2, 3, 4, 5, 6] (by decide) rfl), ?_⟩
         refine AL.done (by kernel_rfl) ?_
         refine tn ?_
         exact ⟨b6, r6.low, r6.high, (Sub.all rfl), fun w' s => (s.select [0, 1, 3, 4, 5, 6] (by decide) rfl), hm⟩
        exact ALs.nil
       exact ALs.nil
      refine ALs.cons (i := 5) rfl (Runs.free rfl) rfl rfl ?_ ?_
      ·
       refine os_alloc (cs := [(.int .i64 0), (.int .i64 0)]) zeroValue38 rfl rfl (fun b6 => ?_)
       refine ⟨fun w' s => (s.select [1, 2, 3, 4, 5, 6] (by decide) rfl), ?_⟩
       refine AL.any (rs := [4]) (by kernel_rfl) (by decide) ?_
       refine ALs.cons (i := 4) rfl (Runs.free rfl) rfl rfl ?_ ?_
       ·
        obtain ⟨r6, e8, hm⟩ := bind_some hm
        refine OQ.step (oq_con (r := (.agg #[(.int .i64 r6.low), (.int .i64 r6.high)])) call63 rfl rfl (fun w' s => ⟨_, (ref03_Plus_con (Span.mk i7 i8) r5  w' H s.hold hG r6 e8)⟩)) ?_
        refine ⟨fun w' s => (s.select [1, 2, 3, 4, 5, 6] (by decide) rfl), ?_⟩
        refine AL.any (rs := [6]) (by kernel_rfl) (by decide) ?_
        refine ALs.cons0 (i := 6) rfl (Runs.free rfl) rfl ?_ ?_
        ·
         refine os_store (i := 0) (vs := [(.int .i64 r6.low), (.int .i64 r6.high)]) (cs' := [(.int .i64 r6.low), (.int .i64 r6.high)]) sizeOf38 rfl rfl rfl rfl rfl rfl rfl rfl rfl ?_
         refine ⟨fun w' s => (s.select [1, 2, 3, 4, 5, 6] (by decide) rfl), ?_⟩
         refine AL.done (by kernel_rfl) ?_
         refine tn ?_
         exact ⟨b6, r6.low, r6.high, (Sub.all rfl), fun w' s => (s.select [0, 1, 3, 4, 5, 6] (by decide) rfl), hm⟩
        exact ALs.nil
       exact ALs.nil
      exact ALs.nil
     refine ALs.cons (i := 5) rfl (Runs.free rfl) rfl rfl ?_ ?_
     ·
      refine os_alloc (cs := [(.int .i64 0), (.int .i64 0)]) zeroValue38 rfl rfl (fun b6 => ?_)
      refine ⟨fun w' s => (s.select [1, 2, 3, 4, 5, 6] (by decide) rfl), ?_⟩
      refine AL.any (rs := [3]) (by kernel_rfl) (by decide) ?_
      refine ALs.cons (i := 3) rfl (Runs.free rfl) rfl rfl ?_ ?_
      ·
       obtain ⟨r5, e7, hm⟩ := bind_some hm
       refine OQ.step (oq_con (r := (.agg #[(.int .i64 r5.low), (.int .i64 r5.high)])) call61 rfl rfl (fun w' s => ⟨_, (ref17_point_con x1.wait  w' H s.hold hG r5 e7)⟩)) ?_
       refine ⟨fun w' s => (s.select [1, 2, 3, 4, 5, 6] (by decide) rfl), ?_⟩
       refine AL.any (rs := [4]) (by kernel_rfl) (by decide) ?_
       refine ALs.cons (i := 4) rfl (Runs.free rfl) rfl rfl ?_ ?_
       ·
        obtain ⟨r6, e8, hm⟩ := bind_some hm
        refine OQ.step (oq_con (r := (.agg #[(.int .i64 r6.low), (.int .i64 r6.high)])) call63 rfl rfl (fun w' s => ⟨_, (ref03_Plus_con (Span.mk i7 i8) r5  w' H s.hold hG r6 e8)⟩)) ?_
        refine ⟨fun w' s => (s.select [1, 2, 3, 4, 5, 6] (by decide) rfl), ?_⟩
        refine AL.any (rs := [6]) (by kernel_rfl) (by decide) ?_
        refine ALs.cons0 (i := 6) rfl (Runs.free rfl) rfl ?_ ?_
        ·
         refine os_store (i := 0) (vs := [(.int .i64 r6.low), (.int .i64 r6.high)]) (cs' := [(.int .i64 r6.low), (.int .i64 r6.high)]) sizeOf38 rfl rfl rfl rfl rfl rfl rfl rfl rfl ?_
         refine ⟨fun w' s => (s.select [1, 2, 3, 4, 5, 6] (by decide) rfl), ?_⟩
         refine AL.done (by kernel_rfl) ?_
         refine tn ?_
         exact ⟨b6, r6.low, r6.high, (Sub.all rfl), fun w' s => (s.select [0, 1, 3, 4, 5, 6] (by decide) rfl), hm⟩
        exact ALs.nil
       exact ALs.nil
      exact ALs.nil
     exact ALs.nil
    rintro g' S' ⟨b7, i9, i10, hsub4, hS4, hm⟩
    refine WP.sub hsub4 (WP.weaken hS4 ?_)
    replace hm := (congrFun (congrFun hk4 i9) i10).symm.trans hm
    refine WP.seq (WP.region (Vm rfl (V rfl (ov_load_whole (i := 3) isAgg38 sizeOf38 rfl rfl rfl rfl) (V rfl (ov_load_whole (i := 1) isAgg38 sizeOf38 rfl rfl rfl rfl) (V rfl (ov_load_whole (i := 0) isAgg38 sizeOf38 rfl rfl rfl rfl) (V rfl (ov_build (r := (.agg #[(.int .i64 i2), (.int .i64 i3), (.int .i64 i7), (.int .i64 i8), (.int .i64 i9), (.int .i64 i10)])) rfl rfl (fun _ => by kernel_rfl)) ?_))))))
    have rl3 : RL H encRSlot ([(RSlot.mk (Span.mk i2 i3) (Span.mk i7 i8) (Span.mk i9 i10))] : List RSlot) [(.int .i64 i2), (.int .i64 i3), (.int .i64 i7), (.int .i64 i8), (.int .i64 i9), (.int .i64 i10)] := RL.cons (cs := [(.int .i64 i2), (.int .i64 i3), (.int .i64 i7), (.int .i64 i8), (.int .i64 i9), (.int .i64 i10)]) (xs := []) rfl (RL.nil _ _)
    refine ws rfl (os_buildSlice (cs := [(.int .i64 i2), (.int .i64 i3), (.int .i64 i7), (.int .i64 i8), (.int .i64 i9), (.int .i64 i10)]) (E := 80) (sz := 6) rfl rfl (fun _ => by kernel_rfl) rfl (by decide) (fun b8 => ?_))
    obtain ⟨l2, e9, hm⟩ := bind_some hm
    refine ws rfl (os_app (i := 3) (j := 0) (En := encRSlot) (xs := xs1) (ys := [(.int .i64 i2), (.int .i64 i3), (.int .i64 i7), (.int .i64 i8), (.int .i64 i9), (.int .i64 i10)]) underlying81 (by kernel_rfl : (prog.info? 80).map (fun i => (i.zero, i.size, i.bytes)) = some (some (.agg #[(.int .i64 0), (.int .i64 0), (.int .i64 0), (.int .i64 0), (.int .i64 0), (.int .i64 0)]), (encRSlot).size, 48)) rfl (by decide) rfl rfl rfl rfl rfl rfl rl2 rl3 e9 (fun ao6 cap6 rl4 => ?_))
    refine Va rfl (WL.nil (tn (WP.region (V rfl (ov_load_whole (i := 1) isAgg38 sizeOf38 rfl rfl rfl rfl) ?_))))
    refine ws0 rfl (os_store (i := 4) (vs := [(.int .i64 i9), (.int .i64 i10)]) (cs' := [(.int .i64 i9), (.int .i64 i10)]) sizeOf38 rfl rfl rfl rfl rfl rfl rfl rfl rfl ?_)
    refine WL.nil (bn (tn ?_))
    exact ⟨(l1 ++ ([(RSlot.mk (Span.mk i2 i3) (Span.mk i7 i8) (Span.mk i9 i10))] : List RSlot)), ao6, cap6, (xs1 ++ [(.int .i64 i2), (.int .i64 i3), (.int .i64 i7), (.int .i64 i8), (.int .i64 i9), (.int .i64 i10)]), i9, i10, rl4, (Sub.all rfl), fun w' s => (s.select [3, 4, 5, 6] (by decide) rfl), hm⟩
   rintro g' S' ⟨l3, ao7, cap7, xs2, i11, i12, rl5, hsub5, hS5, hm⟩
   refine WP.sub hsub5 (WP.weaken hS5 ?_)
   replace hm := (congrFun (congrFun (congrFun hk2 l3) i11) i12).symm.trans hm
   refine WP.region (Vm rfl (V rfl (ov_add rfl rfl rfl) (Va rfl (WL.nil (tn ?_)))))
   exact ⟨(IntKind.wrap .i64 (i1 + 1)), l3, ao7, cap7, xs2, i11, i12, rl5, (Sub.all rfl), fun w' s => s, hm⟩
  replace hm := ite_f hc4 hm
  refine WP.exit (then_exit (then_exit (block_here (tn ?_))))
  exact ⟨l1, ao4, cap4, xs1, rl2, (Sub.all rfl), fun w' s => (s.select [0] (by decide) rfl), hm⟩
 rintro g' S' ⟨l4, ao8, cap8, xs3, rl6, hsub6, hS6, hm⟩
 refine WP.sub hsub6 (WP.weaken hS6 ?_)
 replace hm := (congrFun hk1 l4).symm.trans hm
 refine WP.seq (WP.region (Vm rfl (Va rfl (WL.nil (tn (WP.ret ?_))))))
 obtain rfl := Option.some.inj hm
 refine retQ_ret results36 (Res.tmp rfl Res.nil) rfl (fun w' s => ⟨s.below, ?_⟩)
 obtain ⟨h15, hc7⟩ := s.ret_row (i := 0) rfl rl6
 exact ⟨ao8, cap8, rfl, h15, hc7⟩
end Go.Proofs.YtkgijoddkibapaaGreatDoor.W
