import Derived.Test.YtkgijoddkibapaaGreatDoorPlain
import Derived.Test.YtkgijoddkibapaaGreatDoorEqs
import Derived.Test.YtkgijoddkibapaaGreatDoorProg
import Derived.Test.YtkgijoddkibapaaGreatDoorExt
import Derived.Test.YtkgijoddkibapaaGreatDoorBuild
import Derived.Test.YtkgijoddkibapaaGreatDoorClone
import Derived.Test.YtkgijoddkibapaaGreatDoorWalk2
set_option linter.unusedVariables false
set_option maxRecDepth 100000
set_option maxHeartbeats 4000000
namespace Go.Proofs.YtkgijoddkibapaaGreatDoor.W
open Go Go.RowKit Go.Proofs.Tryz
theorem schedule_whole_con (p_s : Sequence) (p_p : Plant) (ao1 : Option Addr) (cap1 : Nat) (ao2 : Option Addr) (cap2 : Nat) (w : World) (H : Heap) (hH : Le H (hp w)) (h1 : SL H encStep ao1 p_s.steps) (hc1 : p_s.steps.length ≤ cap1) (h2 : SL H encTravel ao2 p_p.travels) (hc2 : p_p.travels.length ≤ cap2) (hG : Glob H) (r : Span) (hm : schedule_whole p_s p_p = some r) :
  Con prog 26 [(.agg #[(.int .i64 p_s.actuators), (.slice ao1 p_s.steps.length cap1)]), (.agg #[(.slice ao2 p_p.travels.length cap2)])] w H (fun v _ => v = (.agg #[(.int .i64 r.low), (.int .i64 r.high)])) := by
 unfold schedule_whole at hm
 refine con_of hH func26 rfl 16 ntmps26 rfl ?_
 refine WP.seq (WP.region ?_)
 refine ws rfl (os_box (cs := [(.int .i64 p_s.actuators), (.slice ao1 p_s.steps.length cap1)]) rfl rfl rfl (fun b1 => ?_))
 refine ws rfl (os_box (cs := [(.slice ao2 p_p.travels.length cap2)]) rfl rfl rfl (fun b2 => ?_))
 refine ws rfl (os_alloc (cs := [(.int .i64 0), (.int .i64 0)]) zeroValue38 rfl rfl (fun b3 => ?_))
 refine WL.nil (tn (WP.seq (WP.region ?_)))
 refine ws rfl (os_alloc (cs := [(.int .i64 0), (.int .i64 0)]) zeroValue38 rfl rfl (fun b4 => ?_))
 refine WL.nil (tn (WP.seq (WP.seq (WP.region (V rfl (ov_load_whole (i := 3) isAgg24 sizeOf24 rfl rfl rfl rfl) (V rfl (ov_load_whole (i := 2) isAgg27 sizeOf27 rfl rfl rfl rfl) ?_))))))
 refine ws rfl (os_inline (cap := []) (vs := [(.agg #[(.int .i64 p_s.actuators), (.slice ao1 p_s.steps.length cap1)]), (.agg #[(.slice ao2 p_p.travels.length cap2)])]) call44 rfl rfl rfl func44 rfl 6 ntmps44 rfl (fun w' s => ?_))
 refine WP.seq (WP.region ?_)
 refine ws rfl (os_box (cs := [(.int .i64 p_s.actuators), (.slice ao1 p_s.steps.length cap1)]) rfl rfl rfl (fun b5 => ?_))
 refine ws rfl (os_box (cs := [(.slice ao2 p_p.travels.length cap2)]) rfl rfl rfl (fun b6 => ?_))
 refine Va rfl (WL.nil (tn (WP.seq (WP.region (V rfl (ov_makeFunc' (first := []) rfl rfl rfl) (Va rfl (WL.nil (tn (WP.ret ?_)))))))))
 refine retQ_ret (v := (.func (.func 79) #[] #[(pB b5 0), (pB b6 0)])) results44 (Res.tmp rfl Res.nil) rfl (fun w' s => ⟨_, ?_, s⟩)
 refine WL.nil (tn (WP.block ?_))
 refine WP.weaken (fun _ s => s.select [1, 0, 2, 3, 4, 5] (by decide) rfl) ?_
 refine WP.box_held (fun H1 hle1 hc3 => ?_)
 have hb1 : RowAt H1 (some ⟨b5, 0, none⟩) 0 [(.int .i64 p_s.actuators), (.slice ao1 p_s.steps.length cap1)] := rowAt_box hc3
 replace h1 := h1.mono hle1
 replace h2 := h2.mono hle1
 replace hG := hG.mono hle1
 refine WP.box_held (fun H2 hle2 hc4 => ?_)
 have hb2 : RowAt H2 (some ⟨b6, 0, none⟩) 0 [(.slice ao2 p_p.travels.length cap2)] := rowAt_box hc4
 replace h1 := h1.mono hle2
 replace h2 := h2.mono hle2
 replace hG := hG.mono hle2
 replace hb1 := hb1.mono hle2
 obtain ⟨r1, e1, hm⟩ := bind_some hm
 refine WP.rangeC rfl (fun l1 D1 R1 hr1 w2 hs2 => ?_)
 have hY1 : Yields prog w H (.func (.yield l1) #[] #[]) encSeqSlot (schedule_whole_rng1) (fun (q1 : (Int × Int)) (H3 : Heap) (ms : List Ent) => Le H2 H3 ∧ ms = [.obj l1 (R1 .ready none), .obj D1 (.deferred (some [])), .blk b4 38 [(.int .i64 q1.1), (.int .i64 q1.2)], .blk b3 38 [(.int .i64 0), (.int .i64 0)], .blk b2 27 [(.slice ao2 p_p.travels.length cap2)], .blk b1 24 [(.int .i64 p_s.actuators), (.slice ao1 p_s.steps.length cap1)]]) (fun _ _ _ => False) := by
  refine ⟨?_, ?_, _, rfl, ?_⟩
  ·
   rintro q1 Ha Hb msx k ⟨h0, rfl⟩; exact ⟨h0.trans k, rfl⟩
  ·
   intro _ _ _ _ _ h; exact h.elim
  ·
   rintro q1 xx1 bq1 q2 vs H3 ms fr1 hm rfl ⟨hle3, rfl⟩ w1 hs1
   unfold schedule_whole_rng1 at hm
   replace h1 := h1.mono hle3
   replace h2 := h2.mono hle3
   replace hG := hG.mono hle3
   replace hb1 := hb1.mono hle3
   replace hb2 := hb2.mono hle3
   refine yields_call (i := 0) (vs := [(.int .i64 xx1.1), (.agg #[(.int .i64 xx1.2.begin.low), (.int .i64 xx1.2.begin.high), (.int .i64 xx1.2.moved.low), (.int .i64 xx1.2.moved.high), (.int .i64 xx1.2.end_.low), (.int .i64 xx1.2.end_.high)])]) (b := bq1) (q := q2) (T := (fun (q1 : (Int × Int)) (H3 : Heap) (ms : List Ent) => Le H2 H3 ∧ ms = [.obj l1 (R1 .ready none), .obj D1 (.deferred (some [])), .blk b4 38 [(.int .i64 q1.1), (.int .i64 q1.2)], .blk b3 38 [(.int .i64 0), (.int .i64 0)], .blk b2 27 [(.slice ao2 p_p.travels.length cap2)], .blk b1 24 [(.int .i64 p_s.actuators), (.slice ao1 p_s.steps.length cap1)]])) (T' := (fun _ _ _ => False)) hr1 hs1 rfl rfl rfl ?_
   refine WP.weaken (S₁ := St w H (.obj l1 (R1 .ready none) :: .obj D1 (.deferred (some [])) :: .blk b4 38 [(.int .i64 q1.1), (.int .i64 q1.2)] :: .blk b3 38 [(.int .i64 0), (.int .i64 0)] :: .blk b2 27 [(.slice ao2 p_p.travels.length cap2)] :: .blk b1 24 [(.int .i64 p_s.actuators), (.slice ao1 p_s.steps.length cap1)] :: fr1) H3) (fun _ s => s) ?_
   refine WP.region ?_
   refine ws rfl (os_alloc (cs := [(.int .i64 0), (.int .i64 0), (.int .i64 0), (.int .i64 0), (.int .i64 0), (.int .i64 0)]) zeroValue101 rfl rfl (fun b7 => ?_))
   refine ws0 rfl (os_store (i := 0) (vs := [(.int .i64 xx1.2.begin.low), (.int .i64 xx1.2.begin.high), (.int .i64 xx1.2.moved.low), (.int .i64 xx1.2.moved.high), (.int .i64 xx1.2.end_.low), (.int .i64 xx1.2.end_.high)]) (cs' := [(.int .i64 xx1.2.begin.low), (.int .i64 xx1.2.begin.high), (.int .i64 xx1.2.moved.low), (.int .i64 xx1.2.moved.high), (.int .i64 xx1.2.end_.low), (.int .i64 xx1.2.end_.high)]) sizeOf101 rfl rfl rfl rfl rfl rfl rfl rfl rfl ?_)
   refine WL.nil (tn ?_)
   refine begin_of (i := 1) rfl ?_
   refine WP.block (WP.region (V rfl (ov_fieldAddr underlying101 rfl rfl rfl sizeOf38 rfl rfl) (V rfl (ov_load_boxes (i := 0) (vs := [(.int .i64 xx1.2.end_.low), (.int .i64 xx1.2.end_.high)]) isAgg38 sizeOf38 rfl rfl rfl rfl (part_of rfl)) ?_)))
   refine ws0 rfl (os_store (i := 3) (vs := [(.int .i64 xx1.2.end_.low), (.int .i64 xx1.2.end_.high)]) (cs' := [(.int .i64 xx1.2.end_.low), (.int .i64 xx1.2.end_.high)]) sizeOf38 rfl rfl rfl rfl rfl rfl rfl rfl rfl ?_)
   refine WL.nil (bn ?_)
   refine round_normal (i := 1) rfl ?_
   obtain ⟨rfl, rfl⟩ := Prod.mk.inj (Option.some.inj hm)
   exact ⟨rfl, H3, [.obj l1 (R1 .ready none), .obj D1 (.deferred (some [])), .blk b4 38 [(.int .i64 xx1.2.end_.low), (.int .i64 xx1.2.end_.high)], .blk b3 38 [(.int .i64 0), (.int .i64 0)], .blk b2 27 [(.slice ao2 p_p.travels.length cap2)], .blk b1 24 [(.int .i64 p_s.actuators), (.slice ao1 p_s.steps.length cap1)]], (Le.refl _), condT ⟨(hle3.trans (Le.refl _)), rfl⟩, fun w' s => (s.selectT 7 [1, 2, 3, 4, 5, 6] (by decide) rfl rfl)⟩
 have hT1 : TH hY1 (0, 0) H2 [.obj l1 (R1 .ready none), .obj D1 (.deferred (some [])), .blk b4 38 [(.int .i64 0), (.int .i64 0)], .blk b3 38 [(.int .i64 0), (.int .i64 0)], .blk b2 27 [(.slice ao2 p_p.travels.length cap2)], .blk b1 24 [(.int .i64 p_s.actuators), (.slice ao1 p_s.steps.length cap1)]] := ⟨Le.refl _, rfl⟩
 refine ⟨79, [(pB b5 0), (pB b6 0)], rfl, call79, ?_⟩
 refine Calls.mono ((schedule_slots_1_con (schedule_whole_rng1) hY1 p_s p_p (0, 0) b5 ao1 cap1 b6 ao2 cap2 [] [.obj l1 (R1 .ready none), .obj D1 (.deferred (some [])), .blk b4 38 [(.int .i64 0), (.int .i64 0)], .blk b3 38 [(.int .i64 0), (.int .i64 0)], .blk b2 27 [(.slice ao2 p_p.travels.length cap2)], .blk b1 24 [(.int .i64 p_s.actuators), (.slice ao1 p_s.steps.length cap1)]] H2 h1 hc1 h2 hc2 hb1 hb2 hT1 hG r1 e1) w2 hs2) ?_
 rintro e w3 ⟨rv1, H4, ms1, rfl, hle4, ⟨rfl, tl1, rfl, hT2⟩, hs3⟩
 refine ⟨_, rfl, ?_⟩
 rcases Bool.eq_false_or_eq_true r1.1 with hc5 | hc5
 ·
  replace hm := ite_t hc5 hm
  obtain ⟨hle5, rfl⟩ := cond_t hc5 hT2
  refine ⟨St w H [.obj l1 (R1 .ready none), .obj D1 (.deferred (some [])), .blk b4 38 [(.int .i64 r1.2.1), (.int .i64 r1.2.2)], .blk b3 38 [(.int .i64 0), (.int .i64 0)], .blk b2 27 [(.slice ao2 p_p.travels.length cap2)], .blk b1 24 [(.int .i64 p_s.actuators), (.slice ao1 p_s.steps.length cap1)]] H4, ?_, hs3⟩
  refine after_normal ?_
  refine bn (tn (WP.seq (WP.region (V rfl (ov_load_whole (i := 1) isAgg38 sizeOf38 rfl rfl rfl rfl) ?_))))
  refine ws0 rfl (os_store (i := 2) (vs := [(.int .i64 r1.2.1), (.int .i64 r1.2.2)]) (cs' := [(.int .i64 r1.2.1), (.int .i64 r1.2.2)]) sizeOf38 rfl rfl rfl rfl rfl rfl rfl rfl rfl ?_)
  refine WL.nil (tn (WP.ret ?_))
  obtain rfl := Option.some.inj hm
  refine retQ_retM (i := 0) rfl results26 (Res.cell rfl (box_loads (i := 1) isAgg38 sizeOf38 rfl rfl) Res.nil) rfl (fun w' s => ⟨s.below, ?_⟩)
  exact rfl
 replace hm := ite_f hc5 hm
 exact (none_some hm).elim
theorem stroke_known_con (p_n : Int) (w : World) (H : Heap) (hH : Le H (hp w)) (hG : Glob H) (r : Bool) (hm : stroke_known p_n = some r) :
  Con prog 110 [(.int .i64 p_n)] w H (fun v _ => v = (.bool r)) := by
 unfold stroke_known at hm
 refine con_of hH func110 rfl 9 ntmps110 rfl ?_
 refine WP.seq (WP.region (Va rfl (WL.nil (tn (WP.seq (WP.region (Vm rfl (V rfl (ov_geq rfl rfl rfl) (Vm rfl ?_)))))))))
 refine WL.cut_bool 3 8 (x := ((decide (p_n ≥ 0)) && (decide (p_n < 6)))) ?_ ?_
 ·
  rcases Bool.eq_false_or_eq_true (decide (p_n ≥ 0)) with hc1 | hc1
  ·
   refine wy hc1 rfl (ov_move rfl rfl) ?_
   refine wy hc1 rfl (ov_lss rfl rfl rfl) ?_
   refine V rfl (ov_pick_true rfl (guard_eq rfl hc1) rfl) ?_
   exact WL.nil ⟨Sub.cons' rfl (congrArg Value.bool (andT hc1)) (Sub.dropn 3 rfl), fun _ s => s⟩
  refine Vi rfl (Idle.no rfl rfl rfl hc1) (Vi rfl (Idle.no rfl rfl rfl hc1) (V rfl (ov_pick_false rfl (guard_eq rfl hc1) rfl) ?_))
  exact WL.nil ⟨Sub.cons' rfl (congrArg Value.bool (andF hc1)) (Sub.dropn 3 rfl), fun _ s => s⟩
 refine Va rfl (WL.nil (tn (WP.ret ?_)))
 obtain rfl := Option.some.inj hm
 refine retQ_ret results110 (Res.tmp rfl Res.nil) rfl (fun w' s => ⟨s.below, ?_⟩)
 exact rfl
theorem stroke_CheckStep_con (p_x : Step) (ao1 : Option Addr) (cap1 : Nat) (w : World) (H : Heap) (hH : Le H (hp w)) (h1 : SL H encStroke ao1 p_x.strokes) (hc1 : p_x.strokes.length ≤ cap1) (hG : Glob H) (r : Int) (hm : stroke_CheckStep p_x = some r) :
  Con prog 83 [(.agg #[(.slice ao1 p_x.strokes.length cap1), (.int .i64 p_x.wait)])] w H (fun v _ => v = (.int .i64 r)) := by
 unfold stroke_CheckStep at hm
 refine con_of hH func83 rfl 49 ntmps83 rfl ?_
 refine WP.seq (WP.region ?_)
 refine ws rfl (os_box (cs := [(.slice ao1 p_x.strokes.length cap1), (.int .i64 p_x.wait)]) rfl rfl rfl (fun b1 => ?_))
 refine Va rfl (WL.nil (tn (WP.seq (WP.seq (WP.region (V rfl (ov_fieldAddr underlying55 rfl rfl rfl sizeOf53 rfl rfl) (Vl 0 isAgg53 rfl (V rfl (ov_len_slice underlying53 rfl rfl) (Va rfl (WL.nil (tn (WP.block (WP.seq ?_)))))))))))))
 refine WP.region (Vm rfl (V rfl (ov_eql rfl rfl rfl) (Va rfl (WL.nil (tn ?_)))))
 refine WP.cond rfl (fun hc2 => ?_) (fun hc2 => ?_)
 ·
  replace hm := ite_t hc2 hm
  refine WP.seq (WP.region (Va rfl (WL.nil (tn (WP.ret (block_ret (then_ret ?_)))))))
  obtain rfl := Option.some.inj hm
  refine retQ_ret results83 (Res.tmp rfl Res.nil) rfl (fun w' s => ⟨s.below, ?_⟩)
  exact rfl
 replace hm := ite_f hc2 hm
 refine WP.seq (WP.region (Vm rfl (V rfl (ov_gtr rfl rfl rfl) (Va rfl (WL.nil (tn ?_))))))
 refine WP.cond rfl (fun hc3 => ?_) (fun hc3 => ?_)
 ·
  replace hm := ite_t hc3 hm
  refine WP.seq (WP.region (Va rfl (WL.nil (tn (WP.ret (block_ret (then_ret ?_)))))))
  obtain rfl := Option.some.inj hm
  refine retQ_ret results83 (Res.tmp rfl Res.nil) rfl (fun w' s => ⟨s.below, ?_⟩)
  exact rfl
 replace hm := ite_f hc3 hm
 refine WP.skip (bn (tn (WP.seq (WP.region (Va rfl (WL.nil (tn ?_)))))))
 obtain ⟨k1, hk1, hm⟩ := joinK_some hm
 refine WP.seq_join (fun g' S' => Sub [(1, (pB b1 0)), (1000000007, (.bool false))] g' ∧ (∀ w', S' w' → St w H [.blk b1 55 [(.slice ao1 p_x.strokes.length cap1), (.int .i64 p_x.wait)]] H w') ∧ k1 = some r) ?_ ?_
 ·
  refine WP.seq (WP.region (V rfl (ov_fieldAddr underlying55 rfl rfl rfl sizeOf53 rfl rfl) (Vl 0 isAgg53 rfl (V rfl (ov_len_slice underlying53 rfl rfl) (Vm rfl (WL.nil (tn (WP.block ?_))))))))
  refine WP.loop (fun m1 g' S' => ∃ (i1 : Int) (i2 : Int), Sub [(1, (pB b1 0)), (4, (.int .i64 i1)), (17, (.slice ao1 p_x.strokes.length cap1)), (18, (.int .i64 (p_x.strokes.length : Int))), (19, (.int .i64 i2)), (1000000007, (.bool false))] g' ∧ (∀ w', S' w' → St w H [.blk b1 55 [(.slice ao1 p_x.strokes.length cap1), (.int .i64 p_x.wait)]] H w') ∧ stroke_CheckStep_loop1 p_x k1 m1 i1 i2 = some r) ((Int.toNat ((p_x.strokes.length : Int) - 0) + 1)) ⟨(-1), 0, (Sub.all rfl), fun w' s => s, hm⟩ ?_ ?_
  ·
   rintro g' S' ⟨_, _, _, _, hm⟩
   exact none_some hm
  rintro m1 g' S' ⟨i1, i2, hsub1, hS1, hm⟩
  refine WP.sub hsub1 (WP.weaken hS1 ?_)
  rw [stroke_CheckStep_loop1] at hm
  refine WP.seq (WP.region (V rfl (ov_lss rfl rfl rfl) (WL.nil (tn (WP.seq ?_)))))
  refine WP.cond rfl (fun hc4 => ?_) (fun hc4 => ?_)
  ·
   replace hm := ite_t hc4 hm
   refine WP.skip (tn (WP.seq (WP.block (WP.seq (WP.region ?_)))))
   obtain ⟨x1, e1, hm⟩ := bind_some hm
   obtain ⟨h2, h3, h4, cs1, h5, h6⟩ := h1.get e1 (by decide)
   obtain rfl : cs1 = [(.int .i64 x1.actuator), (.bool x1.out)] := h5
   refine V rfl (ov_indexAddr underlying53 sizeOf59 rfl rfl rfl h2 h3 h4) (V rfl (ov_load_elems (vs := [(.int .i64 x1.actuator), (.bool x1.out)]) isAgg59 sizeOf59 rfl rfl rfl h6 h4) ?_)
   refine ws rfl (os_alloc (cs := [(.int .i64 0), (.bool false)]) zeroValue59 rfl rfl (fun b2 => ?_))
   refine ws0 rfl (os_store (i := 0) (vs := [(.int .i64 x1.actuator), (.bool x1.out)]) (cs' := [(.int .i64 x1.actuator), (.bool x1.out)]) sizeOf59 rfl rfl rfl rfl rfl rfl rfl rfl rfl ?_)
   refine WL.nil (tn (WP.seq (WP.block (WP.seq (WP.region (V rfl (ov_fieldAddr underlying59 rfl rfl rfl sizeOf3 rfl rfl) (Vl 0 isAgg3 rfl ?_)))))))
   obtain ⟨r1, e2, hm⟩ := bind_some hm
   refine wo rfl (oq_con (r := (.bool r1)) call110 rfl rfl (fun w' s => ⟨_, (stroke_known_con x1.actuator  w' H s.hold hG r1 e2)⟩)) ?_
   refine V rfl (ov_not rfl rfl) (Va rfl (WL.nil (tn ?_)))
   refine WP.cond rfl (fun hc5 => ?_) (fun hc5 => ?_)
   ·
    replace hm := ite_t hc5 hm
    refine WP.seq (WP.region (Va rfl (WL.nil (tn (WP.ret (block_ret (then_ret (block_ret (then_ret (then_ret (block_ret (then_ret ?_))))))))))))
    obtain rfl := Option.some.inj hm
    refine retQ_ret results83 (Res.tmp rfl Res.nil) rfl (fun w' s => ⟨s.below, ?_⟩)
    exact rfl
   replace hm := ite_f hc5 hm
   refine WP.seq (WP.region (V rfl (ov_fieldAddr underlying59 rfl rfl rfl sizeOf3 rfl rfl) (Vl 0 isAgg3 rfl (Vm rfl (V rfl (ov_eql rfl rfl rfl) (Va rfl (WL.nil (tn ?_))))))))
   refine WP.cond rfl (fun hc6 => ?_) (fun hc6 => ?_)
   ·
    replace hm := ite_t hc6 hm
    refine WP.seq (WP.region (Va rfl (WL.nil (tn (WP.ret (block_ret (then_ret (block_ret (then_ret (then_ret (block_ret (then_ret ?_))))))))))))
    obtain rfl := Option.some.inj hm
    refine retQ_ret results83 (Res.tmp rfl Res.nil) rfl (fun w' s => ⟨s.below, ?_⟩)
    exact rfl
   replace hm := ite_f hc6 hm
   refine WP.seq (WP.region (V rfl (ov_fieldAddr underlying59 rfl rfl rfl sizeOf3 rfl rfl) (Vl 0 isAgg3 rfl (Vm rfl (V rfl (ov_lss rfl rfl rfl) (Va rfl (WL.nil (tn ?_))))))))
   refine WP.cond rfl (fun hc7 => ?_) (fun hc7 => ?_)
   ·
    replace hm := ite_t hc7 hm
    refine WP.seq (WP.region (Va rfl (WL.nil (tn (WP.ret (block_ret (then_ret (block_ret (then_ret (then_ret (block_ret (then_ret ?_))))))))))))
    obtain rfl := Option.some.inj hm
    refine retQ_ret results83 (Res.tmp rfl Res.nil) rfl (fun w' s => ⟨s.below, ?_⟩)
    exact rfl
   replace hm := ite_f hc7 hm
   refine WP.skip (bn (tn (WP.region (V rfl (ov_fieldAddr underlying59 rfl rfl rfl sizeOf3 rfl rfl) (Vl 0 isAgg3 rfl (Va rfl (WL.nil (bn (tn (WP.region (V rfl (ov_add rfl rfl rfl) (Vm rfl (WL.nil ?_)))))))))))))
   refine tn ?_
   exact ⟨x1.actuator, (IntKind.wrap .i64 (i2 + 1)), (Sub.all rfl), fun w' s => (s.select [1] (by decide) rfl), hm⟩
  replace hm := ite_f hc4 hm
  refine WP.exit (then_exit (then_exit (block_here (tn ?_))))
  exact ⟨(Sub.all rfl), fun w' s => s, hm⟩
 rintro g' S' ⟨hsub2, hS2, hm⟩
 refine WP.sub hsub2 (WP.weaken hS2 ?_)
 replace hm := hk1.symm.trans hm
 refine WP.seq (WP.seq (WP.region (V rfl (ov_fieldAddr underlying55 rfl rfl rfl sizeOf3 rfl rfl) (Vl 0 isAgg3 rfl (V rfl (ov_lss rfl rfl rfl) (Vm rfl ?_))))))
 refine WL.cut_bool 4 48 (x := ((decide (p_x.wait < 0)) || (decide (p_x.wait > 1000000)))) ?_ ?_
 ·
  rcases Bool.eq_false_or_eq_true (decide (p_x.wait < 0)) with hc8 | hc8
  ·
   refine Vi rfl (Idle.no rfl rfl rfl hc8) (Vi rfl (Idle.no rfl rfl rfl hc8) (Vi rfl (Idle.no rfl rfl rfl hc8) (V rfl (ov_pick_true rfl (guard_eq rfl hc8) rfl) ?_)))
   exact WL.nil ⟨Sub.cons' rfl (congrArg Value.bool (orT hc8)) (Sub.dropn 4 rfl), fun _ s => s⟩
  refine wy hc8 rfl (ov_fieldAddr underlying55 rfl rfl rfl sizeOf3 rfl rfl) ?_
  refine wy hc8 rfl (ov_load_box (i := 0) isAgg3 rfl rfl rfl rfl) ?_
  refine wy hc8 rfl (ov_gtr rfl rfl rfl) ?_
  refine V rfl (ov_pick_false rfl (guard_eq rfl hc8) rfl) ?_
  exact WL.nil ⟨Sub.cons' rfl (congrArg Value.bool (orF hc8)) (Sub.dropn 4 rfl), fun _ s => s⟩
 refine WL.nil (tn ?_)
 refine WP.cond rfl (fun hc9 => ?_) (fun hc9 => ?_)
 ·
  replace hm := ite_t hc9 hm
  refine WP.seq (WP.region (Va rfl (WL.nil (tn (WP.ret (then_ret ?_))))))
  obtain rfl := Option.some.inj hm
  refine retQ_ret results83 (Res.tmp rfl Res.nil) rfl (fun w' s => ⟨s.below, ?_⟩)
  exact rfl
 replace hm := ite_f hc9 hm
 refine WP.skip (tn (WP.seq (WP.region (Va rfl (WL.nil (tn (WP.ret ?_)))))))
 obtain rfl := Option.some.inj hm
 refine retQ_ret results83 (Res.tmp rfl Res.nil) rfl (fun w' s => ⟨s.below, ?_⟩)
 exact rfl
theorem sequence_fits_con (p_s : Sequence) (p_step : Step) (p_x : Ends6) (ao1 : Option Addr) (cap1 : Nat) (ao2 : Option Addr) (cap2 : Nat) (w : World) (H : Heap) (hH : Le H (hp w)) (h1 : SL H encStep ao1 p_s.steps) (hc1 : p_s.steps.length ≤ cap1) (h2 : SL H encStroke ao2 p_step.strokes) (hc2 : p_step.strokes.length ≤ cap2) (hG : Glob H) (r : Int) (hm : sequence_fits p_s p_step p_x = some r) :
  Con prog 45 [(.agg #[(.int .i64 p_s.actuators), (.slice ao1 p_s.steps.length cap1)]), (.agg #[(.slice ao2 p_step.strokes.length cap2), (.int .i64 p_step.wait)]), (.agg #[(.bool p_x.a0), (.bool p_x.a1), (.bool p_x.a2), (.bool p_x.a3), (.bool p_x.a4), (.bool p_x.a5)])] w H (fun v _ => v = (.int .i64 r)) := by
 unfold sequence_fits at hm
 refine con_of hH func45 rfl 45 ntmps45 rfl ?_
 refine WP.seq (WP.region ?_)
 refine ws rfl (os_box (cs := [(.int .i64 p_s.actuators), (.slice ao1 p_s.steps.length cap1)]) rfl rfl rfl (fun b1 => ?_))
 refine ws rfl (os_box (cs := [(.slice ao2 p_step.strokes.length cap2), (.int .i64 p_step.wait)]) rfl rfl rfl (fun b2 => ?_))
 refine ws rfl (os_box (cs := [(.bool p_x.a0), (.bool p_x.a1), (.bool p_x.a2), (.bool p_x.a3), (.bool p_x.a4), (.bool p_x.a5)]) rfl rfl rfl (fun b3 => ?_))
 refine Va rfl (WL.nil (tn (WP.seq (WP.seq (WP.region (V rfl (ov_load_whole (i := 1) isAgg55 sizeOf55 rfl rfl rfl rfl) ?_))))))
 obtain ⟨r1, e1, hm⟩ := bind_some hm
 refine wo rfl (oq_con (r := (.int .i64 r1)) call83 rfl rfl (fun w' s => ⟨_, (stroke_CheckStep_con p_step ao2 cap2  w' H s.hold h2 hc2 hG r1 e1)⟩)) ?_
 refine Va rfl (WL.nil (tn (WP.seq (WP.region (Vm rfl (V rfl (ov_neq rfl rfl rfl) (WL.nil (tn ?_))))))))
 refine WP.cond rfl (fun hc3 => ?_) (fun hc3 => ?_)
 ·
  replace hm := ite_t hc3 hm
  refine WP.seq (WP.region (Vm rfl (Va rfl (WL.nil (tn (WP.ret (then_ret ?_)))))))
  obtain rfl := Option.some.inj hm
  refine retQ_ret results45 (Res.tmp rfl Res.nil) rfl (fun w' s => ⟨s.below, ?_⟩)
  exact rfl
 replace hm := ite_f hc3 hm
 refine WP.skip (tn ?_)
 obtain ⟨k1, hk1, hm⟩ := joinK_some hm
 refine WP.seq_join (fun g' S' => Sub [(4, (pB b2 0)), (5, (pB b3 0)), (1000000007, (.bool false))] g' ∧ (∀ w', S' w' → St w H [.blk b3 103 [(.bool p_x.a0), (.bool p_x.a1), (.bool p_x.a2), (.bool p_x.a3), (.bool p_x.a4), (.bool p_x.a5)], .blk b2 55 [(.slice ao2 p_step.strokes.length cap2), (.int .i64 p_step.wait)]] H w') ∧ k1 = some r) ?_ ?_
 ·
  refine WP.seq (WP.region (V rfl (ov_fieldAddr underlying55 rfl rfl rfl sizeOf53 rfl rfl) (Vl 1 isAgg53 rfl (V rfl (ov_len_slice underlying53 rfl rfl) (Vm rfl (WL.nil (tn (WP.block ?_))))))))
  refine WP.loop (fun m1 g' S' => ∃ (i1 : Int), Sub [(3, (pB b1 0)), (4, (pB b2 0)), (5, (pB b3 0)), (18, (.slice ao2 p_step.strokes.length cap2)), (19, (.int .i64 (p_step.strokes.length : Int))), (20, (.int .i64 i1)), (1000000007, (.bool false))] g' ∧ (∀ w', S' w' → St w H [.blk b3 103 [(.bool p_x.a0), (.bool p_x.a1), (.bool p_x.a2), (.bool p_x.a3), (.bool p_x.a4), (.bool p_x.a5)], .blk b2 55 [(.slice ao2 p_step.strokes.length cap2), (.int .i64 p_step.wait)], .blk b1 24 [(.int .i64 p_s.actuators), (.slice ao1 p_s.steps.length cap1)]] H w') ∧ sequence_fits_loop1 p_s p_step k1 m1 i1 = some r) ((Int.toNat ((p_step.strokes.length : Int) - 0) + 1)) ⟨0, (Sub.all rfl), fun w' s => s, hm⟩ ?_ ?_
  ·
   rintro g' S' ⟨_, _, _, hm⟩
   exact none_some hm
  rintro m1 g' S' ⟨i1, hsub1, hS1, hm⟩
  refine WP.sub hsub1 (WP.weaken hS1 ?_)
  rw [sequence_fits_loop1] at hm
  refine WP.seq (WP.region (V rfl (ov_lss rfl rfl rfl) (WL.nil (tn (WP.seq ?_)))))
  refine WP.cond rfl (fun hc4 => ?_) (fun hc4 => ?_)
  ·
   replace hm := ite_t hc4 hm
   refine WP.skip (tn (WP.seq (WP.block (WP.seq (WP.region ?_)))))
   obtain ⟨x1, e2, hm⟩ := bind_some hm
   obtain ⟨h3, h4, h5, cs1, h6, h7⟩ := h2.get e2 (by decide)
   obtain rfl : cs1 = [(.int .i64 x1.actuator), (.bool x1.out)] := h6
   refine V rfl (ov_indexAddr underlying53 sizeOf59 rfl rfl rfl h3 h4 h5) (V rfl (ov_load_elems (vs := [(.int .i64 x1.actuator), (.bool x1.out)]) isAgg59 sizeOf59 rfl rfl rfl h7 h5) ?_)
   refine ws rfl (os_alloc (cs := [(.int .i64 0), (.bool false)]) zeroValue59 rfl rfl (fun b4 => ?_))
   refine ws0 rfl (os_store (i := 0) (vs := [(.int .i64 x1.actuator), (.bool x1.out)]) (cs' := [(.int .i64 x1.actuator), (.bool x1.out)]) sizeOf59 rfl rfl rfl rfl rfl rfl rfl rfl rfl ?_)
   refine WL.nil (tn (WP.seq (WP.region (V rfl (ov_fieldAddr underlying59 rfl rfl rfl sizeOf3 rfl rfl) (Vl 0 isAgg3 rfl (V rfl (ov_fieldAddr underlying24 rfl rfl rfl sizeOf3 rfl rfl) (Vl 3 isAgg3 rfl (V rfl (ov_geq rfl rfl rfl) (WL.nil (tn ?_))))))))))
   refine WP.cond rfl (fun hc5 => ?_) (fun hc5 => ?_)
   ·
    replace hm := ite_t hc5 hm
    refine WP.seq (WP.region (Va rfl (WL.nil (tn (WP.ret (block_ret (then_ret (then_ret (block_ret (then_ret ?_))))))))))
    obtain rfl := Option.some.inj hm
    refine retQ_ret results45 (Res.tmp rfl Res.nil) rfl (fun w' s => ⟨s.below, ?_⟩)
    exact rfl
   replace hm := ite_f hc5 hm
   refine WP.skip (bn (tn (WP.region (V rfl (ov_add rfl rfl rfl) (Vm rfl (WL.nil (tn ?_)))))))
   exact ⟨(IntKind.wrap .i64 (i1 + 1)), (Sub.all rfl), fun w' s => (s.select [1, 2, 3] (by decide) rfl), hm⟩
  replace hm := ite_f hc4 hm
  refine WP.exit (then_exit (then_exit (block_here (tn ?_))))
  exact ⟨(Sub.all rfl), fun w' s => (s.select [0, 1] (by decide) rfl), hm⟩
 rintro g' S' ⟨hsub2, hS2, hm⟩
 refine WP.sub hsub2 (WP.weaken hS2 ?_)
 replace hm := hk1.symm.trans hm
 obtain ⟨k2, hk2, hm⟩ := joinK_some hm
 refine WP.seq_join (fun g' S' => Sub [(1000000007, (.bool false))] g' ∧ (∀ w', S' w' → St w H [] H w') ∧ k2 = some r) ?_ ?_
 ·
  refine WP.seq (WP.region (V rfl (ov_fieldAddr underlying55 rfl rfl rfl sizeOf53 rfl rfl) (Vl 1 isAgg53 rfl (V rfl (ov_len_slice underlying53 rfl rfl) (Vm rfl (WL.nil (tn (WP.block ?_))))))))
  refine WP.loop (fun m2 g' S' => ∃ (i2 : Int), Sub [(5, (pB b3 0)), (31, (.slice ao2 p_step.strokes.length cap2)), (32, (.int .i64 (p_step.strokes.length : Int))), (33, (.int .i64 i2)), (1000000007, (.bool false))] g' ∧ (∀ w', S' w' → St w H [.blk b3 103 [(.bool p_x.a0), (.bool p_x.a1), (.bool p_x.a2), (.bool p_x.a3), (.bool p_x.a4), (.bool p_x.a5)]] H w') ∧ sequence_fits_loop2 p_step p_x k2 m2 i2 = some r) ((Int.toNat ((p_step.strokes.length : Int) - 0) + 1)) ⟨0, (Sub.all rfl), fun w' s => (s.select [0] (by decide) rfl), hm⟩ ?_ ?_
  ·
   rintro g' S' ⟨_, _, _, hm⟩
   exact none_some hm
  rintro m2 g' S' ⟨i2, hsub3, hS3, hm⟩
  refine WP.sub hsub3 (WP.weaken hS3 ?_)
  rw [sequence_fits_loop2] at hm
  refine WP.seq (WP.region (V rfl (ov_lss rfl rfl rfl) (WL.nil (tn (WP.seq ?_)))))
  refine WP.cond rfl (fun hc6 => ?_) (fun hc6 => ?_)
  ·
   replace hm := ite_t hc6 hm
   refine WP.skip (tn (WP.seq (WP.block (WP.seq (WP.region ?_)))))
   obtain ⟨x2, e3, hm⟩ := bind_some hm
   obtain ⟨h8, h9, h10, cs2, h11, h12⟩ := h2.get e3 (by decide)
   obtain rfl : cs2 = [(.int .i64 x2.actuator), (.bool x2.out)] := h11
   refine V rfl (ov_indexAddr underlying53 sizeOf59 rfl rfl rfl h8 h9 h10) (V rfl (ov_load_elems (vs := [(.int .i64 x2.actuator), (.bool x2.out)]) isAgg59 sizeOf59 rfl rfl rfl h12 h10) ?_)
   refine ws rfl (os_alloc (cs := [(.int .i64 0), (.bool false)]) zeroValue59 rfl rfl (fun b5 => ?_))
   refine ws0 rfl (os_store (i := 0) (vs := [(.int .i64 x2.actuator), (.bool x2.out)]) (cs' := [(.int .i64 x2.actuator), (.bool x2.out)]) sizeOf59 rfl rfl rfl rfl rfl rfl rfl rfl rfl ?_)
   refine WL.nil (tn ?_)
   obtain ⟨k3, hk3, hm⟩ := joinK_some hm
   refine WP.seq_join (fun g' S' => ∃ (c1 : Bool), Sub [(5, (pB b3 0)), (31, (.slice ao2 p_step.strokes.length cap2)), (32, (.int .i64 (p_step.strokes.length : Int))), (33, (.int .i64 i2)), (43, (.bool c1)), (1000000007, (.bool false))] g' ∧ (∀ w', S' w' → St w H [.blk b3 103 [(.bool p_x.a0), (.bool p_x.a1), (.bool p_x.a2), (.bool p_x.a3), (.bool p_x.a4), (.bool p_x.a5)]] H w') ∧ k3 c1 = some r) ?_ ?_
   ·
    refine WP.region_draws (by kernel_rfl) (by kernel_rfl) (fun _ s => s.drew) ?_
    refine qf rfl (ov_fieldAddr underlying59 rfl rfl rfl sizeOf3 rfl rfl) ?_
    refine qf rfl (ov_load_box (i := 0) isAgg3 rfl rfl rfl rfl) ?_
    rcases Bool.eq_false_or_eq_true (x2.actuator == 0) with hc7 | hc7
    ·
     replace hm := ite_t hc7 hm
     refine qf rfl (ov_indexAddr_at (j := 0) underlying103 sizeOf4 rfl rfl rfl (eq_of_beq hc7) rfl) ?_
     refine qf rfl (ov_load_box (i := 1) isAgg4 rfl rfl rfl rfl) ?_
     refine qf rfl (ov_fieldAddr underlying59 rfl rfl rfl sizeOf4 rfl rfl) ?_
     refine qf rfl (ov_load_box (i := 0) isAgg4 rfl rfl rfl rfl) ?_
     refine qf rfl (ov_beql underlying4 rfl rfl rfl) ?_
     refine QL.nil ?_
     refine tn ?_
     exact ⟨(p_x.a0 == x2.out), (Sub.all rfl), fun w' s => (s.select [1] (by decide) rfl), hm⟩
    replace hm := ite_f hc7 hm
    rcases Bool.eq_false_or_eq_true (x2.actuator == 1) with hc8 | hc8
    ·
     replace hm := ite_t hc8 hm
     refine qf rfl (ov_indexAddr_at (j := 1) underlying103 sizeOf4 rfl rfl rfl (eq_of_beq hc8) rfl) ?_
     refine qf rfl (ov_load_box (i := 1) isAgg4 rfl rfl rfl rfl) ?_
     refine qf rfl (ov_fieldAddr underlying59 rfl rfl rfl sizeOf4 rfl rfl) ?_
     refine qf rfl (ov_load_box (i := 0) isAgg4 rfl rfl rfl rfl) ?_
     refine qf rfl (ov_beql underlying4 rfl rfl rfl) ?_
     refine QL.nil ?_
     refine tn ?_
     exact ⟨(p_x.a1 == x2.out), (Sub.all rfl), fun w' s => (s.select [1] (by decide) rfl), hm⟩
    replace hm := ite_f hc8 hm
    rcases Bool.eq_false_or_eq_true (x2.actuator == 2) with hc9 | hc9
    ·
     replace hm := ite_t hc9 hm
     refine qf rfl (ov_indexAddr_at (j := 2) underlying103 sizeOf4 rfl rfl rfl (eq_of_beq hc9) rfl) ?_
     refine qf rfl (ov_load_box (i := 1) isAgg4 rfl rfl rfl rfl) ?_
     refine qf rfl (ov_fieldAddr underlying59 rfl rfl rfl sizeOf4 rfl rfl) ?_
     refine qf rfl (ov_load_box (i := 0) isAgg4 rfl rfl rfl rfl) ?_
     refine qf rfl (ov_beql underlying4 rfl rfl rfl) ?_
     refine QL.nil ?_
     refine tn ?_
     exact ⟨(p_x.a2 == x2.out), (Sub.all rfl), fun w' s => (s.select [1] (by decide) rfl), hm⟩
    replace hm := ite_f hc9 hm
    rcases Bool.eq_false_or_eq_true (x2.actuator == 3) with hc10 | hc10
    ·
     replace hm := ite_t hc10 hm
     refine qf rfl (ov_indexAddr_at (j := 3) underlying103 sizeOf4 rfl rfl rfl (eq_of_beq hc10) rfl) ?_
     refine qf rfl (ov_load_box (i := 1) isAgg4 rfl rfl rfl rfl) ?_
     refine qf rfl (ov_fieldAddr underlying59 rfl rfl rfl sizeOf4 rfl rfl) ?_
     refine qf rfl (ov_load_box (i := 0) isAgg4 rfl rfl rfl rfl) ?_
     refine qf rfl (ov_beql underlying4 rfl rfl rfl) ?_
     refine QL.nil ?_
     refine tn ?_
     exact ⟨(p_x.a3 == x2.out), (Sub.all rfl), fun w' s => (s.select [1] (by decide) rfl), hm⟩
    replace hm := ite_f hc10 hm
    rcases Bool.eq_false_or_eq_true (x2.actuator == 4) with hc11 | hc11
    ·
     replace hm := ite_t hc11 hm
     refine qf rfl (ov_indexAddr_at (j := 4) underlying103 sizeOf4 rfl rfl rfl (eq_of_beq hc11) rfl) ?_
     refine qf rfl (ov_load_box (i := 1) isAgg4 rfl rfl rfl rfl) ?_
     refine qf rfl (ov_fieldAddr underlying59 rfl rfl rfl sizeOf4 rfl rfl) ?_
     refine qf rfl (ov_load_box (i := 0) isAgg4 rfl rfl rfl rfl) ?_
     refine qf rfl (ov_beql underlying4 rfl rfl rfl) ?_
     refine QL.nil ?_
     refine tn ?_
     exact ⟨(p_x.a4 == x2.out), (Sub.all rfl), fun w' s => (s.select [1] (by decide) rfl), hm⟩
    replace hm := ite_f hc11 hm
    rcases Bool.eq_false_or_eq_true (x2.actuator == 5) with hc12 | hc12
    ·
     replace hm := ite_t hc12 hm
     refine qf rfl (ov_indexAddr_at (j := 5) underlying103 sizeOf4 rfl rfl rfl (eq_of_beq hc12) rfl) ?_
     refine qf rfl (ov_load_box (i := 1) isAgg4 rfl rfl rfl rfl) ?_
     refine qf rfl (ov_fieldAddr underlying59 rfl rfl rfl sizeOf4 rfl rfl) ?_
     refine qf rfl (ov_load_box (i := 0) isAgg4 rfl rfl rfl rfl) ?_
     refine qf rfl (ov_beql underlying4 rfl rfl rfl) ?_
     refine QL.nil ?_
     refine tn ?_
     exact ⟨(p_x.a5 == x2.out), (Sub.all rfl), fun w' s => (s.select [1] (by decide) rfl), hm⟩
    replace hm := ite_f hc12 hm
    exact (none_some hm).elim
   rintro g' S' ⟨c1, hsub4, hS4, hm⟩
   refine WP.sub hsub4 (WP.weaken hS4 ?_)
   replace hm := (congrFun hk3 c1).symm.trans hm
   refine WP.cond rfl (fun hc13 => ?_) (fun hc13 => ?_)
   ·
    replace hm := ite_t hc13 hm
    refine WP.seq (WP.region (Va rfl (WL.nil (tn (WP.ret (block_ret (then_ret (then_ret (block_ret (then_ret ?_))))))))))
    obtain rfl := Option.some.inj hm
    refine retQ_ret results45 (Res.tmp rfl Res.nil) rfl (fun w' s => ⟨s.below, ?_⟩)
    exact rfl
   replace hm := ite_f hc13 hm
   refine WP.skip (bn (tn (WP.region (V rfl (ov_add rfl rfl rfl) (Vm rfl (WL.nil (tn ?_)))))))
   exact ⟨(IntKind.wrap .i64 (i2 + 1)), (Sub.all rfl), fun w' s => s, hm⟩
  replace hm := ite_f hc6 hm
  refine WP.exit (then_exit (then_exit (block_here (tn ?_))))
  exact ⟨(Sub.all rfl), fun w' s => (s.select [] (by decide) rfl), hm⟩
 rintro g' S' ⟨hsub5, hS5, hm⟩
 refine WP.sub hsub5 (WP.weaken hS5 ?_)
 replace hm := hk2.symm.trans hm
 refine WP.seq (WP.region (Va rfl (WL.nil (tn (WP.ret ?_)))))
 obtain rfl := Option.some.inj hm
 refine retQ_ret results45 (Res.tmp rfl Res.nil) rfl (fun w' s => ⟨s.below, ?_⟩)
 exact rfl
theorem sequence_ends_behind_con (p_x : Ends6) (p_s : Step) (ao1 : Option Addr) (cap1 : Nat) (w : World) (H : Heap) (hH : Le H (hp w)) (h1 : SL H encStroke ao1 p_s.strokes) (hc1 : p_s.strokes.length ≤ cap1) (hG : Glob H) (r : Ends6) (hm : sequence_ends_behind p_x p_s = some r) :
  Con prog 46 [(.agg #[(.bool p_x.a0), (.bool p_x.a1), (.bool p_x.a2), (.bool p_x.a3), (.bool p_x.a4), (.bool p_x.a5)]), (.agg #[(.slice ao1 p_s.strokes.length cap1), (.int .i64 p_s.wait)])] w H (fun v _ => v = (.agg #[(.bool r.a0), (.bool r.a1), (.bool r.a2), (.bool r.a3), (.bool r.a4), (.bool r.a5)])) := by
 unfold sequence_ends_behind at hm
 refine con_of hH func46 rfl 21 ntmps46 rfl ?_
 refine WP.seq (WP.region ?_)
 refine ws rfl (os_box (cs := [(.bool p_x.a0), (.bool p_x.a1), (.bool p_x.a2), (.bool p_x.a3), (.bool p_x.a4), (.bool p_x.a5)]) rfl rfl rfl (fun b1 => ?_))
 refine ws rfl (os_box (cs := [(.slice ao1 p_s.strokes.length cap1), (.int .i64 p_s.wait)]) rfl rfl rfl (fun b2 => ?_))
 refine ws rfl (os_alloc (cs := [(.bool false), (.bool false), (.bool false), (.bool false), (.bool false), (.bool false)]) zeroValue103 rfl rfl (fun b3 => ?_))
 refine WL.nil (tn ?_)
 obtain ⟨k1, hk1, hm⟩ := joinK_some hm
 refine WP.seq_join (fun g' S' => ∃ (c7 : Bool) (c8 : Bool) (c9 : Bool) (c10 : Bool) (c11 : Bool) (c12 : Bool), Sub [(2, (pB b1 0)), (4, (pB b3 0)), (1000000007, (.bool false))] g' ∧ (∀ w', S' w' → St w H [.blk b3 103 [(.bool false), (.bool false), (.bool false), (.bool false), (.bool false), (.bool false)], .blk b1 103 [(.bool c7), (.bool c8), (.bool c9), (.bool c10), (.bool c11), (.bool c12)]] H w') ∧ k1 c7 c8 c9 c10 c11 c12 = some r) ?_ ?_
 ·
  refine WP.seq (WP.region (V rfl (ov_fieldAddr underlying55 rfl rfl rfl sizeOf53 rfl rfl) (Vl 1 isAgg53 rfl (V rfl (ov_len_slice underlying53 rfl rfl) (Vm rfl (WL.nil (tn (WP.block ?_))))))))
  refine WP.loop (fun m1 g' S' => ∃ (i1 : Int) (c1 : Bool) (c2 : Bool) (c3 : Bool) (c4 : Bool) (c5 : Bool) (c6 : Bool), Sub [(2, (pB b1 0)), (4, (pB b3 0)), (8, (.slice ao1 p_s.strokes.length cap1)), (9, (.int .i64 (p_s.strokes.length : Int))), (10, (.int .i64 i1)), (1000000007, (.bool false))] g' ∧ (∀ w', S' w' → St w H [.blk b3 103 [(.bool false), (.bool false), (.bool false), (.bool false), (.bool false), (.bool false)], .blk b1 103 [(.bool c1), (.bool c2), (.bool c3), (.bool c4), (.bool c5), (.bool c6)]] H w') ∧ sequence_ends_behind_loop1 p_s k1 m1 i1 c1 c2 c3 c4 c5 c6 = some r) ((Int.toNat ((p_s.strokes.length : Int) - 0) + 1)) ⟨0, p_x.a0, p_x.a1, p_x.a2, p_x.a3, p_x.a4, p_x.a5, (Sub.all rfl), fun w' s => (s.select [0, 2] (by decide) rfl), hm⟩ ?_ ?_
  ·
   rintro g' S' ⟨_, _, _, _, _, _, _, _, _, hm⟩
   exact none_some hm
  rintro m1 g' S' ⟨i1, c1, c2, c3, c4, c5, c6, hsub1, hS1, hm⟩
  refine WP.sub hsub1 (WP.weaken hS1 ?_)
  rw [sequence_ends_behind_loop1] at hm
  refine WP.seq (WP.region (V rfl (ov_lss rfl rfl rfl) (WL.nil (tn (WP.seq ?_)))))
  refine WP.cond rfl (fun hc2 => ?_) (fun hc2 => ?_)
  ·
   replace hm := ite_t hc2 hm
   refine WP.skip (tn (WP.seq (WP.block (WP.seq (WP.region ?_)))))
   obtain ⟨x1, e1, hm⟩ := bind_some hm
   obtain ⟨h2, h3, h4, cs1, h5, h6⟩ := h1.get e1 (by decide)
   obtain rfl : cs1 = [(.int .i64 x1.actuator), (.bool x1.out)] := h5
   refine V rfl (ov_indexAddr underlying53 sizeOf59 rfl rfl rfl h2 h3 h4) (V rfl (ov_load_elems (vs := [(.int .i64 x1.actuator), (.bool x1.out)]) isAgg59 sizeOf59 rfl rfl rfl h6 h4) ?_)
   refine ws rfl (os_alloc (cs := [(.int .i64 0), (.bool false)]) zeroValue59 rfl rfl (fun b4 => ?_))
   refine ws0 rfl (os_store (i := 0) (vs := [(.int .i64 x1.actuator), (.bool x1.out)]) (cs' := [(.int .i64 x1.actuator), (.bool x1.out)]) sizeOf59 rfl rfl rfl rfl rfl rfl rfl rfl rfl ?_)
   refine WL.nil (tn (WP.region (V rfl (ov_fieldAddr underlying59 rfl rfl rfl sizeOf3 rfl rfl) (Vl 0 isAgg3 rfl (V rfl (ov_fieldAddr underlying59 rfl rfl rfl sizeOf4 rfl rfl) (Vl 0 isAgg4 rfl ?_))))))
   rcases Bool.eq_false_or_eq_true (x1.actuator == 0) with hc3 | hc3
   ·
    replace hm := ite_t hc3 hm
    refine V rfl (ov_indexAddr_at (j := 0) underlying103 sizeOf4 rfl rfl rfl (eq_of_beq hc3) rfl) ?_
    refine ws0 rfl (os_store (i := 2) (vs := [(.bool x1.out)]) (cs' := [(.bool x1.out), (.bool c2), (.bool c3), (.bool c4), (.bool c5), (.bool c6)]) sizeOf4 rfl rfl rfl rfl rfl rfl rfl rfl rfl ?_)
    refine WL.nil (bn (tn (WP.region (V rfl (ov_add rfl rfl rfl) (Vm rfl (WL.nil (tn ?_)))))))
    exact ⟨(IntKind.wrap .i64 (i1 + 1)), x1.out, c2, c3, c4, c5, c6, (Sub.all rfl), fun w' s => (s.select [1, 2] (by decide) rfl), hm⟩
   replace hm := ite_f hc3 hm
   rcases Bool.eq_false_or_eq_true (x1.actuator == 1) with hc4 | hc4
   ·
    replace hm := ite_t hc4 hm
    refine V rfl (ov_indexAddr_at (j := 1) underlying103 sizeOf4 rfl rfl rfl (eq_of_beq hc4) rfl) ?_
    refine ws0 rfl (os_store (i := 2) (vs := [(.bool x1.out)]) (cs' := [(.bool c1), (.bool x1.out), (.bool c3), (.bool c4), (.bool c5), (.bool c6)]) sizeOf4 rfl rfl rfl rfl rfl rfl rfl rfl rfl ?_)
    refine WL.nil (bn (tn (WP.region (V rfl (ov_add rfl rfl rfl) (Vm rfl (WL.nil (tn ?_)))))))
    exact ⟨(IntKind.wrap .i64 (i1 + 1)), c1, x1.out, c3, c4, c5, c6, (Sub.all rfl), fun w' s => (s.select [1, 2] (by decide) rfl), hm⟩
   replace hm := ite_f hc4 hm
   rcases Bool.eq_false_or_eq_true (x1.actuator == 2) with hc5 | hc5
   ·
    replace hm := ite_t hc5 hm
    refine V rfl (ov_indexAddr_at (j := 2) underlying103 sizeOf4 rfl rfl rfl (eq_of_beq hc5) rfl) ?_
    refine ws0 rfl (os_store (i := 2) (vs := [(.bool x1.out)]) (cs' := [(.bool c1), (.bool c2), (.bool x1.out), (.bool c4), (.bool c5), (.bool c6)]) sizeOf4 rfl rfl rfl rfl rfl rfl rfl rfl rfl ?_)
    refine WL.nil (bn (tn (WP.region (V rfl (ov_add rfl rfl rfl) (Vm rfl (WL.nil (tn ?_)))))))
    exact ⟨(IntKind.wrap .i64 (i1 + 1)), c1, c2, x1.out, c4, c5, c6, (Sub.all rfl), fun w' s => (s.select [1, 2] (by decide) rfl), hm⟩
   replace hm := ite_f hc5 hm
   rcases Bool.eq_false_or_eq_true (x1.actuator == 3) with hc6 | hc6
   ·
    replace hm := ite_t hc6 hm
    refine V rfl (ov_indexAddr_at (j := 3) underlying103 sizeOf4 rfl rfl rfl (eq_of_beq hc6) rfl) ?_
    refine ws0 rfl (os_store (i := 2) (vs := [(.bool x1.out)]) (cs' := [(.bool c1), (.bool c2), (.bool c3), (.bool x1.out), (.bool c5), (.bool c6)]) sizeOf4 rfl rfl rfl rfl rfl rfl rfl rfl rfl ?_)
    refine WL.nil (bn (tn (WP.region (V rfl (ov_add rfl rfl rfl) (Vm rfl (WL.nil (tn ?_)))))))
    exact ⟨(IntKind.wrap .i64 (i1 + 1)), c1, c2, c3, x1.out, c5, c6, (Sub.all rfl), fun w' s => (s.select [1, 2] (by decide) rfl), hm⟩
   replace hm := ite_f hc6 hm
   rcases Bool.eq_false_or_eq_true (x1.actuator == 4) with hc7 | hc7
   ·
    replace hm := ite_t hc7 hm
    refine V rfl (ov_indexAddr_at (j := 4) underlying103 sizeOf4 rfl rfl rfl (eq_of_beq hc7) rfl) ?_
    refine ws0 rfl (os_store (i := 2) (vs := [(.bool x1.out)]) (cs' := [(.bool c1), (.bool c2), (.bool c3), (.bool c4), (.bool x1.out), (.bool c6)]) sizeOf4 rfl rfl rfl rfl rfl rfl rfl rfl rfl ?_)
    refine WL.nil (bn (tn (WP.region (V rfl (ov_add rfl rfl rfl) (Vm rfl (WL.nil (tn ?_)))))))
    exact ⟨(IntKind.wrap .i64 (i1 + 1)), c1, c2, c3, c4, x1.out, c6, (Sub.all rfl), fun w' s => (s.select [1, 2] (by decide) rfl), hm⟩
   replace hm := ite_f hc7 hm
   rcases Bool.eq_false_or_eq_true (x1.actuator == 5) with hc8 | hc8
   ·
    replace hm := ite_t hc8 hm
    refine V rfl (ov_indexAddr_at (j := 5) underlying103 sizeOf4 rfl rfl rfl (eq_of_beq hc8) rfl) ?_
    refine ws0 rfl (os_store (i := 2) (vs := [(.bool x1.out)]) (cs' := [(.bool c1), (.bool c2), (.bool c3), (.bool c4), (.bool c5), (.bool x1.out)]) sizeOf4 rfl rfl rfl rfl rfl rfl rfl rfl rfl ?_)
    refine WL.nil (bn (tn (WP.region (V rfl (ov_add rfl rfl rfl) (Vm rfl (WL.nil (tn ?_)))))))
    exact ⟨(IntKind.wrap .i64 (i1 + 1)), c1, c2, c3, c4, c5, x1.out, (Sub.all rfl), fun w' s => (s.select [1, 2] (by decide) rfl), hm⟩
   replace hm := ite_f hc8 hm
   exact (none_some hm).elim
  replace hm := ite_f hc2 hm
  refine WP.exit (then_exit (then_exit (block_here (tn ?_))))
  exact ⟨c1, c2, c3, c4, c5, c6, (Sub.all rfl), fun w' s => s, hm⟩
 rintro g' S' ⟨c7, c8, c9, c10, c11, c12, hsub2, hS2, hm⟩
 refine WP.sub hsub2 (WP.weaken hS2 ?_)
 replace hm := (congrFun (congrFun (congrFun (congrFun (congrFun (congrFun hk1 c7) c8) c9) c10) c11) c12).symm.trans hm
 refine WP.seq (WP.region (V rfl (ov_load_whole (i := 1) isAgg103 sizeOf103 rfl rfl rfl rfl) ?_))
 refine ws0 rfl (os_store (i := 0) (vs := [(.bool c7), (.bool c8), (.bool c9), (.bool c10), (.bool c11), (.bool c12)]) (cs' := [(.bool c7), (.bool c8), (.bool c9), (.bool c10), (.bool c11), (.bool c12)]) sizeOf103 rfl rfl rfl rfl rfl rfl rfl rfl rfl ?_)
 refine WL.nil (tn (WP.ret ?_))
 obtain rfl := Option.some.inj hm
 refine retQ_ret results46 (Res.cell rfl (box_loads (i := 0) isAgg103 sizeOf103 rfl rfl) Res.nil) rfl (fun w' s => ⟨s.below, ?_⟩)
 exact rfl
theorem slices_Index_boolbool_con (p_s : (List Bool)) (p_v : Bool) (ao1 : Option Addr) (cap1 : Nat) (w : World) (H : Heap) (hH : Le H (hp w)) (h1 : SL H encBool ao1 p_s) (hc1 : p_s.length ≤ cap1) (hG : Glob H) (r : Int) (hm : slices_Index_boolbool p_s p_v = some r) :
  Con prog 84 [(.slice ao1 p_s.length cap1), (.bool p_v)] w H (fun v _ => v = (.int .i64 r)) := by
 unfold slices_Index_boolbool at hm
 refine con_of hH func84 rfl 19 ntmps84 rfl ?_
 refine WP.seq (WP.region (Va rfl (WL.nil (tn ?_))))
 obtain ⟨k1, hk1, hm⟩ := joinK_some hm
 refine WP.seq_join (fun g' S' => Sub [(1000000007, (.bool false))] g' ∧ (∀ w', S' w' → St w H [] H w') ∧ k1 = some r) ?_ ?_
 ·
  refine WP.seq (WP.region (Vm rfl (V rfl (ov_len_slice underlying107 rfl rfl) (Vm rfl (WL.nil (tn (WP.block ?_)))))))
  refine WP.loop (fun m1 g' S' => ∃ (i1 : Int), Sub [(0, (.slice ao1 p_s.length cap1)), (1, (.bool p_v)), (7, (.int .i64 (p_s.length : Int))), (8, (.int .i64 i1)), (1000000007, (.bool false))] g' ∧ (∀ w', S' w' → St w H [] H w') ∧ slices_Index_boolbool_loop1 p_s p_v k1 m1 i1 = some r) ((Int.toNat ((p_s.length : Int) - 0) + 1)) ⟨0, (Sub.all rfl), fun w' s => s, hm⟩ ?_ ?_
  ·
   rintro g' S' ⟨_, _, _, hm⟩
   exact none_some hm
  rintro m1 g' S' ⟨i1, hsub1, hS1, hm⟩
  refine WP.sub hsub1 (WP.weaken hS1 ?_)
  rw [slices_Index_boolbool_loop1] at hm
  refine WP.seq (WP.region (V rfl (ov_lss rfl rfl rfl) (WL.nil (tn (WP.seq ?_)))))
  refine WP.cond rfl (fun hc2 => ?_) (fun hc2 => ?_)
  ·
   replace hm := ite_t hc2 hm
   refine WP.skip (tn (WP.seq (WP.block (WP.seq (WP.region (Vm rfl (Va rfl (WL.nil (tn (WP.seq (WP.region (Vm rfl (Vm rfl ?_)))))))))))))
   refine Vm rfl ?_
   obtain ⟨x1, e1, hm⟩ := bind_some hm
   obtain ⟨h2, h3, h4, cs1, h5, h6⟩ := h1.get e1 (by decide)
   obtain rfl : cs1 = [(.bool x1)] := h5
   refine V rfl (ov_indexAddr underlying107 sizeOf4 rfl rfl rfl h2 h3 h4) (V rfl (ov_load_elem (v := (.bool x1)) isAgg4 rfl rfl h6) (V rfl (ov_beql underlying4 rfl rfl rfl) (WL.nil (tn ?_))))
   refine WP.cond rfl (fun hc3 => ?_) (fun hc3 => ?_)
   ·
    replace hm := ite_t hc3 hm
    refine WP.seq (WP.region (Vm rfl (Va rfl (WL.nil (tn (WP.ret (block_ret (then_ret (then_ret (block_ret (then_ret ?_)))))))))))
    obtain rfl := Option.some.inj hm
    refine retQ_ret results84 (Res.tmp rfl Res.nil) rfl (fun w' s => ⟨s.below, ?_⟩)
    exact rfl
   replace hm := ite_f hc3 hm
   refine WP.skip (bn (tn (WP.region (V rfl (ov_add rfl rfl rfl) (Vm rfl (WL.nil (tn ?_)))))))
   exact ⟨(IntKind.wrap .i64 (i1 + 1)), (Sub.all rfl), fun w' s => s, hm⟩
  replace hm := ite_f hc2 hm
  refine WP.exit (then_exit (then_exit (block_here (tn ?_))))
  exact ⟨(Sub.all rfl), fun w' s => s, hm⟩
 rintro g' S' ⟨hsub2, hS2, hm⟩
 refine WP.sub hsub2 (WP.weaken hS2 ?_)
 replace hm := hk1.symm.trans hm
 refine WP.seq (WP.region (Va rfl (WL.nil (tn (WP.ret ?_)))))
 obtain rfl := Option.some.inj hm
 refine retQ_ret results84 (Res.tmp rfl Res.nil) rfl (fun w' s => ⟨s.below, ?_⟩)
 exact rfl
theorem slices_Contains_boolbool_con (p_s : (List Bool)) (p_v : Bool) (ao1 : Option Addr) (cap1 : Nat) (w : World) (H : Heap) (hH : Le H (hp w)) (h1 : SL H encBool ao1 p_s) (hc1 : p_s.length ≤ cap1) (hG : Glob H) (r : Bool) (hm : slices_Contains_boolbool p_s p_v = some r) :
  Con prog 47 [(.slice ao1 p_s.length cap1), (.bool p_v)] w H (fun v _ => v = (.bool r)) := by
 unfold slices_Contains_boolbool at hm
 refine con_of hH func47 rfl 9 ntmps47 rfl ?_
 refine WP.seq (WP.region (Va rfl (WL.nil (tn (WP.seq (WP.region (Vm rfl (Vm rfl ?_))))))))
 obtain ⟨r1, e1, hm⟩ := bind_some hm
 refine wo rfl (oq_con (r := (.int .i64 r1)) call84 rfl rfl (fun w' s => ⟨_, (slices_Index_boolbool_con p_s p_v ao1 cap1  w' H s.hold h1 hc1 hG r1 e1)⟩)) ?_
 refine V rfl (ov_geq rfl rfl rfl) (Va rfl (WL.nil (tn (WP.ret ?_))))
 obtain rfl := Option.some.inj hm
 refine retQ_ret results47 (Res.tmp rfl Res.nil) rfl (fun w' s => ⟨s.below, ?_⟩)
 exact rfl
theorem sequence_Check_con (p_s : Sequence) (ao1 : Option Addr) (cap1 : Nat) (w : World) (H : Heap) (hH : Le H (hp w)) (h1 : SL H encStep ao1 p_s.steps) (hc1 : p_s.steps.length ≤ cap1) (hG : Glob H) (r : Int) (hm : sequence_Check p_s = some r) :
  Con prog 27 [(.agg #[(.int .i64 p_s.actuators), (.slice ao1 p_s.steps.length cap1)])] w H (fun v _ => v = (.int .i64 r)) := by
 unfold sequence_Check at hm
 refine con_of hH func27 rfl 65 ntmps27 rfl ?_
 refine WP.seq (WP.region ?_)
 refine ws rfl (os_box (cs := [(.int .i64 p_s.actuators), (.slice ao1 p_s.steps.length cap1)]) rfl rfl rfl (fun b1 => ?_))
 refine Va rfl (WL.nil (tn (WP.seq (WP.block (WP.seq (WP.region (V rfl (ov_fieldAddr underlying24 rfl rfl rfl sizeOf3 rfl rfl) (Vl 0 isAgg3 rfl (V rfl (ov_lss rfl rfl rfl) (Vm rfl ?_))))))))))
 refine WL.cut_bool 4 18 (x := ((decide (p_s.actuators < 1)) || (decide (p_s.actuators > 6)))) ?_ ?_
 ·
  rcases Bool.eq_false_or_eq_true (decide (p_s.actuators < 1)) with hc2 | hc2
  ·
   refine Vi rfl (Idle.no rfl rfl rfl hc2) (Vi rfl (Idle.no rfl rfl rfl hc2) (Vi rfl (Idle.no rfl rfl rfl hc2) (V rfl (ov_pick_true rfl (guard_eq rfl hc2) rfl) ?_)))
   exact WL.nil ⟨Sub.cons' rfl (congrArg Value.bool (orT hc2)) (Sub.dropn 4 rfl), fun _ s => s⟩
  refine wy hc2 rfl (ov_fieldAddr underlying24 rfl rfl rfl sizeOf3 rfl rfl) ?_
  refine wy hc2 rfl (ov_load_box (i := 0) isAgg3 rfl rfl rfl rfl) ?_
  refine wy hc2 rfl (ov_gtr rfl rfl rfl) ?_
  refine V rfl (ov_pick_false rfl (guard_eq rfl hc2) rfl) ?_
  exact WL.nil ⟨Sub.cons' rfl (congrArg Value.bool (orF hc2)) (Sub.dropn 4 rfl), fun _ s => s⟩
 refine Va rfl (WL.nil (tn ?_))
 refine WP.cond rfl (fun hc3 => ?_) (fun hc3 => ?_)
 ·
  replace hm := ite_t hc3 hm
  refine WP.seq (WP.region (Va rfl (WL.nil (tn (WP.ret (block_ret (then_ret ?_)))))))
  obtain rfl := Option.some.inj hm
  refine retQ_ret results27 (Res.tmp rfl Res.nil) rfl (fun w' s => ⟨s.below, ?_⟩)
  exact rfl
 replace hm := ite_f hc3 hm
 refine WP.seq (WP.region (V rfl (ov_fieldAddr underlying24 rfl rfl rfl sizeOf22 rfl rfl) (Vl 0 isAgg22 rfl (V rfl (ov_len_slice underlying22 rfl rfl) (V rfl (ov_eql rfl rfl rfl) (Va rfl (WL.nil (tn ?_))))))))
 refine WP.cond rfl (fun hc4 => ?_) (fun hc4 => ?_)
 ·
  replace hm := ite_t hc4 hm
  refine WP.seq (WP.region (Va rfl (WL.nil (tn (WP.ret (block_ret (then_ret ?_)))))))
  obtain rfl := Option.some.inj hm
  refine retQ_ret results27 (Res.tmp rfl Res.nil) rfl (fun w' s => ⟨s.below, ?_⟩)
  exact rfl
 replace hm := ite_f hc4 hm
 refine WP.seq (WP.region (V rfl (ov_fieldAddr underlying24 rfl rfl rfl sizeOf22 rfl rfl) (Vl 0 isAgg22 rfl (V rfl (ov_len_slice underlying22 rfl rfl) (V rfl (ov_gtr rfl rfl rfl) (Va rfl (WL.nil (tn ?_))))))))
 refine WP.cond rfl (fun hc5 => ?_) (fun hc5 => ?_)
 ·
  replace hm := ite_t hc5 hm
  refine WP.seq (WP.region (Va rfl (WL.nil (tn (WP.ret (block_ret (then_ret ?_)))))))
  obtain rfl := Option.some.inj hm
  refine retQ_ret results27 (Res.tmp rfl Res.nil) rfl (fun w' s => ⟨s.below, ?_⟩)
  exact rfl
 replace hm := ite_f hc5 hm
 refine WP.skip (bn (tn (WP.seq (WP.region ?_))))
 refine ws rfl (os_alloc (cs := [(.bool false), (.bool false), (.bool false), (.bool false), (.bool false), (.bool false)]) zeroValue103 rfl rfl (fun b2 => ?_))
 refine ws rfl (os_alloc (cs := [(.bool false), (.bool false), (.bool false), (.bool false), (.bool false), (.bool false)]) zeroValue103 rfl rfl (fun b3 => ?_))
 refine WL.nil (tn ?_)
 obtain ⟨k1, hk1, hm⟩ := joinK_some hm
 refine WP.seq_join (fun g' S' => ∃ (c31 : Bool) (c32 : Bool) (c33 : Bool) (c34 : Bool) (c35 : Bool) (c36 : Bool) (c37 : Bool) (c38 : Bool) (c39 : Bool) (c40 : Bool) (c41 : Bool) (c42 : Bool), Sub [(1, (pB b1 0)), (3, (pB b2 0)), (4, (pB b3 0)), (1000000007, (.bool false))] g' ∧ (∀ w', S' w' → St w H [.blk b3 103 [(.bool c37), (.bool c38), (.bool c39), (.bool c40), (.bool c41), (.bool c42)], .blk b2 103 [(.bool c31), (.bool c32), (.bool c33), (.bool c34), (.bool c35), (.bool c36)], .blk b1 24 [(.int .i64 p_s.actuators), (.slice ao1 p_s.steps.length cap1)]] H w') ∧ k1 c31 c32 c33 c34 c35 c36 c37 c38 c39 c40 c41 c42 = some r) ?_ ?_
 ·
  refine WP.seq (WP.region (V rfl (ov_fieldAddr underlying24 rfl rfl rfl sizeOf22 rfl rfl) (Vl 2 isAgg22 rfl (V rfl (ov_len_slice underlying22 rfl rfl) (Vm rfl (WL.nil (tn (WP.block ?_))))))))
  refine WP.loop (fun m1 g' S' => ∃ (i1 : Int) (c1 : Bool) (c2 : Bool) (c3 : Bool) (c4 : Bool) (c5 : Bool) (c6 : Bool) (c7 : Bool) (c8 : Bool) (c9 : Bool) (c10 : Bool) (c11 : Bool) (c12 : Bool), Sub [(1, (pB b1 0)), (3, (pB b2 0)), (4, (pB b3 0)), (30, (.slice ao1 p_s.steps.length cap1)), (31, (.int .i64 (p_s.steps.length : Int))), (32, (.int .i64 i1)), (1000000007, (.bool false))] g' ∧ (∀ w', S' w' → St w H [.blk b3 103 [(.bool c7), (.bool c8), (.bool c9), (.bool c10), (.bool c11), (.bool c12)], .blk b2 103 [(.bool c1), (.bool c2), (.bool c3), (.bool c4), (.bool c5), (.bool c6)], .blk b1 24 [(.int .i64 p_s.actuators), (.slice ao1 p_s.steps.length cap1)]] H w') ∧ sequence_Check_loop1 p_s k1 m1 i1 c1 c2 c3 c4 c5 c6 c7 c8 c9 c10 c11 c12 = some r) ((Int.toNat ((p_s.steps.length : Int) - 0) + 1)) ⟨0, false, false, false, false, false, false, false, false, false, false, false, false, (Sub.all rfl), fun w' s => s, hm⟩ ?_ ?_
  ·
   rintro g' S' ⟨_, _, _, _, _, _, _, _, _, _, _, _, _, _, _, hm⟩
   exact none_some hm
  rintro m1 g' S' ⟨i1, c1, c2, c3, c4, c5, c6, c7, c8, c9, c10, c11, c12, hsub1, hS1, hm⟩
  refine WP.sub hsub1 (WP.weaken hS1 ?_)
  rw [sequence_Check_loop1] at hm
  refine WP.seq (WP.region (V rfl (ov_lss rfl rfl rfl) (WL.nil (tn (WP.seq ?_)))))
  refine WP.cond rfl (fun hc6 => ?_) (fun hc6 => ?_)
  ·
   replace hm := ite_t hc6 hm
   refine WP.skip (tn ?_)
   obtain ⟨k2, hk2, hm⟩ := joinK_some hm
   refine WP.seq_join (fun g' S' => ∃ (c19 : Bool) (c20 : Bool) (c21 : Bool) (c22 : Bool) (c23 : Bool) (c24 : Bool) (c25 : Bool) (c26 : Bool) (c27 : Bool) (c28 : Bool) (c29 : Bool) (c30 : Bool), Sub [(1, (pB b1 0)), (3, (pB b2 0)), (4, (pB b3 0)), (30, (.slice ao1 p_s.steps.length cap1)), (31, (.int .i64 (p_s.steps.length : Int))), (32, (.int .i64 i1)), (1000000007, (.bool false))] g' ∧ (∀ w', S' w' → St w H [.blk b3 103 [(.bool c25), (.bool c26), (.bool c27), (.bool c28), (.bool c29), (.bool c30)], .blk b2 103 [(.bool c19), (.bool c20), (.bool c21), (.bool c22), (.bool c23), (.bool c24)], .blk b1 24 [(.int .i64 p_s.actuators), (.slice ao1 p_s.steps.length cap1)]] H w') ∧ k2 c19 c20 c21 c22 c23 c24 c25 c26 c27 c28 c29 c30 = some r) ?_ ?_
   ·
    refine WP.block (WP.seq (WP.region ?_))
    obtain ⟨x1, e1, hm⟩ := bind_some hm
    obtain ⟨h3, h4, h5, cs1, h6, h7⟩ := h1.get e1 (by decide)
    obtain ⟨ao2, cap2, rfl, h2, hc7⟩ := h6
    refine V rfl (ov_indexAddr underlying22 sizeOf55 rfl rfl rfl h3 h4 h5) (V rfl (ov_load_elems (vs := [(.slice ao2 x1.strokes.length cap2), (.int .i64 x1.wait)]) isAgg55 sizeOf55 rfl rfl rfl h7 h5) ?_)
    refine ws rfl (os_alloc (cs := [(.slice none 0 0), (.int .i64 0)]) zeroValue55 rfl rfl (fun b4 => ?_))
    refine ws0 rfl (os_store (i := 0) (vs := [(.slice ao2 x1.strokes.length cap2), (.int .i64 x1.wait)]) (cs' := [(.slice ao2 x1.strokes.length cap2), (.int .i64 x1.wait)]) sizeOf55 rfl rfl rfl rfl rfl rfl rfl rfl rfl ?_)
    refine WL.nil (tn (WP.seq (WP.seq (WP.region (V rfl (ov_load_whole (i := 3) isAgg24 sizeOf24 rfl rfl rfl rfl) (V rfl (ov_load_whole (i := 0) isAgg55 sizeOf55 rfl rfl rfl rfl) (V rfl (ov_load_whole (i := 2) isAgg103 sizeOf103 rfl rfl rfl rfl) ?_)))))))
    obtain ⟨r1, e2, hm⟩ := bind_some hm
    refine wo rfl (oq_con (r := (.int .i64 r1)) call45 rfl rfl (fun w' s => ⟨_, (sequence_fits_con p_s x1 (Ends6.mk c1 c2 c3 c4 c5 c6) ao1 cap1 ao2 cap2  w' H s.hold h1 hc1 h2 hc7 hG r1 e2)⟩)) ?_
    refine Va rfl (WL.nil (tn (WP.seq (WP.region (Vm rfl (V rfl (ov_neq rfl rfl rfl) (WL.nil (tn ?_))))))))
    refine WP.cond rfl (fun hc8 => ?_) (fun hc8 => ?_)
    ·
     replace hm := ite_t hc8 hm
     refine WP.seq (WP.region (Vm rfl (Va rfl (WL.nil (tn (WP.ret (then_ret (block_ret (then_ret (then_ret (block_ret (then_ret ?_))))))))))))
     obtain rfl := Option.some.inj hm
     refine retQ_ret results27 (Res.tmp rfl Res.nil) rfl (fun w' s => ⟨s.below, ?_⟩)
     exact rfl
    replace hm := ite_f hc8 hm
    refine WP.skip (tn (WP.seq (WP.region (V rfl (ov_load_whole (i := 2) isAgg103 sizeOf103 rfl rfl rfl rfl) (V rfl (ov_load_whole (i := 0) isAgg55 sizeOf55 rfl rfl rfl rfl) ?_)))))
    obtain ⟨r2, e3, hm⟩ := bind_some hm
    refine wo rfl (oq_con (r := (.agg #[(.bool r2.a0), (.bool r2.a1), (.bool r2.a2), (.bool r2.a3), (.bool r2.a4), (.bool r2.a5)])) call46 rfl rfl (fun w' s => ⟨_, (sequence_ends_behind_con (Ends6.mk c1 c2 c3 c4 c5 c6) x1 ao2 cap2  w' H s.hold h2 hc7 hG r2 e3)⟩)) ?_
    refine ws0 rfl (os_store (i := 2) (vs := [(.bool r2.a0), (.bool r2.a1), (.bool r2.a2), (.bool r2.a3), (.bool r2.a4), (.bool r2.a5)]) (cs' := [(.bool r2.a0), (.bool r2.a1), (.bool r2.a2), (.bool r2.a3), (.bool r2.a4), (.bool r2.a5)]) sizeOf103 rfl rfl rfl rfl rfl rfl rfl rfl rfl ?_)
    refine WL.nil (tn (WP.seq (WP.region (V rfl (ov_fieldAddr underlying55 rfl rfl rfl sizeOf53 rfl rfl) (Vl 0 isAgg53 rfl (V rfl (ov_len_slice underlying53 rfl rfl) (Vm rfl (WL.nil (tn (WP.block ?_))))))))))
    refine WP.loop (fun m2 g' S' => ∃ (i2 : Int) (c13 : Bool) (c14 : Bool) (c15 : Bool) (c16 : Bool) (c17 : Bool) (c18 : Bool), Sub [(1, (pB b1 0)), (3, (pB b2 0)), (4, (pB b3 0)), (30, (.slice ao1 p_s.steps.length cap1)), (31, (.int .i64 (p_s.steps.length : Int))), (32, (.int .i64 i1)), (47, (.slice ao2 x1.strokes.length cap2)), (48, (.int .i64 (x1.strokes.length : Int))), (49, (.int .i64 i2)), (1000000007, (.bool false))] g' ∧ (∀ w', S' w' → St w H [.blk b3 103 [(.bool c13), (.bool c14), (.bool c15), (.bool c16), (.bool c17), (.bool c18)], .blk b2 103 [(.bool r2.a0), (.bool r2.a1), (.bool r2.a2), (.bool r2.a3), (.bool r2.a4), (.bool r2.a5)], .blk b1 24 [(.int .i64 p_s.actuators), (.slice ao1 p_s.steps.length cap1)]] H w') ∧ sequence_Check_loop2 k2 x1 r2 m2 i2 c13 c14 c15 c16 c17 c18 = some r) ((Int.toNat ((x1.strokes.length : Int) - 0) + 1)) ⟨0, c7, c8, c9, c10, c11, c12, (Sub.all rfl), fun w' s => (s.select [1, 2, 3] (by decide) rfl), hm⟩ ?_ ?_
    ·
     rintro g' S' ⟨_, _, _, _, _, _, _, _, _, hm⟩
     exact none_some hm
    rintro m2 g' S' ⟨i2, c13, c14, c15, c16, c17, c18, hsub2, hS2, hm⟩
    refine WP.sub hsub2 (WP.weaken hS2 ?_)
    rw [sequence_Check_loop2] at hm
    refine WP.seq (WP.region (V rfl (ov_lss rfl rfl rfl) (WL.nil (tn (WP.seq ?_)))))
    refine WP.cond rfl (fun hc9 => ?_) (fun hc9 => ?_)
    ·
     replace hm := ite_t hc9 hm
     refine WP.skip (tn (WP.seq (WP.block (WP.seq (WP.region ?_)))))
     obtain ⟨x2, e4, hm⟩ := bind_some hm
     obtain ⟨h8, h9, h10, cs2, h11, h12⟩ := h2.get e4 (by decide)
     obtain rfl : cs2 = [(.int .i64 x2.actuator), (.bool x2.out)] := h11
     refine V rfl (ov_indexAddr underlying53 sizeOf59 rfl rfl rfl h8 h9 h10) (V rfl (ov_load_elems (vs := [(.int .i64 x2.actuator), (.bool x2.out)]) isAgg59 sizeOf59 rfl rfl rfl h12 h10) ?_)
     refine ws rfl (os_alloc (cs := [(.int .i64 0), (.bool false)]) zeroValue59 rfl rfl (fun b5 => ?_))
     refine ws0 rfl (os_store (i := 0) (vs := [(.int .i64 x2.actuator), (.bool x2.out)]) (cs' := [(.int .i64 x2.actuator), (.bool x2.out)]) sizeOf59 rfl rfl rfl rfl rfl rfl rfl rfl rfl ?_)
     refine WL.nil (tn (WP.region (V rfl (ov_fieldAddr underlying59 rfl rfl rfl sizeOf3 rfl rfl) (Vl 0 isAgg3 rfl ?_))))
     rcases Bool.eq_false_or_eq_true (x2.actuator == 0) with hc10 | hc10
     ·
      replace hm := ite_t hc10 hm
      refine V rfl (ov_indexAddr_at (j := 0) underlying103 sizeOf4 rfl rfl rfl (eq_of_beq hc10) rfl) ?_
      refine ws0 rfl (os_store (i := 1) (vs := [(.bool true)]) (cs' := [(.bool true), (.bool c14), (.bool c15), (.bool c16), (.bool c17), (.bool c18)]) sizeOf4 rfl rfl rfl rfl rfl rfl rfl rfl rfl ?_)
      refine WL.nil (bn (tn (WP.region (V rfl (ov_add rfl rfl rfl) (Vm rfl (WL.nil (tn ?_)))))))
      exact ⟨(IntKind.wrap .i64 (i2 + 1)), true, c14, c15, c16, c17, c18, (Sub.all rfl), fun w' s => (s.select [1, 2, 3] (by decide) rfl), hm⟩
     replace hm := ite_f hc10 hm
     rcases Bool.eq_false_or_eq_true (x2.actuator == 1) with hc11 | hc11
     ·
      replace hm := ite_t hc11 hm
      refine V rfl (ov_indexAddr_at (j := 1) underlying103 sizeOf4 rfl rfl rfl (eq_of_beq hc11) rfl) ?_
      refine ws0 rfl (os_store (i := 1) (vs := [(.bool true)]) (cs' := [(.bool c13), (.bool true), (.bool c15), (.bool c16), (.bool c17), (.bool c18)]) sizeOf4 rfl rfl rfl rfl rfl rfl rfl rfl rfl ?_)
      refine WL.nil (bn (tn (WP.region (V rfl (ov_add rfl rfl rfl) (Vm rfl (WL.nil (tn ?_)))))))
      exact ⟨(IntKind.wrap .i64 (i2 + 1)), c13, true, c15, c16, c17, c18, (Sub.all rfl), fun w' s => (s.select [1, 2, 3] (by decide) rfl), hm⟩
     replace hm := ite_f hc11 hm
     rcases Bool.eq_false_or_eq_true (x2.actuator == 2) with hc12 | hc12
     ·
      replace hm := ite_t hc12 hm
      refine V rfl (ov_indexAddr_at (j := 2) underlying103 sizeOf4 rfl rfl rfl (eq_of_beq hc12) rfl) ?_
      refine ws0 rfl (os_store (i := 1) (vs := [(.bool true)]) (cs' := [(.bool c13), (.bool c14), (.bool true), (.bool c16), (.bool c17), (.bool c18)]) sizeOf4 rfl rfl rfl rfl rfl rfl rfl rfl rfl ?_)
      refine WL.nil (bn (tn (WP.region (V rfl (ov_add rfl rfl rfl) (Vm rfl (WL.nil (tn ?_)))))))
      exact ⟨(IntKind.wrap .i64 (i2 + 1)), c13, c14, true, c16, c17, c18, (Sub.all rfl), fun w' s => (s.select [1, 2, 3] (by decide) rfl), hm⟩
     replace hm := ite_f hc12 hm
     rcases Bool.eq_false_or_eq_true (x2.actuator == 3) with hc13 | hc13
     ·
      replace hm := ite_t hc13 hm
      refine V rfl (ov_indexAddr_at (j := 3) underlying103 sizeOf4 rfl rfl rfl (eq_of_beq hc13) rfl) ?_
      refine ws0 rfl (os_store (i := 1) (vs := [(.bool true)]) (cs' := [(.bool c13), (.bool c14), (.bool c15), (.bool true), (.bool c17), (.bool c18)]) sizeOf4 rfl rfl rfl rfl rfl rfl rfl rfl rfl ?_)
      refine WL.nil (bn (tn (WP.region (V rfl (ov_add rfl rfl rfl) (Vm rfl (WL.nil (tn ?_)))))))
      exact ⟨(IntKind.wrap .i64 (i2 + 1)), c13, c14, c15, true, c17, c18, (Sub.all rfl), fun w' s => (s.select [1, 2, 3] (by decide) rfl), hm⟩
     replace hm := ite_f hc13 hm
     rcases Bool.eq_false_or_eq_true (x2.actuator == 4) with hc14 | hc14
     ·
      replace hm := ite_t hc14 hm
      refine V rfl (ov_indexAddr_at (j := 4) underlying103 sizeOf4 rfl rfl rfl (eq_of_beq hc14) rfl) ?_
      refine ws0 rfl (os_store (i := 1) (vs := [(.bool true)]) (cs' := [(.bool c13), (.bool c14), (.bool c15), (.bool c16), (.bool true), (.bool c18)]) sizeOf4 rfl rfl rfl rfl rfl rfl rfl rfl rfl ?_)
      refine WL.nil (bn (tn (WP.region (V rfl (ov_add rfl rfl rfl) (Vm rfl (WL.nil (tn ?_)))))))
      exact ⟨(IntKind.wrap .i64 (i2 + 1)), c13, c14, c15, c16, true, c18, (Sub.all rfl), fun w' s => (s.select [1, 2, 3] (by decide) rfl), hm⟩
     replace hm := ite_f hc14 hm
     rcases Bool.eq_false_or_eq_true (x2.actuator == 5) with hc15 | hc15
     ·
      replace hm := ite_t hc15 hm
      refine V rfl (ov_indexAddr_at (j := 5) underlying103 sizeOf4 rfl rfl rfl (eq_of_beq hc15) rfl) ?_
      refine ws0 rfl (os_store (i := 1) (vs := [(.bool true)]) (cs' := [(.bool c13), (.bool c14), (.bool c15), (.bool c16), (.bool c17), (.bool true)]) sizeOf4 rfl rfl rfl rfl rfl rfl rfl rfl rfl ?_)
      refine WL.nil (bn (tn (WP.region (V rfl (ov_add rfl rfl rfl) (Vm rfl (WL.nil (tn ?_)))))))
      exact ⟨(IntKind.wrap .i64 (i2 + 1)), c13, c14, c15, c16, c17, true, (Sub.all rfl), fun w' s => (s.select [1, 2, 3] (by decide) rfl), hm⟩
     replace hm := ite_f hc15 hm
     exact (none_some hm).elim
    replace hm := ite_f hc9 hm
    refine WP.exit (then_exit (then_exit (block_here (bn (tn ?_)))))
    exact ⟨r2.a0, r2.a1, r2.a2, r2.a3, r2.a4, r2.a5, c13, c14, c15, c16, c17, c18, (Sub.all rfl), fun w' s => s, hm⟩
   rintro g' S' ⟨c19, c20, c21, c22, c23, c24, c25, c26, c27, c28, c29, c30, hsub3, hS3, hm⟩
   refine WP.sub hsub3 (WP.weaken hS3 ?_)
   replace hm := (congrFun (congrFun (congrFun (congrFun (congrFun (congrFun (congrFun (congrFun (congrFun (congrFun (congrFun (congrFun hk2 c19) c20) c21) c22) c23) c24) c25) c26) c27) c28) c29) c30).symm.trans hm
   refine WP.region (V rfl (ov_add rfl rfl rfl) (Vm rfl (WL.nil (tn ?_))))
   exact ⟨(IntKind.wrap .i64 (i1 + 1)), c19, c20, c21, c22, c23, c24, c25, c26, c27, c28, c29, c30, (Sub.all rfl), fun w' s => s, hm⟩
  replace hm := ite_f hc6 hm
  refine WP.exit (then_exit (then_exit (block_here (tn ?_))))
  exact ⟨c1, c2, c3, c4, c5, c6, c7, c8, c9, c10, c11, c12, (Sub.all rfl), fun w' s => s, hm⟩
 rintro g' S' ⟨c31, c32, c33, c34, c35, c36, c37, c38, c39, c40, c41, c42, hsub4, hS4, hm⟩
 refine WP.sub hsub4 (WP.weaken hS4 ?_)
 replace hm := (congrFun (congrFun (congrFun (congrFun (congrFun (congrFun (congrFun (congrFun (congrFun (congrFun (congrFun (congrFun hk1 c31) c32) c33) c34) c35) c36) c37) c38) c39) c40) c41) c42).symm.trans hm
 refine WP.seq (WP.seq (WP.region (V rfl (ov_load_whole (i := 1) isAgg103 sizeOf103 rfl rfl rfl rfl) (V rfl (ov_build (r := (.agg #[(.bool false), (.bool false), (.bool false), (.bool false), (.bool false), (.bool false)])) rfl rfl (fun _ => by kernel_rfl)) (V rfl (neq_struct103 (a := (Ends6.mk c31 c32 c33 c34 c35 c36)) (b := (Ends6.mk false false false false false false)) rfl rfl rfl) (WL.nil (tn ?_)))))))
 refine WP.cond rfl (fun hc16 => ?_) (fun hc16 => ?_)
 ·
  replace hm := ite_t hc16 hm
  refine WP.seq (WP.region (Va rfl (WL.nil (tn (WP.ret (then_ret ?_))))))
  obtain rfl := Option.some.inj hm
  refine retQ_ret results27 (Res.tmp rfl Res.nil) rfl (fun w' s => ⟨s.below, ?_⟩)
  exact rfl
 replace hm := ite_f hc16 hm
 refine WP.skip (tn (WP.seq (WP.seq (WP.region (V rfl (ov_fieldAddr underlying24 rfl rfl rfl sizeOf3 rfl rfl) (Vl 2 isAgg3 rfl ?_))))))
 refine WL.box_held (fun H1 hle1 hc17 => ?_)
 have h13 : SL H1 encBool (some ⟨b3, 0, none⟩) ([c37, c38, c39, c40, c41, c42] : List Bool) := sl_boxB hc17
 replace hG := hG.mono hle1
 obtain ⟨l1, e5, hm⟩ := bind_some hm
 obtain ⟨ao3, cap3, h14, h15, hc18⟩ := sl_arr_h h13 e5
 refine V rfl (h14 underlying103 sizeOf4 rfl rfl rfl) ?_
 obtain ⟨r3, e6, hm⟩ := bind_some hm
 refine wo rfl (oq_con (r := (.bool r3)) call47 rfl rfl (fun w' s => ⟨_, (slices_Contains_boolbool_con l1 false ao3 cap3  w' H1 s.hold h15 hc18 hG r3 e6)⟩)) ?_
 refine WL.nil (tn ?_)
 refine WP.cond rfl (fun hc19 => ?_) (fun hc19 => ?_)
 ·
  replace hm := ite_t hc19 hm
  refine WP.seq (WP.region (Va rfl (WL.nil (tn (WP.ret (then_ret ?_))))))
  obtain rfl := Option.some.inj hm
  refine retQ_ret results27 (Res.tmp rfl Res.nil) rfl (fun w' s => ⟨s.below, ?_⟩)
  exact rfl
 replace hm := ite_f hc19 hm
 refine WP.skip (tn (WP.seq (WP.region (Va rfl (WL.nil (tn (WP.ret ?_)))))))
 obtain rfl := Option.some.inj hm
 refine retQ_ret results27 (Res.tmp rfl Res.nil) rfl (fun w' s => ⟨s.below, ?_⟩)
 exact rfl
end Go.Proofs.YtkgijoddkibapaaGreatDoor.W
