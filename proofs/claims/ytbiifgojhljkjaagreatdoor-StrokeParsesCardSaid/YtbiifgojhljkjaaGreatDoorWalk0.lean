/- The walks. Written by our own program gen.py; Lean checks it. -/
import Derived.Test.YtbiifgojhljkjaaGreatDoorPlain
import Derived.Test.YtbiifgojhljkjaaGreatDoorEqs
import Derived.Test.YtbiifgojhljkjaaGreatDoorProg
import Derived.Test.YtbiifgojhljkjaaGreatDoorExt
import Derived.Test.YtbiifgojhljkjaaGreatDoorClone
set_option linter.unusedVariables false
set_option maxRecDepth 100000
set_option maxHeartbeats 4000000
namespace Go.Proofs.YtbiifgojhljkjaaGreatDoor.W
open Go Go.RowKit
theorem ref13_Few_con (p_x : Step) (p_ends : (List Bool)) (ao1 : Option Addr) (cap1 : Nat) (ao2 : Option Addr) (cap2 : Nat) (w : World) (H : Heap) (hH : Le H (hp w)) (h1 : SL H encStroke ao1 p_x.strokes) (hc1 : p_x.strokes.length ≤ cap1) (h2 : SL H encBool ao2 p_ends) (hc2 : p_ends.length ≤ cap2) (hG : Glob H) (r : Bool) (hm : ref13_Few p_x p_ends = some r) :
    Con Tryz.prog 8 [(.agg #[(.slice ao1 p_x.strokes.length cap1), (.int .i64 p_x.wait)]), (.slice ao2 p_ends.length cap2)] w H (fun v _ => v = (.bool r)) := by
  unfold ref13_Few at hm
  refine con_of hH Tryz.func8 rfl 14 Tryz.ntmps8 rfl ?_
  refine WP.seq (WP.region ?_)
  refine WL.step (Runs.free rfl) rfl rfl (os_box (cs := [(.slice ao1 p_x.strokes.length cap1), (.int .i64 p_x.wait)]) rfl rfl rfl (fun b1 => ?_))
  refine wq rfl rfl rfl (ov_assign rfl rfl) ?_
  refine WL.nil (then_normal (WP.seq (WP.region ?_)))
  refine wq rfl rfl rfl (ov_fieldAddr Tryz.underlying26 rfl rfl rfl Tryz.sizeOf24 rfl rfl) ?_
  refine wq rfl rfl rfl (ov_load_box (i := 0) Tryz.isAgg24 rfl rfl rfl rfl) ?_
  refine wq rfl rfl rfl (ov_len_slice Tryz.underlying24 rfl rfl) ?_
  refine wq rfl rfl rfl (ov_leq rfl rfl rfl) ?_
  refine wq rfl rfl rfl (ov_move rfl rfl) ?_
  refine WL.cut_bool 4 13 (x := ((decide ((p_x.strokes.length : Int) ≤ 40)) && (decide ((p_ends.length : Int) ≤ 40)))) ?_ ?_
  · rcases Bool.eq_false_or_eq_true (decide ((p_x.strokes.length : Int) ≤ 40)) with hc3 | hc3
    · skip
      refine WL.quiet (Runs.yes rfl rfl rfl hc3) rfl rfl (OV.quiet (ov_move rfl rfl)) ?_
      refine WL.quiet (Runs.yes rfl rfl rfl hc3) rfl rfl (OV.quiet (ov_len_slice Tryz.underlying51 rfl rfl)) ?_
      refine WL.quiet (Runs.yes rfl rfl rfl hc3) rfl rfl (OV.quiet (ov_leq rfl rfl rfl)) ?_
      refine wq rfl rfl rfl (ov_pick_true rfl (guard_eq rfl hc3) rfl) ?_
      exact WL.nil ⟨Sub.cons' rfl (congrArg Value.bool (andT hc3)) (Sub.skip rfl (Sub.skip rfl (Sub.skip rfl (Sub.skip rfl (Sub.refl _))))), fun _ s => s⟩
    · skip
      refine WL.idle (Idle.no rfl rfl rfl hc3) rfl rfl ?_
      refine WL.idle (Idle.no rfl rfl rfl hc3) rfl rfl ?_
      refine WL.idle (Idle.no rfl rfl rfl hc3) rfl rfl ?_
      refine wq rfl rfl rfl (ov_pick_false rfl (guard_eq rfl hc3) rfl) ?_
      exact WL.nil ⟨Sub.cons' rfl (congrArg Value.bool (andF hc3)) (Sub.skip rfl (Sub.skip rfl (Sub.skip rfl (Sub.skip rfl (Sub.refl _))))), fun _ s => s⟩
  refine wq rfl rfl rfl (ov_assign rfl rfl) ?_
  refine WL.nil (then_normal (WP.ret ?_))
  obtain rfl := Option.some.inj hm
  refine retQ_ret Tryz.results8 (Res.tmp rfl Res.nil) rfl (fun w' s => ⟨s.below, ?_⟩)
  exact rfl

theorem slices_IndexFunc_api_Stepapi_Step_law13_StrokeFormats_1_con (p_s : (List Step)) (ao1 : Option Addr) (cap1 : Nat) (w : World) (H : Heap) (hH : Le H (hp w)) (h1 : SL H encStep ao1 p_s) (hc1 : p_s.length ≤ cap1) (hG : Glob H) (r : Int) (hm : slices_IndexFunc_api_Stepapi_Step_law13_StrokeFormats_1 p_s = some r) :
    Con Tryz.prog 21 [(.slice ao1 p_s.length cap1), (.func (.func 7) #[] #[])] w H (fun v _ => v = (.int .i64 r)) := by
  unfold slices_IndexFunc_api_Stepapi_Step_law13_StrokeFormats_1 at hm
  refine con_of hH Tryz.func21 rfl 19 Tryz.ntmps21 rfl ?_
  refine WP.seq (WP.region ?_)
  refine wq rfl rfl rfl (ov_assign rfl rfl) ?_
  refine WL.nil (then_normal ?_)
  obtain ⟨k1, hk1, hm⟩ := joinK_some hm
  refine WP.seq_join (fun g' S' => Sub [(1000000007, (.bool false))] g' ∧ (∀ w', S' w' → St w H [] H w') ∧ k1 = some r) ?_ ?_
  · skip
    refine WP.seq (WP.region ?_)
    refine wq rfl rfl rfl (ov_move rfl rfl) ?_
    refine wq rfl rfl rfl (ov_len_slice Tryz.underlying22 rfl rfl) ?_
    refine wq rfl rfl rfl (ov_move rfl rfl) ?_
    refine WL.nil (then_normal (WP.block ?_))
    refine WP.loop (fun m1 g' S' => ∃ (i1 : Int), Sub [(0, (.slice ao1 p_s.length cap1)), (1, (.func (.func 7) #[] #[])), (7, (.int .i64 (p_s.length : Int))), (8, (.int .i64 i1)), (1000000007, (.bool false))] g' ∧ (∀ w', S' w' → St w H [] H w') ∧ slices_IndexFunc_api_Stepapi_Step_law13_StrokeFormats_1_loop1 p_s k1 m1 i1 = some r) ((Int.toNat ((p_s.length : Int) - 0) + 1)) ⟨0, (Sub.cons rfl (Sub.cons rfl (Sub.cons rfl (Sub.cons rfl (Sub.cons rfl (Sub.nil _)))))), fun w' s => s, hm⟩ ?_ ?_
    · rintro g' S' ⟨_, _, _, hm⟩
      exact none_some hm
    · rintro m1 g' S' ⟨i1, hsub1, hS1, hm⟩
      refine WP.sub hsub1 (WP.weaken hS1 ?_)
      rw [slices_IndexFunc_api_Stepapi_Step_law13_StrokeFormats_1_loop1] at hm
      refine WP.seq (WP.region ?_)
      refine wq rfl rfl rfl (ov_lss rfl rfl rfl) ?_
      refine WL.nil (then_normal (WP.seq ?_))
      refine WP.cond rfl (fun hc2 => ?_) (fun hc2 => ?_)
      · replace hm := ite_t hc2 hm
        refine WP.skip (then_normal (WP.seq (WP.block (WP.seq (WP.region ?_)))))
        refine wq rfl rfl rfl (ov_move rfl rfl) ?_
        refine wq rfl rfl rfl (ov_assign rfl rfl) ?_
        refine WL.nil (then_normal (WP.seq (WP.region ?_)))
        refine wq rfl rfl rfl (ov_move rfl rfl) ?_
        refine wq rfl rfl rfl (ov_move rfl rfl) ?_
        refine wq rfl rfl rfl (ov_move rfl rfl) ?_
        obtain ⟨x1, e1, hm⟩ := bind_some hm
        obtain ⟨h3, h4, h5, cs1, h6, h7⟩ := h1.get e1 (by decide)
        obtain ⟨ao2, cap2, rfl, h2, hc3⟩ := h6
        refine wq rfl rfl rfl (ov_indexAddr Tryz.underlying22 Tryz.sizeOf26 rfl rfl rfl h3 h4 h5) ?_
        refine wq rfl rfl rfl (ov_load_elems (vs := [(.slice ao2 x1.strokes.length cap2), (.int .i64 x1.wait)]) Tryz.isAgg26 Tryz.sizeOf26 rfl rfl rfl h7 h5) ?_
        refine WL.step (Runs.free rfl) rfl rfl (os_inline (cap := []) (vs := [(.agg #[(.slice ao2 x1.strokes.length cap2), (.int .i64 x1.wait)])]) Tryz.call7 rfl rfl rfl Tryz.func7 rfl 6 Tryz.ntmps7 rfl (fun w' s => ?_))
        refine WP.seq (WP.region ?_)
        refine WL.step (Runs.free rfl) rfl rfl (os_box (cs := [(.slice ao2 x1.strokes.length cap2), (.int .i64 x1.wait)]) rfl rfl rfl (fun b1 => ?_))
        refine wq rfl rfl rfl (ov_assign rfl rfl) ?_
        refine WL.nil (then_normal (WP.seq (WP.region ?_)))
        refine wq rfl rfl rfl (ov_load_whole (i := 0) Tryz.isAgg26 Tryz.sizeOf26 rfl rfl rfl rfl) ?_
        obtain ⟨r1, e2, hm⟩ := bind_some hm
        refine WL.quiet (Runs.free rfl) rfl rfl (oq_con (r := (.bool r1)) Tryz.call8 rfl rfl (fun w' s => ⟨_, (ref13_Few_con x1 [] ao2 cap2 none 0  w' H s.hold h2 hc3 (SL.nil _ _ _) (Nat.le_refl _) hG r1 e2)⟩)) ?_
        refine wq rfl rfl rfl (ov_not rfl rfl) ?_
        refine wq rfl rfl rfl (ov_assign rfl rfl) ?_
        refine WL.nil (then_normal (WP.ret ?_))
        refine retQ_ret (v := (.bool (!r1))) Tryz.results7 (Res.tmp rfl Res.nil) rfl (fun w' s => ⟨_, ?_, s⟩)
        refine WL.nil (then_normal ?_)
        refine WP.cond rfl (fun hc4 => ?_) (fun hc4 => ?_)
        · replace hm := ite_t hc4 hm
          refine WP.seq (WP.region ?_)
          refine wq rfl rfl rfl (ov_move rfl rfl) ?_
          refine wq rfl rfl rfl (ov_assign rfl rfl) ?_
          refine WL.nil (then_normal (WP.ret (block_ret (then_ret (then_ret (block_ret (then_ret ?_)))))))
          obtain rfl := Option.some.inj hm
          refine retQ_ret Tryz.results21 (Res.tmp rfl Res.nil) rfl (fun w' s => ⟨s.below, ?_⟩)
          exact rfl
        · replace hm := ite_f hc4 hm
          refine WP.skip (block_normal (then_normal (WP.region ?_)))
          refine wq rfl rfl rfl (ov_add rfl rfl rfl) ?_
          refine wq rfl rfl rfl (ov_move rfl rfl) ?_
          refine WL.nil (then_normal ?_)
          exact ⟨(IntKind.wrap .i64 (i1 + 1)), (Sub.cons rfl (Sub.cons rfl (Sub.cons rfl (Sub.cons rfl (Sub.cons rfl (Sub.nil _)))))), fun w' s => (s.select [] (by decide) rfl), hm⟩
      · replace hm := ite_f hc2 hm
        refine WP.exit (then_exit (then_exit (block_here (then_normal ?_))))
        exact ⟨(Sub.cons rfl (Sub.nil _)), fun w' s => s, hm⟩
  · rintro g' S' ⟨hsub2, hS2, hm⟩
    refine WP.sub hsub2 (WP.weaken hS2 ?_)
    replace hm := hk1.symm.trans hm
    refine WP.seq (WP.region ?_)
    refine wq rfl rfl rfl (ov_assign rfl rfl) ?_
    refine WL.nil (then_normal (WP.ret ?_))
    obtain rfl := Option.some.inj hm
    refine retQ_ret Tryz.results21 (Res.tmp rfl Res.nil) rfl (fun w' s => ⟨s.below, ?_⟩)
    exact rfl

theorem slices_ContainsFunc_api_Stepapi_Step_law13_StrokeFormats_1_con (p_s : (List Step)) (ao1 : Option Addr) (cap1 : Nat) (w : World) (H : Heap) (hH : Le H (hp w)) (h1 : SL H encStep ao1 p_s) (hc1 : p_s.length ≤ cap1) (hG : Glob H) (r : Bool) (hm : slices_ContainsFunc_api_Stepapi_Step_law13_StrokeFormats_1 p_s = some r) :
    Con Tryz.prog 6 [(.slice ao1 p_s.length cap1), (.func (.func 7) #[] #[])] w H (fun v _ => v = (.bool r)) := by
  unfold slices_ContainsFunc_api_Stepapi_Step_law13_StrokeFormats_1 at hm
  refine con_of hH Tryz.func6 rfl 9 Tryz.ntmps6 rfl ?_
  refine WP.seq (WP.region ?_)
  refine wq rfl rfl rfl (ov_assign rfl rfl) ?_
  refine WL.nil (then_normal (WP.seq (WP.region ?_)))
  refine wq rfl rfl rfl (ov_move rfl rfl) ?_
  refine wq rfl rfl rfl (ov_move rfl rfl) ?_
  obtain ⟨r1, e1, hm⟩ := bind_some hm
  refine WL.quiet (Runs.free rfl) rfl rfl (oq_con (r := (.int .i64 r1)) Tryz.call21 rfl rfl (fun w' s => ⟨_, (slices_IndexFunc_api_Stepapi_Step_law13_StrokeFormats_1_con p_s ao1 cap1  w' H s.hold h1 hc1 hG r1 e1)⟩)) ?_
  refine wq rfl rfl rfl (ov_geq rfl rfl rfl) ?_
  refine wq rfl rfl rfl (ov_assign rfl rfl) ?_
  refine WL.nil (then_normal (WP.ret ?_))
  obtain rfl := Option.some.inj hm
  refine retQ_ret Tryz.results6 (Res.tmp rfl Res.nil) rfl (fun w' s => ⟨s.below, ?_⟩)
  exact rfl

theorem internal_strconv_Atoi_con (p_s : (List UInt8)) (w : World) (H : Heap) (hH : Le H (hp w)) (hG : Glob H) (r : (Int × Unit)) (hm : internal_strconv_Atoi p_s = some r) :
    Con Tryz.prog 80 [(mkS p_s)] w H (fun v _ => v = (.tuple #[(.int .i64 r.1), .nilIface])) := by
  unfold internal_strconv_Atoi at hm
  refine con_of hH Tryz.func80 rfl 77 Tryz.ntmps80 rfl ?_
  refine WP.seq (WP.region ?_)
  refine wq rfl rfl rfl (ov_assign rfl rfl) ?_
  refine wq rfl rfl rfl (ov_assign rfl rfl) ?_
  refine WL.nil (then_normal (WP.seq (WP.region ?_)))
  refine wq rfl rfl rfl (ov_move rfl rfl) ?_
  refine wq rfl rfl rfl (ov_len_string Tryz.underlying9 rfl rfl) ?_
  refine wq rfl rfl rfl (ov_assign rfl rfl) ?_
  refine WL.nil (then_normal ?_)
  obtain ⟨k1, hk1, hm⟩ := joinK_some hm
  refine WP.seq_join (fun g' S' => Sub [(0, (mkS p_s)), (1000000007, (.bool false))] g' ∧ (∀ w', S' w' → St w H [] H w') ∧ k1 = some r) ?_ ?_
  · skip
    refine WP.seq (WP.region ?_)
    refine wq rfl rfl rfl (ov_move rfl rfl) ?_
    refine WL.idle (Idle.no rfl rfl rfl rfl) rfl rfl ?_
    refine WL.idle (Idle.no rfl rfl rfl rfl) rfl rfl ?_
    refine WL.idle (Idle.no rfl rfl rfl rfl) rfl rfl ?_
    refine WL.idle (Idle.undef rfl rfl rfl) rfl rfl ?_
    refine WL.idle (Idle.undef rfl rfl rfl) rfl rfl ?_
    refine WL.idle (Idle.no rfl rfl rfl rfl) rfl rfl ?_
    refine wq rfl rfl rfl (ov_pick_false rfl (guard_eq rfl rfl) rfl) ?_
    refine wq rfl rfl rfl (ov_move rfl rfl) ?_
    refine WL.quiet (Runs.yes rfl rfl rfl rfl) rfl rfl (OV.quiet (ov_move rfl rfl)) ?_
    refine WL.quiet (Runs.yes rfl rfl rfl rfl) rfl rfl (OV.quiet (ov_move rfl rfl)) ?_
    refine WL.quiet (Runs.yes rfl rfl rfl rfl) rfl rfl (OV.quiet (ov_lss rfl rfl rfl)) ?_
    refine WL.quiet (Runs.yes rfl rfl rfl rfl) rfl rfl (OV.quiet (ov_move rfl rfl)) ?_
    refine WL.cut_bool 3 28 (x := ((decide ((0 : Int) < (p_s.length : Int))) && (decide ((p_s.length : Int) < 19)))) ?_ ?_
    · rcases Bool.eq_false_or_eq_true (decide ((0 : Int) < (p_s.length : Int))) with hc1 | hc1
      · skip
        refine WL.quiet (Runs.yes rfl rfl rfl hc1) rfl rfl (OV.quiet (ov_move rfl rfl)) ?_
        refine WL.quiet (Runs.yes rfl rfl rfl hc1) rfl rfl (OV.quiet (ov_lss rfl rfl rfl)) ?_
        refine WL.quiet (Runs.yes rfl rfl rfl rfl) rfl rfl (OV.quiet (ov_pick_true rfl (guard_eq rfl hc1) rfl)) ?_
        exact WL.nil ⟨Sub.cons' rfl (congrArg Value.bool (andT hc1)) (Sub.skip rfl (Sub.skip rfl (Sub.skip rfl (Sub.refl _)))), fun _ s => s⟩
      · skip
        refine WL.idle (Idle.no rfl rfl rfl hc1) rfl rfl ?_
        refine WL.idle (Idle.no rfl rfl rfl hc1) rfl rfl ?_
        refine WL.quiet (Runs.yes rfl rfl rfl rfl) rfl rfl (OV.quiet (ov_pick_false rfl (guard_eq rfl hc1) rfl)) ?_
        exact WL.nil ⟨Sub.cons' rfl (congrArg Value.bool (andF hc1)) (Sub.skip rfl (Sub.skip rfl (Sub.skip rfl (Sub.refl _)))), fun _ s => s⟩
    refine WL.quiet (Runs.yes rfl rfl rfl rfl) rfl rfl (OV.quiet (ov_pick_true rfl (guard_eq rfl rfl) rfl)) ?_
    refine wq rfl rfl rfl (ov_pick_false rfl (guard_eq rfl rfl) rfl) ?_
    refine WL.nil (then_normal ?_)
    refine WP.cond rfl (fun hc2 => ?_) (fun hc2 => ?_)
    · replace hm := ite_t hc2 hm
      refine WP.seq (WP.region ?_)
      refine wq rfl rfl rfl (ov_move rfl rfl) ?_
      refine wq rfl rfl rfl (ov_assign rfl rfl) ?_
      refine WL.nil (then_normal ?_)
      obtain ⟨k2, hk2, hm⟩ := joinK_some hm
      refine WP.seq_join (fun g' S' => ∃ (s2 : (List UInt8)), Sub [(0, (mkS s2)), (5, (mkS p_s)), (1000000007, (.bool false))] g' ∧ (∀ w', S' w' → St w H [] H w') ∧ k2 s2 = some r) ?_ ?_
      · skip
        refine WP.seq (WP.region ?_)
        refine wq rfl rfl rfl (ov_move rfl rfl) ?_
        obtain ⟨b1, e1, hm⟩ := bind_some hm
        refine wq rfl rfl rfl (ov_index_string Tryz.underlying9 rfl rfl rfl e1) ?_
        refine wq rfl rfl rfl (ov_eql rfl rfl rfl) ?_
        refine wq rfl rfl rfl (ov_move rfl rfl) ?_
        obtain ⟨c1, e2, hm⟩ := bind_some hm
        refine WL.cut_bool 4 39 (x := c1) ?_ ?_
        · rcases Bool.eq_false_or_eq_true ((b1.toNat : Int) == 45) with hc3 | hc3
          · skip
            replace hm := ite_t hc3 e2
            refine WL.idle (Idle.no rfl rfl rfl hc3) rfl rfl ?_
            refine WL.idle (Idle.no rfl rfl rfl hc3) rfl rfl ?_
            refine WL.idle (Idle.no rfl rfl rfl hc3) rfl rfl ?_
            refine wq rfl rfl rfl (ov_pick_true rfl (guard_eq rfl hc3) rfl) ?_
            exact WL.nil ⟨Sub.cons' rfl (congrArg Value.bool (Option.some.inj hm)) (Sub.skip rfl (Sub.skip rfl (Sub.skip rfl (Sub.skip rfl (Sub.refl _))))), fun _ s => s⟩
          · skip
            replace hm := ite_f hc3 e2
            refine WL.quiet (Runs.yes rfl rfl rfl hc3) rfl rfl (OV.quiet (ov_move rfl rfl)) ?_
            obtain ⟨b2, e3, hm⟩ := bind_some hm
            refine WL.quiet (Runs.yes rfl rfl rfl hc3) rfl rfl (OV.quiet (ov_index_string Tryz.underlying9 rfl rfl rfl e3)) ?_
            refine WL.quiet (Runs.yes rfl rfl rfl hc3) rfl rfl (OV.quiet (ov_eql rfl rfl rfl)) ?_
            refine wq rfl rfl rfl (ov_pick_false rfl (guard_eq rfl hc3) rfl) ?_
            exact WL.nil ⟨Sub.cons' rfl (congrArg Value.bool (Option.some.inj hm)) (Sub.skip rfl (Sub.skip rfl (Sub.skip rfl (Sub.skip rfl (Sub.refl _))))), fun _ s => s⟩
        refine WL.nil (then_normal ?_)
        refine WP.cond rfl (fun hc4 => ?_) (fun hc4 => ?_)
        · replace hm := ite_t hc4 hm
          refine WP.seq (WP.region ?_)
          refine wq rfl rfl rfl (ov_move rfl rfl) ?_
          obtain ⟨s1, e4, hm⟩ := bind_some hm
          refine wq rfl rfl rfl (ov_slice_string_from Tryz.underlying9 rfl rfl rfl e4) ?_
          refine wq rfl rfl rfl (ov_assign rfl rfl) ?_
          refine WL.nil (then_normal (WP.seq (WP.region ?_)))
          refine wq rfl rfl rfl (ov_move rfl rfl) ?_
          refine wq rfl rfl rfl (ov_len_string Tryz.underlying9 rfl rfl) ?_
          refine wq rfl rfl rfl (ov_lss rfl rfl rfl) ?_
          refine WL.nil (then_normal ?_)
          refine WP.cond rfl (fun hc5 => ?_) (fun hc5 => ?_)
          · replace hm := ite_t hc5 hm
            exact (none_some hm).elim
          · replace hm := ite_f hc5 hm
            refine WP.skip (then_normal ?_)
            exact ⟨s1, (Sub.cons rfl (Sub.cons rfl (Sub.cons rfl (Sub.nil _)))), fun w' s => s, hm⟩
        · replace hm := ite_f hc4 hm
          refine WP.skip (then_normal ?_)
          exact ⟨p_s, (Sub.cons rfl (Sub.cons rfl (Sub.cons rfl (Sub.nil _)))), fun w' s => s, hm⟩
      · rintro g' S' ⟨s2, hsub1, hS1, hm⟩
        refine WP.sub hsub1 (WP.weaken hS1 ?_)
        replace hm := (congrFun hk2 s2).symm.trans hm
        refine WP.seq (WP.region ?_)
        refine wq rfl rfl rfl (ov_assign rfl rfl) ?_
        refine WL.nil (then_normal ?_)
        obtain ⟨k3, hk3, hm⟩ := joinK_some hm
        refine WP.seq_join (fun g' S' => ∃ (H2 : Heap) (i3 : Int), Le H H2 ∧ Sub [(5, (mkS p_s)), (6, (.int .i64 i3)), (1000000007, (.bool false))] g' ∧ (∀ w', S' w' → St w H [] H2 w') ∧ k3 i3 = some r) ?_ ?_
        · skip
          refine WP.seq (WP.region ?_)
          refine wq rfl rfl rfl (ov_move rfl rfl) ?_
          refine WL.step (Runs.free rfl) rfl rfl (os_bytes Tryz.underlying9 Tryz.underlying79 Tryz.underlying5 rfl rfl (fun ao1 cap1 H1 hle1 h1 hc6 => ?_))
          replace hG := hG.mono hle1
          refine wq rfl rfl rfl (ov_len_slice Tryz.underlying79 rfl rfl) ?_
          refine wq rfl rfl rfl (ov_move rfl rfl) ?_
          refine WL.nil (then_normal (WP.block ?_))
          refine WP.loop (fun m1 g' S' => ∃ (i1 : Int) (i2 : Int), Sub [(5, (mkS p_s)), (6, (.int .i64 i1)), (47, (.slice ao1 (bytesI s2).length cap1)), (48, (.int .i64 ((bytesI s2).length : Int))), (49, (.int .i64 i2)), (1000000007, (.bool false))] g' ∧ (∀ w', S' w' → St w H [] H1 w') ∧ internal_strconv_Atoi_loop1 s2 k3 m1 i1 i2 = some r) ((Int.toNat (((bytesI s2).length : Int) - 0) + 1)) ⟨0, 0, (Sub.cons rfl (Sub.cons rfl (Sub.cons rfl (Sub.cons rfl (Sub.cons rfl (Sub.cons rfl (Sub.nil _))))))), fun w' s => s, hm⟩ ?_ ?_
          · rintro g' S' ⟨_, _, _, _, hm⟩
            exact none_some hm
          · rintro m1 g' S' ⟨i1, i2, hsub2, hS2, hm⟩
            refine WP.sub hsub2 (WP.weaken hS2 ?_)
            rw [internal_strconv_Atoi_loop1] at hm
            refine WP.seq (WP.region ?_)
            refine wq rfl rfl rfl (ov_lss rfl rfl rfl) ?_
            refine WL.nil (then_normal (WP.seq ?_))
            refine WP.cond rfl (fun hc7 => ?_) (fun hc7 => ?_)
            · replace hm := ite_t hc7 hm
              refine WP.skip (then_normal (WP.seq (WP.block (WP.seq (WP.region ?_)))))
              obtain ⟨x1, e5, hm⟩ := bind_some hm
              obtain ⟨h2, h3, h4, cs1, h5, h6⟩ := h1.get e5 (by decide)
              obtain rfl : cs1 = [(.int .u8 x1)] := h5
              refine wq rfl rfl rfl (ov_indexAddr Tryz.underlying79 Tryz.sizeOf5 rfl rfl rfl h2 h3 h4) ?_
              refine wq rfl rfl rfl (ov_load_elem (v := (.int .u8 x1)) Tryz.isAgg5 rfl rfl h6) ?_
              refine wq rfl rfl rfl (ov_assign rfl rfl) ?_
              refine WL.nil (then_normal (WP.seq (WP.region ?_)))
              refine wq rfl rfl rfl (ov_move rfl rfl) ?_
              refine wq rfl rfl rfl (ov_sub rfl rfl rfl) ?_
              refine wq rfl rfl rfl (ov_assign rfl rfl) ?_
              refine WL.nil (then_normal (WP.seq (WP.seq (WP.region ?_))))
              refine wq rfl rfl rfl (ov_move rfl rfl) ?_
              refine wq rfl rfl rfl (ov_gtr rfl rfl rfl) ?_
              refine WL.nil (then_normal ?_)
              refine WP.cond rfl (fun hc8 => ?_) (fun hc8 => ?_)
              · replace hm := ite_t hc8 hm
                exact (none_some hm).elim
              · replace hm := ite_f hc8 hm
                refine WP.skip (then_normal (WP.region ?_))
                refine wq rfl rfl rfl (ov_move rfl rfl) ?_
                refine wq rfl rfl rfl (ov_mul rfl rfl rfl) ?_
                refine wq rfl rfl rfl (ov_move rfl rfl) ?_
                refine wq rfl rfl rfl (ov_convert_int Tryz.underlying5 Tryz.underlying3 rfl rfl) ?_
                refine wq rfl rfl rfl (ov_add rfl rfl rfl) ?_
                refine wq rfl rfl rfl (ov_assign rfl rfl) ?_
                refine WL.nil (block_normal (then_normal (WP.region ?_)))
                refine wq rfl rfl rfl (ov_add rfl rfl rfl) ?_
                refine wq rfl rfl rfl (ov_move rfl rfl) ?_
                refine WL.nil (then_normal ?_)
                exact ⟨(IntKind.wrap .i64 ((IntKind.wrap .i64 (i1 * 10)) + (IntKind.wrap .i64 (IntKind.wrap .u8 (x1 - 48))))), (IntKind.wrap .i64 (i2 + 1)), (Sub.cons rfl (Sub.cons rfl (Sub.cons rfl (Sub.cons rfl (Sub.cons rfl (Sub.cons rfl (Sub.nil _))))))), fun w' s => s, hm⟩
            · replace hm := ite_f hc7 hm
              refine WP.exit (then_exit (then_exit (block_here (then_normal ?_))))
              exact ⟨H1, i1, hle1, (Sub.cons rfl (Sub.cons rfl (Sub.cons rfl (Sub.nil _)))), fun w' s => s, hm⟩
        · rintro g' S' ⟨H2, i3, hle2, hsub3, hS3, hm⟩
          refine WP.sub hsub3 (WP.weaken hS3 ?_)
          replace hm := (congrFun hk3 i3).symm.trans hm
          replace hG := hG.mono hle2
          obtain ⟨k4, hk4, hm⟩ := joinK_some hm
          refine WP.seq_join (fun g' S' => ∃ (i4 : Int), Sub [(6, (.int .i64 i4)), (1000000007, (.bool false))] g' ∧ (∀ w', S' w' → St w H [] H2 w') ∧ k4 i4 = some r) ?_ ?_
          · skip
            refine WP.seq (WP.region ?_)
            refine wq rfl rfl rfl (ov_move rfl rfl) ?_
            obtain ⟨b3, e6, hm⟩ := bind_some hm
            refine wq rfl rfl rfl (ov_index_string Tryz.underlying9 rfl rfl rfl e6) ?_
            refine wq rfl rfl rfl (ov_eql rfl rfl rfl) ?_
            refine WL.nil (then_normal ?_)
            refine WP.cond rfl (fun hc9 => ?_) (fun hc9 => ?_)
            · replace hm := ite_t hc9 hm
              refine WP.region ?_
              refine wq rfl rfl rfl (ov_move rfl rfl) ?_
              refine wq rfl rfl rfl (ov_neg rfl rfl) ?_
              refine wq rfl rfl rfl (ov_assign rfl rfl) ?_
              refine WL.nil (then_normal ?_)
              exact ⟨(IntKind.wrap .i64 (0 - i3)), (Sub.cons rfl (Sub.cons rfl (Sub.nil _))), fun w' s => s, hm⟩
            · replace hm := ite_f hc9 hm
              refine WP.skip (then_normal ?_)
              exact ⟨i3, (Sub.cons rfl (Sub.cons rfl (Sub.nil _))), fun w' s => s, hm⟩
          · rintro g' S' ⟨i4, hsub4, hS4, hm⟩
            refine WP.sub hsub4 (WP.weaken hS4 ?_)
            replace hm := (congrFun hk4 i4).symm.trans hm
            refine WP.seq (WP.region ?_)
            refine wq rfl rfl rfl (ov_move rfl rfl) ?_
            refine wq rfl rfl rfl (ov_assign rfl rfl) ?_
            refine wq rfl rfl rfl (ov_assign rfl rfl) ?_
            refine WL.nil (then_normal (WP.ret (then_ret ?_)))
            obtain rfl := Option.some.inj hm
            refine retQ_ret Tryz.results80 (Res.tmp rfl (Res.tmp rfl Res.nil)) rfl (fun w' s => ⟨s.below, ?_⟩)
            exact rfl
    · replace hm := ite_f hc2 hm
      refine WP.skip (then_normal ?_)
      exact ⟨(Sub.cons rfl (Sub.cons rfl (Sub.nil _))), fun w' s => s, hm⟩
  · rintro g' S' ⟨hsub5, hS5, hm⟩
    refine WP.sub hsub5 (WP.weaken hS5 ?_)
    replace hm := hk1.symm.trans hm
    exact (none_some hm).elim

theorem strconv_Atoi_con (p_s : (List UInt8)) (w : World) (H : Heap) (hH : Le H (hp w)) (hG : Glob H) (r : (Int × Unit)) (hm : strconv_Atoi p_s = some r) :
    Con Tryz.prog 62 [(mkS p_s)] w H (fun v _ => v = (.tuple #[(.int .i64 r.1), .nilIface])) := by
  unfold strconv_Atoi at hm
  refine con_of hH Tryz.func62 rfl 18 Tryz.ntmps62 rfl ?_
  refine WP.seq (WP.region ?_)
  refine wq rfl rfl rfl (ov_assign rfl rfl) ?_
  refine wq rfl rfl rfl (ov_assign rfl rfl) ?_
  refine WL.nil (then_normal (WP.seq (WP.region ?_)))
  refine wq rfl rfl rfl (ov_move rfl rfl) ?_
  obtain ⟨r1, e1, hm⟩ := bind_some hm
  refine WL.quiet (Runs.free rfl) rfl rfl (oq_con (r := (.tuple #[(.int .i64 r1.1), .nilIface])) Tryz.call80 rfl rfl (fun w' s => ⟨_, (internal_strconv_Atoi_con p_s  w' H s.hold hG r1 e1)⟩)) ?_
  refine wq rfl rfl rfl (ov_move rfl rfl) ?_
  refine wq rfl rfl rfl (ov_extract rfl rfl rfl) ?_
  refine wq rfl rfl rfl (ov_extract rfl rfl rfl) ?_
  refine wq rfl rfl rfl (ov_assign rfl rfl) ?_
  refine wq rfl rfl rfl (ov_assign rfl rfl) ?_
  refine WL.nil (then_normal (WP.seq (WP.seq (WP.region ?_))))
  refine wq rfl rfl rfl (ov_move rfl rfl) ?_
  refine wq rfl rfl rfl (ov_neq_nilI (by kernel_rfl) rfl rfl rfl) ?_
  refine WL.nil (then_normal (WP.cond_false rfl (WP.skip (then_normal (WP.seq (WP.region ?_))))))
  refine wq rfl rfl rfl (ov_move rfl rfl) ?_
  refine wq rfl rfl rfl (ov_assign rfl rfl) ?_
  refine wq rfl rfl rfl (ov_assign rfl rfl) ?_
  refine WL.nil (then_normal (WP.ret ?_))
  obtain rfl := Option.some.inj hm
  refine retQ_ret Tryz.results62 (Res.tmp rfl (Res.tmp rfl Res.nil)) rfl (fun w' s => ⟨s.below, ?_⟩)
  exact rfl

theorem stroke_known_con (p_n : Int) (w : World) (H : Heap) (hH : Le H (hp w)) (hG : Glob H) (r : Bool) (hm : stroke_known p_n = some r) :
    Con Tryz.prog 33 [(.int .i64 p_n)] w H (fun v _ => v = (.bool r)) := by
  unfold stroke_known at hm
  refine con_of hH Tryz.func33 rfl 9 Tryz.ntmps33 rfl ?_
  refine WP.seq (WP.region ?_)
  refine wq rfl rfl rfl (ov_assign rfl rfl) ?_
  refine WL.nil (then_normal (WP.seq (WP.region ?_)))
  refine wq rfl rfl rfl (ov_move rfl rfl) ?_
  refine wq rfl rfl rfl (ov_geq rfl rfl rfl) ?_
  refine wq rfl rfl rfl (ov_move rfl rfl) ?_
  refine WL.cut_bool 3 8 (x := ((decide (p_n ≥ 0)) && (decide (p_n < 6)))) ?_ ?_
  · rcases Bool.eq_false_or_eq_true (decide (p_n ≥ 0)) with hc1 | hc1
    · skip
      refine WL.quiet (Runs.yes rfl rfl rfl hc1) rfl rfl (OV.quiet (ov_move rfl rfl)) ?_
      refine WL.quiet (Runs.yes rfl rfl rfl hc1) rfl rfl (OV.quiet (ov_lss rfl rfl rfl)) ?_
      refine wq rfl rfl rfl (ov_pick_true rfl (guard_eq rfl hc1) rfl) ?_
      exact WL.nil ⟨Sub.cons' rfl (congrArg Value.bool (andT hc1)) (Sub.skip rfl (Sub.skip rfl (Sub.skip rfl (Sub.refl _)))), fun _ s => s⟩
    · skip
      refine WL.idle (Idle.no rfl rfl rfl hc1) rfl rfl ?_
      refine WL.idle (Idle.no rfl rfl rfl hc1) rfl rfl ?_
      refine wq rfl rfl rfl (ov_pick_false rfl (guard_eq rfl hc1) rfl) ?_
      exact WL.nil ⟨Sub.cons' rfl (congrArg Value.bool (andF hc1)) (Sub.skip rfl (Sub.skip rfl (Sub.skip rfl (Sub.refl _)))), fun _ s => s⟩
  refine wq rfl rfl rfl (ov_assign rfl rfl) ?_
  refine WL.nil (then_normal (WP.ret ?_))
  obtain rfl := Option.some.inj hm
  refine retQ_ret Tryz.results33 (Res.tmp rfl Res.nil) rfl (fun w' s => ⟨s.below, ?_⟩)
  exact rfl

theorem stroke_CheckStep_con (p_x : Step) (ao1 : Option Addr) (cap1 : Nat) (w : World) (H : Heap) (hH : Le H (hp w)) (h1 : SL H encStroke ao1 p_x.strokes) (hc1 : p_x.strokes.length ≤ cap1) (hG : Glob H) (r : Int) (hm : stroke_CheckStep p_x = some r) :
    Con Tryz.prog 17 [(.agg #[(.slice ao1 p_x.strokes.length cap1), (.int .i64 p_x.wait)])] w H (fun v _ => v = (.int .i64 r)) := by
  unfold stroke_CheckStep at hm
  refine con_of hH Tryz.func17 rfl 49 Tryz.ntmps17 rfl ?_
  refine WP.seq (WP.region ?_)
  refine WL.step (Runs.free rfl) rfl rfl (os_box (cs := [(.slice ao1 p_x.strokes.length cap1), (.int .i64 p_x.wait)]) rfl rfl rfl (fun b1 => ?_))
  refine wq rfl rfl rfl (ov_assign rfl rfl) ?_
  refine WL.nil (then_normal (WP.seq (WP.seq (WP.region ?_))))
  refine wq rfl rfl rfl (ov_fieldAddr Tryz.underlying26 rfl rfl rfl Tryz.sizeOf24 rfl rfl) ?_
  refine wq rfl rfl rfl (ov_load_box (i := 0) Tryz.isAgg24 rfl rfl rfl rfl) ?_
  refine wq rfl rfl rfl (ov_len_slice Tryz.underlying24 rfl rfl) ?_
  refine wq rfl rfl rfl (ov_assign rfl rfl) ?_
  refine WL.nil (then_normal (WP.block (WP.seq (WP.region ?_))))
  refine wq rfl rfl rfl (ov_move rfl rfl) ?_
  refine wq rfl rfl rfl (ov_eql rfl rfl rfl) ?_
  refine wq rfl rfl rfl (ov_assign rfl rfl) ?_
  refine WL.nil (then_normal ?_)
  refine WP.cond rfl (fun hc2 => ?_) (fun hc2 => ?_)
  · replace hm := ite_t hc2 hm
    refine WP.seq (WP.region ?_)
    refine wq rfl rfl rfl (ov_assign rfl rfl) ?_
    refine WL.nil (then_normal (WP.ret (block_ret (then_ret ?_))))
    obtain rfl := Option.some.inj hm
    refine retQ_ret Tryz.results17 (Res.tmp rfl Res.nil) rfl (fun w' s => ⟨s.below, ?_⟩)
    exact rfl
  · replace hm := ite_f hc2 hm
    refine WP.seq (WP.region ?_)
    refine wq rfl rfl rfl (ov_move rfl rfl) ?_
    refine wq rfl rfl rfl (ov_gtr rfl rfl rfl) ?_
    refine wq rfl rfl rfl (ov_assign rfl rfl) ?_
    refine WL.nil (then_normal ?_)
    refine WP.cond rfl (fun hc3 => ?_) (fun hc3 => ?_)
    · replace hm := ite_t hc3 hm
      refine WP.seq (WP.region ?_)
      refine wq rfl rfl rfl (ov_assign rfl rfl) ?_
      refine WL.nil (then_normal (WP.ret (block_ret (then_ret ?_))))
      obtain rfl := Option.some.inj hm
      refine retQ_ret Tryz.results17 (Res.tmp rfl Res.nil) rfl (fun w' s => ⟨s.below, ?_⟩)
      exact rfl
    · replace hm := ite_f hc3 hm
      refine WP.skip (block_normal (then_normal (WP.seq (WP.region ?_))))
      refine wq rfl rfl rfl (ov_assign rfl rfl) ?_
      refine WL.nil (then_normal ?_)
      obtain ⟨k1, hk1, hm⟩ := joinK_some hm
      refine WP.seq_join (fun g' S' => Sub [(1, (pB b1 0)), (1000000007, (.bool false))] g' ∧ (∀ w', S' w' → St w H [.blk b1 26 [(.slice ao1 p_x.strokes.length cap1), (.int .i64 p_x.wait)]] H w') ∧ k1 = some r) ?_ ?_
      · skip
        refine WP.seq (WP.region ?_)
        refine wq rfl rfl rfl (ov_fieldAddr Tryz.underlying26 rfl rfl rfl Tryz.sizeOf24 rfl rfl) ?_
        refine wq rfl rfl rfl (ov_load_box (i := 0) Tryz.isAgg24 rfl rfl rfl rfl) ?_
        refine wq rfl rfl rfl (ov_len_slice Tryz.underlying24 rfl rfl) ?_
        refine wq rfl rfl rfl (ov_move rfl rfl) ?_
        refine WL.nil (then_normal (WP.block ?_))
        refine WP.loop (fun m1 g' S' => ∃ (i1 : Int) (i2 : Int), Sub [(1, (pB b1 0)), (4, (.int .i64 i1)), (17, (.slice ao1 p_x.strokes.length cap1)), (18, (.int .i64 (p_x.strokes.length : Int))), (19, (.int .i64 i2)), (1000000007, (.bool false))] g' ∧ (∀ w', S' w' → St w H [.blk b1 26 [(.slice ao1 p_x.strokes.length cap1), (.int .i64 p_x.wait)]] H w') ∧ stroke_CheckStep_loop1 p_x k1 m1 i1 i2 = some r) ((Int.toNat ((p_x.strokes.length : Int) - 0) + 1)) ⟨(-1), 0, (Sub.cons rfl (Sub.cons rfl (Sub.cons rfl (Sub.cons rfl (Sub.cons rfl (Sub.cons rfl (Sub.nil _))))))), fun w' s => s, hm⟩ ?_ ?_
        · rintro g' S' ⟨_, _, _, _, hm⟩
          exact none_some hm
        · rintro m1 g' S' ⟨i1, i2, hsub1, hS1, hm⟩
          refine WP.sub hsub1 (WP.weaken hS1 ?_)
          rw [stroke_CheckStep_loop1] at hm
          refine WP.seq (WP.region ?_)
          refine wq rfl rfl rfl (ov_lss rfl rfl rfl) ?_
          refine WL.nil (then_normal (WP.seq ?_))
          refine WP.cond rfl (fun hc4 => ?_) (fun hc4 => ?_)
          · replace hm := ite_t hc4 hm
            refine WP.skip (then_normal (WP.seq (WP.block (WP.seq (WP.region ?_)))))
            obtain ⟨x1, e1, hm⟩ := bind_some hm
            obtain ⟨h2, h3, h4, cs1, h5, h6⟩ := h1.get e1 (by decide)
            obtain rfl : cs1 = [(.int .i64 x1.actuator), (.bool x1.out)] := h5
            refine wq rfl rfl rfl (ov_indexAddr Tryz.underlying24 Tryz.sizeOf53 rfl rfl rfl h2 h3 h4) ?_
            refine wq rfl rfl rfl (ov_load_elems (vs := [(.int .i64 x1.actuator), (.bool x1.out)]) Tryz.isAgg53 Tryz.sizeOf53 rfl rfl rfl h6 h4) ?_
            refine WL.step (Runs.free rfl) rfl rfl (os_alloc (cs := [(.int .i64 0), (.bool false)]) Tryz.zeroValue53 rfl rfl (fun b2 => ?_))
            refine WL.step0 (Runs.free rfl) rfl (os_store (i := 0) (vs := [(.int .i64 x1.actuator), (.bool x1.out)]) (cs' := [(.int .i64 x1.actuator), (.bool x1.out)]) Tryz.sizeOf53 rfl rfl rfl rfl rfl rfl rfl rfl rfl ?_)
            refine WL.nil (then_normal (WP.seq (WP.block (WP.seq (WP.region ?_)))))
            refine wq rfl rfl rfl (ov_fieldAddr Tryz.underlying53 rfl rfl rfl Tryz.sizeOf3 rfl rfl) ?_
            refine wq rfl rfl rfl (ov_load_box (i := 0) Tryz.isAgg3 rfl rfl rfl rfl) ?_
            obtain ⟨r1, e2, hm⟩ := bind_some hm
            refine WL.quiet (Runs.free rfl) rfl rfl (oq_con (r := (.bool r1)) Tryz.call33 rfl rfl (fun w' s => ⟨_, (stroke_known_con x1.actuator  w' H s.hold hG r1 e2)⟩)) ?_
            refine wq rfl rfl rfl (ov_not rfl rfl) ?_
            refine wq rfl rfl rfl (ov_assign rfl rfl) ?_
            refine WL.nil (then_normal ?_)
            refine WP.cond rfl (fun hc5 => ?_) (fun hc5 => ?_)
            · replace hm := ite_t hc5 hm
              refine WP.seq (WP.region ?_)
              refine wq rfl rfl rfl (ov_assign rfl rfl) ?_
              refine WL.nil (then_normal (WP.ret (block_ret (then_ret (block_ret (then_ret (then_ret (block_ret (then_ret ?_)))))))))
              obtain rfl := Option.some.inj hm
              refine retQ_ret Tryz.results17 (Res.tmp rfl Res.nil) rfl (fun w' s => ⟨s.below, ?_⟩)
              exact rfl
            · replace hm := ite_f hc5 hm
              refine WP.seq (WP.region ?_)
              refine wq rfl rfl rfl (ov_fieldAddr Tryz.underlying53 rfl rfl rfl Tryz.sizeOf3 rfl rfl) ?_
              refine wq rfl rfl rfl (ov_load_box (i := 0) Tryz.isAgg3 rfl rfl rfl rfl) ?_
              refine wq rfl rfl rfl (ov_move rfl rfl) ?_
              refine wq rfl rfl rfl (ov_eql rfl rfl rfl) ?_
              refine wq rfl rfl rfl (ov_assign rfl rfl) ?_
              refine WL.nil (then_normal ?_)
              refine WP.cond rfl (fun hc6 => ?_) (fun hc6 => ?_)
              · replace hm := ite_t hc6 hm
                refine WP.seq (WP.region ?_)
                refine wq rfl rfl rfl (ov_assign rfl rfl) ?_
                refine WL.nil (then_normal (WP.ret (block_ret (then_ret (block_ret (then_ret (then_ret (block_ret (then_ret ?_)))))))))
                obtain rfl := Option.some.inj hm
                refine retQ_ret Tryz.results17 (Res.tmp rfl Res.nil) rfl (fun w' s => ⟨s.below, ?_⟩)
                exact rfl
              · replace hm := ite_f hc6 hm
                refine WP.seq (WP.region ?_)
                refine wq rfl rfl rfl (ov_fieldAddr Tryz.underlying53 rfl rfl rfl Tryz.sizeOf3 rfl rfl) ?_
                refine wq rfl rfl rfl (ov_load_box (i := 0) Tryz.isAgg3 rfl rfl rfl rfl) ?_
                refine wq rfl rfl rfl (ov_move rfl rfl) ?_
                refine wq rfl rfl rfl (ov_lss rfl rfl rfl) ?_
                refine wq rfl rfl rfl (ov_assign rfl rfl) ?_
                refine WL.nil (then_normal ?_)
                refine WP.cond rfl (fun hc7 => ?_) (fun hc7 => ?_)
                · replace hm := ite_t hc7 hm
                  refine WP.seq (WP.region ?_)
                  refine wq rfl rfl rfl (ov_assign rfl rfl) ?_
                  refine WL.nil (then_normal (WP.ret (block_ret (then_ret (block_ret (then_ret (then_ret (block_ret (then_ret ?_)))))))))
                  obtain rfl := Option.some.inj hm
                  refine retQ_ret Tryz.results17 (Res.tmp rfl Res.nil) rfl (fun w' s => ⟨s.below, ?_⟩)
                  exact rfl
                · replace hm := ite_f hc7 hm
                  refine WP.skip (block_normal (then_normal (WP.region ?_)))
                  refine wq rfl rfl rfl (ov_fieldAddr Tryz.underlying53 rfl rfl rfl Tryz.sizeOf3 rfl rfl) ?_
                  refine wq rfl rfl rfl (ov_load_box (i := 0) Tryz.isAgg3 rfl rfl rfl rfl) ?_
                  refine wq rfl rfl rfl (ov_assign rfl rfl) ?_
                  refine WL.nil (block_normal (then_normal (WP.region ?_)))
                  refine wq rfl rfl rfl (ov_add rfl rfl rfl) ?_
                  refine wq rfl rfl rfl (ov_move rfl rfl) ?_
                  refine WL.nil (then_normal ?_)
                  exact ⟨x1.actuator, (IntKind.wrap .i64 (i2 + 1)), (Sub.cons rfl (Sub.cons rfl (Sub.cons rfl (Sub.cons rfl (Sub.cons rfl (Sub.cons rfl (Sub.nil _))))))), fun w' s => (s.select [1] (by decide) rfl), hm⟩
          · replace hm := ite_f hc4 hm
            refine WP.exit (then_exit (then_exit (block_here (then_normal ?_))))
            exact ⟨(Sub.cons rfl (Sub.cons rfl (Sub.nil _))), fun w' s => s, hm⟩
      · rintro g' S' ⟨hsub2, hS2, hm⟩
        refine WP.sub hsub2 (WP.weaken hS2 ?_)
        replace hm := hk1.symm.trans hm
        refine WP.seq (WP.seq (WP.region ?_))
        refine wq rfl rfl rfl (ov_fieldAddr Tryz.underlying26 rfl rfl rfl Tryz.sizeOf3 rfl rfl) ?_
        refine wq rfl rfl rfl (ov_load_box (i := 0) Tryz.isAgg3 rfl rfl rfl rfl) ?_
        refine wq rfl rfl rfl (ov_lss rfl rfl rfl) ?_
        refine wq rfl rfl rfl (ov_move rfl rfl) ?_
        refine WL.cut_bool 4 48 (x := ((decide (p_x.wait < 0)) || (decide (p_x.wait > 1000000)))) ?_ ?_
        · rcases Bool.eq_false_or_eq_true (decide (p_x.wait < 0)) with hc8 | hc8
          · skip
            refine WL.idle (Idle.no rfl rfl rfl hc8) rfl rfl ?_
            refine WL.idle (Idle.no rfl rfl rfl hc8) rfl rfl ?_
            refine WL.idle (Idle.no rfl rfl rfl hc8) rfl rfl ?_
            refine wq rfl rfl rfl (ov_pick_true rfl (guard_eq rfl hc8) rfl) ?_
            exact WL.nil ⟨Sub.cons' rfl (congrArg Value.bool (orT hc8)) (Sub.skip rfl (Sub.skip rfl (Sub.skip rfl (Sub.skip rfl (Sub.refl _))))), fun _ s => s⟩
          · skip
            refine WL.quiet (Runs.yes rfl rfl rfl hc8) rfl rfl (OV.quiet (ov_fieldAddr Tryz.underlying26 rfl rfl rfl Tryz.sizeOf3 rfl rfl)) ?_
            refine WL.quiet (Runs.yes rfl rfl rfl hc8) rfl rfl (OV.quiet (ov_load_box (i := 0) Tryz.isAgg3 rfl rfl rfl rfl)) ?_
            refine WL.quiet (Runs.yes rfl rfl rfl hc8) rfl rfl (OV.quiet (ov_gtr rfl rfl rfl)) ?_
            refine wq rfl rfl rfl (ov_pick_false rfl (guard_eq rfl hc8) rfl) ?_
            exact WL.nil ⟨Sub.cons' rfl (congrArg Value.bool (orF hc8)) (Sub.skip rfl (Sub.skip rfl (Sub.skip rfl (Sub.skip rfl (Sub.refl _))))), fun _ s => s⟩
        refine WL.nil (then_normal ?_)
        refine WP.cond rfl (fun hc9 => ?_) (fun hc9 => ?_)
        · replace hm := ite_t hc9 hm
          refine WP.seq (WP.region ?_)
          refine wq rfl rfl rfl (ov_assign rfl rfl) ?_
          refine WL.nil (then_normal (WP.ret (then_ret ?_)))
          obtain rfl := Option.some.inj hm
          refine retQ_ret Tryz.results17 (Res.tmp rfl Res.nil) rfl (fun w' s => ⟨s.below, ?_⟩)
          exact rfl
        · replace hm := ite_f hc9 hm
          refine WP.skip (then_normal (WP.seq (WP.region ?_)))
          refine wq rfl rfl rfl (ov_assign rfl rfl) ?_
          refine WL.nil (then_normal (WP.ret ?_))
          obtain rfl := Option.some.inj hm
          refine retQ_ret Tryz.results17 (Res.tmp rfl Res.nil) rfl (fun w' s => ⟨s.below, ?_⟩)
          exact rfl

theorem stroke_written_con (p_x : Stroke) (w : World) (H : Heap) (hH : Le H (hp w)) (hG : Glob H) (r : (List UInt8)) (hm : stroke_written p_x = some r) :
    Con Tryz.prog 24 [(.agg #[(.int .i64 p_x.actuator), (.bool p_x.out)])] w H (fun v _ => v = (mkS r)) := by
  unfold stroke_written at hm
  refine con_of hH Tryz.func24 rfl 15 Tryz.ntmps24 rfl ?_
  refine WP.seq (WP.region ?_)
  refine WL.step (Runs.free rfl) rfl rfl (os_box (cs := [(.int .i64 p_x.actuator), (.bool p_x.out)]) rfl rfl rfl (fun b1 => ?_))
  refine wq rfl rfl rfl (ov_assign rfl rfl) ?_
  refine WL.nil (then_normal (WP.seq (WP.region ?_)))
  refine wq rfl rfl rfl (ov_fieldAddr Tryz.underlying53 rfl rfl rfl Tryz.sizeOf3 rfl rfl) ?_
  refine wq rfl rfl rfl (ov_load_box (i := 0) Tryz.isAgg3 rfl rfl rfl rfl) ?_
  refine wq rfl rfl rfl (ov_add rfl rfl rfl) ?_
  refine wq rfl rfl rfl (ov_convert_int Tryz.underlying3 Tryz.underlying21 rfl rfl) ?_
  refine wq rfl rfl rfl (ov_convert_rune' Tryz.underlying21 Tryz.underlying9 rfl rfl) ?_
  refine wq rfl rfl rfl (ov_assign rfl rfl) ?_
  refine WL.nil (then_normal (WP.seq (WP.seq (WP.region ?_))))
  refine wq rfl rfl rfl (ov_fieldAddr Tryz.underlying53 rfl rfl rfl Tryz.sizeOf4 rfl rfl) ?_
  refine wq rfl rfl rfl (ov_load_box (i := 0) Tryz.isAgg4 rfl rfl rfl rfl) ?_
  refine WL.nil (then_normal ?_)
  refine WP.cond rfl (fun hc1 => ?_) (fun hc1 => ?_)
  · replace hm := ite_t hc1 hm
    refine WP.seq (WP.region ?_)
    refine wq rfl rfl rfl (ov_move rfl rfl) ?_
    obtain ⟨s1, e1, hm⟩ := bind_some hm
    refine wq rfl rfl rfl (ov_sadd' e1 rfl rfl rfl) ?_
    refine wq rfl rfl rfl (ov_assign rfl rfl) ?_
    refine WL.nil (then_normal (WP.ret (then_ret ?_)))
    obtain rfl := Option.some.inj hm
    refine retQ_ret Tryz.results24 (Res.tmp rfl Res.nil) rfl (fun w' s => ⟨s.below, ?_⟩)
    exact rfl
  · replace hm := ite_f hc1 hm
    refine WP.skip (then_normal (WP.seq (WP.region ?_)))
    refine wq rfl rfl rfl (ov_move rfl rfl) ?_
    obtain ⟨s2, e2, hm⟩ := bind_some hm
    refine wq rfl rfl rfl (ov_sadd' e2 rfl rfl rfl) ?_
    refine wq rfl rfl rfl (ov_assign rfl rfl) ?_
    refine WL.nil (then_normal (WP.ret ?_))
    obtain rfl := Option.some.inj hm
    refine retQ_ret Tryz.results24 (Res.tmp rfl Res.nil) rfl (fun w' s => ⟨s.below, ?_⟩)
    exact rfl

end Go.Proofs.YtbiifgojhljkjaaGreatDoor.W
