/- The walks. Written by our own program gen.py; Lean checks it. -/
import Derived.Test.YtmfphbdafgmplaaDoorPlain
import Derived.Test.YtmfphbdafgmplaaDoorEqs
import Derived.Test.YtmfphbdafgmplaaDoorProg
import Derived.Test.YtmfphbdafgmplaaDoorExt
import Derived.Test.YtmfphbdafgmplaaDoorClone
import Derived.Test.YtmfphbdafgmplaaDoorBuild
set_option linter.unusedVariables false
set_option maxRecDepth 100000
set_option maxHeartbeats 4000000
namespace Go.Proofs.YtmfphbdafgmplaaDoor.W
open Go Go.RowKit
theorem internal_strconv_Atoi_con (p_s : (List UInt8)) (w : World) (H : Heap) (hH : Le H (hp w)) (hG : Glob H) (r : (Int × Unit)) (hm : internal_strconv_Atoi p_s = some r) :
    Con Tryd.prog 85 [(mkS p_s)] w H (fun v _ => v = (.tuple #[(.int .i64 r.1), .nilIface])) := by
  unfold internal_strconv_Atoi at hm
  refine con_of hH Tryd.func85 rfl 77 Tryd.ntmps85 rfl ?_
  refine WP.seq (WP.region ?_)
  refine wq rfl rfl rfl (ov_assign rfl rfl) ?_
  refine wq rfl rfl rfl (ov_assign rfl rfl) ?_
  refine WL.nil (then_normal (WP.seq (WP.region ?_)))
  refine wq rfl rfl rfl (ov_move rfl rfl) ?_
  refine wq rfl rfl rfl (ov_len_string Tryd.underlying9 rfl rfl) ?_
  refine wq rfl rfl rfl (ov_assign rfl rfl) ?_
  refine WL.nil (then_normal ?_)
  obtain ⟨k1, hk1, hm⟩ := joinK_some hm
  refine WP.seq_join (fun g' S' => Sub [(0, (mkS p_s)), (1000000007, (.bool false))] g' ∧ (∀ w', S' w' → St w H [] H w') ∧ k1 = some r) ?_ ?_
  · skip
    refine WP.seq (WP.region ?_)
    refine wq rfl rfl rfl (ov_move rfl rfl) ?_
    refine WL.idle (Idle.no rfl rfl rfl rfl) rfl rfl ?_
    refine WL.idle (Idle.no rfl rfl rfl rfl) rfl rfl ?_
    refine WL.idle (Idle.no rfl rfl rfl rfl) rfl rfl ?_
    refine WL.idle (Idle.undef rfl rfl rfl) rfl rfl ?_
    refine WL.idle (Idle.undef rfl rfl rfl) rfl rfl ?_
    refine WL.idle (Idle.no rfl rfl rfl rfl) rfl rfl ?_
    refine wq rfl rfl rfl (ov_pick_false rfl (guard_eq rfl rfl) rfl) ?_
    refine wq rfl rfl rfl (ov_move rfl rfl) ?_
    refine WL.quiet (Runs.yes rfl rfl rfl rfl) rfl rfl (OV.quiet (ov_move rfl rfl)) ?_
    refine WL.quiet (Runs.yes rfl rfl rfl rfl) rfl rfl (OV.quiet (ov_move rfl rfl)) ?_
    refine WL.quiet (Runs.yes rfl rfl rfl rfl) rfl rfl (OV.quiet (ov_lss rfl rfl rfl)) ?_
    refine WL.quiet (Runs.yes rfl rfl rfl rfl) rfl rfl (OV.quiet (ov_move rfl rfl)) ?_
    refine WL.cut_bool 3 28 (x := ((decide ((0 : Int) < (p_s.length : Int))) && (decide ((p_s.length : Int) < 19)))) ?_ ?_
    · rcases Bool.eq_false_or_eq_true (decide ((0 : Int) < (p_s.length : Int))) with hc1 | hc1
      · skip
        refine WL.quiet (Runs.yes rfl rfl rfl hc1) rfl rfl (OV.quiet (ov_move rfl rfl)) ?_
        refine WL.quiet (Runs.yes rfl rfl rfl hc1) rfl rfl (OV.quiet (ov_lss rfl rfl rfl)) ?_
        refine WL.quiet (Runs.yes rfl rfl rfl rfl) rfl rfl (OV.quiet (ov_pick_true rfl (guard_eq rfl hc1) rfl)) ?_
        exact WL.nil ⟨Sub.cons' rfl (congrArg Value.bool (andT hc1)) (Sub.skip rfl (Sub.skip rfl (Sub.skip rfl (Sub.refl _)))), fun _ s => s⟩
      · skip
        refine WL.idle (Idle.no rfl rfl rfl hc1) rfl rfl ?_
        refine WL.idle (Idle.no rfl rfl rfl hc1) rfl rfl ?_
        refine WL.quiet (Runs.yes rfl rfl rfl rfl) rfl rfl (OV.quiet (ov_pick_false rfl (guard_eq rfl hc1) rfl)) ?_
        exact WL.nil ⟨Sub.cons' rfl (congrArg Value.bool (andF hc1)) (Sub.skip rfl (Sub.skip rfl (Sub.skip rfl (Sub.refl _)))), fun _ s => s⟩
    refine WL.quiet (Runs.yes rfl rfl rfl rfl) rfl rfl (OV.quiet (ov_pick_true rfl (guard_eq rfl rfl) rfl)) ?_
    refine wq rfl rfl rfl (ov_pick_false rfl (guard_eq rfl rfl) rfl) ?_
    refine WL.nil (then_normal ?_)
    refine WP.cond rfl (fun hc2 => ?_) (fun hc2 => ?_)
    · replace hm := ite_t hc2 hm
      refine WP.seq (WP.region ?_)
      refine wq rfl rfl rfl (ov_move rfl rfl) ?_
      refine wq rfl rfl rfl (ov_assign rfl rfl) ?_
      refine WL.nil (then_normal ?_)
      obtain ⟨k2, hk2, hm⟩ := joinK_some hm
      refine WP.seq_join (fun g' S' => ∃ (s2 : (List UInt8)), Sub [(0, (mkS s2)), (5, (mkS p_s)), (1000000007, (.bool false))] g' ∧ (∀ w', S' w' → St w H [] H w') ∧ k2 s2 = some r) ?_ ?_
      · skip
        refine WP.seq (WP.region ?_)
        refine wq rfl rfl rfl (ov_move rfl rfl) ?_
        obtain ⟨b1, e1, hm⟩ := bind_some hm
        refine wq rfl rfl rfl (ov_index_string Tryd.underlying9 rfl rfl rfl e1) ?_
        refine wq rfl rfl rfl (ov_eql rfl rfl rfl) ?_
        refine wq rfl rfl rfl (ov_move rfl rfl) ?_
        obtain ⟨c1, e2, hm⟩ := bind_some hm
        refine WL.cut_bool 4 39 (x := c1) ?_ ?_
        · rcases Bool.eq_false_or_eq_true ((b1.toNat : Int) == 45) with hc3 | hc3
          · skip
            replace hm := ite_t hc3 e2
            refine WL.idle (Idle.no rfl rfl rfl hc3) rfl rfl ?_
            refine WL.idle (Idle.no rfl rfl rfl hc3) rfl rfl ?_
            refine WL.idle (Idle.no rfl rfl rfl hc3) rfl rfl ?_
            refine wq rfl rfl rfl (ov_pick_true rfl (guard_eq rfl hc3) rfl) ?_
            exact WL.nil ⟨Sub.cons' rfl (congrArg Value.bool (Option.some.inj hm)) (Sub.skip rfl (Sub.skip rfl (Sub.skip rfl (Sub.skip rfl (Sub.refl _))))), fun _ s => s⟩
          · skip
            replace hm := ite_f hc3 e2
            refine WL.quiet (Runs.yes rfl rfl rfl hc3) rfl rfl (OV.quiet (ov_move rfl rfl)) ?_
            obtain ⟨b2, e3, hm⟩ := bind_some hm
            refine WL.quiet (Runs.yes rfl rfl rfl hc3) rfl rfl (OV.quiet (ov_index_string Tryd.underlying9 rfl rfl rfl e3)) ?_
            refine WL.quiet (Runs.yes rfl rfl rfl hc3) rfl rfl (OV.quiet (ov_eql rfl rfl rfl)) ?_
            refine wq rfl rfl rfl (ov_pick_false rfl (guard_eq rfl hc3) rfl) ?_
            exact WL.nil ⟨Sub.cons' rfl (congrArg Value.bool (Option.some.inj hm)) (Sub.skip rfl (Sub.skip rfl (Sub.skip rfl (Sub.skip rfl (Sub.refl _))))), fun _ s => s⟩
        refine WL.nil (then_normal ?_)
        refine WP.cond rfl (fun hc4 => ?_) (fun hc4 => ?_)
        · replace hm := ite_t hc4 hm
          refine WP.seq (WP.region ?_)
          refine wq rfl rfl rfl (ov_move rfl rfl) ?_
          obtain ⟨s1, e4, hm⟩ := bind_some hm
          refine wq rfl rfl rfl (ov_slice_string_from Tryd.underlying9 rfl rfl rfl e4) ?_
          refine wq rfl rfl rfl (ov_assign rfl rfl) ?_
          refine WL.nil (then_normal (WP.seq (WP.region ?_)))
          refine wq rfl rfl rfl (ov_move rfl rfl) ?_
          refine wq rfl rfl rfl (ov_len_string Tryd.underlying9 rfl rfl) ?_
          refine wq rfl rfl rfl (ov_lss rfl rfl rfl) ?_
          refine WL.nil (then_normal ?_)
          refine WP.cond rfl (fun hc5 => ?_) (fun hc5 => ?_)
          · replace hm := ite_t hc5 hm
            exact (none_some hm).elim
          · replace hm := ite_f hc5 hm
            refine WP.skip (then_normal ?_)
            exact ⟨s1, (Sub.cons rfl (Sub.cons rfl (Sub.cons rfl (Sub.nil _)))), fun w' s => s, hm⟩
        · replace hm := ite_f hc4 hm
          refine WP.skip (then_normal ?_)
          exact ⟨p_s, (Sub.cons rfl (Sub.cons rfl (Sub.cons rfl (Sub.nil _)))), fun w' s => s, hm⟩
      · rintro g' S' ⟨s2, hsub1, hS1, hm⟩
        refine WP.sub hsub1 (WP.weaken hS1 ?_)
        replace hm := (congrFun hk2 s2).symm.trans hm
        refine WP.seq (WP.region ?_)
        refine wq rfl rfl rfl (ov_assign rfl rfl) ?_
        refine WL.nil (then_normal ?_)
        obtain ⟨k3, hk3, hm⟩ := joinK_some hm
        refine WP.seq_join (fun g' S' => ∃ (H2 : Heap) (i3 : Int), Le H H2 ∧ Sub [(5, (mkS p_s)), (6, (.int .i64 i3)), (1000000007, (.bool false))] g' ∧ (∀ w', S' w' → St w H [] H2 w') ∧ k3 i3 = some r) ?_ ?_
        · skip
          refine WP.seq (WP.region ?_)
          refine wq rfl rfl rfl (ov_move rfl rfl) ?_
          refine WL.step (Runs.free rfl) rfl rfl (os_bytes Tryd.underlying9 Tryd.underlying84 Tryd.underlying5 rfl rfl (fun ao1 cap1 H1 hle1 h1 hc6 => ?_))
          replace hG := hG.mono hle1
          refine wq rfl rfl rfl (ov_len_slice Tryd.underlying84 rfl rfl) ?_
          refine wq rfl rfl rfl (ov_move rfl rfl) ?_
          refine WL.nil (then_normal (WP.block ?_))
          refine WP.loop (fun m1 g' S' => ∃ (i1 : Int) (i2 : Int), Sub [(5, (mkS p_s)), (6, (.int .i64 i1)), (47, (.slice ao1 (bytesI s2).length cap1)), (48, (.int .i64 ((bytesI s2).length : Int))), (49, (.int .i64 i2)), (1000000007, (.bool false))] g' ∧ (∀ w', S' w' → St w H [] H1 w') ∧ internal_strconv_Atoi_loop1 s2 k3 m1 i1 i2 = some r) ((Int.toNat (((bytesI s2).length : Int) - 0) + 1)) ⟨0, 0, (Sub.cons rfl (Sub.cons rfl (Sub.cons rfl (Sub.cons rfl (Sub.cons rfl (Sub.cons rfl (Sub.nil _))))))), fun w' s => s, hm⟩ ?_ ?_
          · rintro g' S' ⟨_, _, _, _, hm⟩
            exact none_some hm
          · rintro m1 g' S' ⟨i1, i2, hsub2, hS2, hm⟩
            refine WP.sub hsub2 (WP.weaken hS2 ?_)
            rw [internal_strconv_Atoi_loop1] at hm
            refine WP.seq (WP.region ?_)
            refine wq rfl rfl rfl (ov_lss rfl rfl rfl) ?_
            refine WL.nil (then_normal (WP.seq ?_))
            refine WP.cond rfl (fun hc7 => ?_) (fun hc7 => ?_)
            · replace hm := ite_t hc7 hm
              refine WP.skip (then_normal (WP.seq (WP.block (WP.seq (WP.region ?_)))))
              obtain ⟨x1, e5, hm⟩ := bind_some hm
              obtain ⟨h2, h3, h4, cs1, h5, h6⟩ := h1.get e5 (by decide)
              obtain rfl : cs1 = [(.int .u8 x1)] := h5
              refine wq rfl rfl rfl (ov_indexAddr Tryd.underlying84 Tryd.sizeOf5 rfl rfl rfl h2 h3 h4) ?_
              refine wq rfl rfl rfl (ov_load_elem (v := (.int .u8 x1)) Tryd.isAgg5 rfl rfl h6) ?_
              refine wq rfl rfl rfl (ov_assign rfl rfl) ?_
              refine WL.nil (then_normal (WP.seq (WP.region ?_)))
              refine wq rfl rfl rfl (ov_move rfl rfl) ?_
              refine wq rfl rfl rfl (ov_sub rfl rfl rfl) ?_
              refine wq rfl rfl rfl (ov_assign rfl rfl) ?_
              refine WL.nil (then_normal (WP.seq (WP.seq (WP.region ?_))))
              refine wq rfl rfl rfl (ov_move rfl rfl) ?_
              refine wq rfl rfl rfl (ov_gtr rfl rfl rfl) ?_
              refine WL.nil (then_normal ?_)
              refine WP.cond rfl (fun hc8 => ?_) (fun hc8 => ?_)
              · replace hm := ite_t hc8 hm
                exact (none_some hm).elim
              · replace hm := ite_f hc8 hm
                refine WP.skip (then_normal (WP.region ?_))
                refine wq rfl rfl rfl (ov_move rfl rfl) ?_
                refine wq rfl rfl rfl (ov_mul rfl rfl rfl) ?_
                refine wq rfl rfl rfl (ov_move rfl rfl) ?_
                refine wq rfl rfl rfl (ov_convert_int Tryd.underlying5 Tryd.underlying3 rfl rfl) ?_
                refine wq rfl rfl rfl (ov_add rfl rfl rfl) ?_
                refine wq rfl rfl rfl (ov_assign rfl rfl) ?_
                refine WL.nil (block_normal (then_normal (WP.region ?_)))
                refine wq rfl rfl rfl (ov_add rfl rfl rfl) ?_
                refine wq rfl rfl rfl (ov_move rfl rfl) ?_
                refine WL.nil (then_normal ?_)
                exact ⟨(IntKind.wrap .i64 ((IntKind.wrap .i64 (i1 * 10)) + (IntKind.wrap .i64 (IntKind.wrap .u8 (x1 - 48))))), (IntKind.wrap .i64 (i2 + 1)), (Sub.cons rfl (Sub.cons rfl (Sub.cons rfl (Sub.cons rfl (Sub.cons rfl (Sub.cons rfl (Sub.nil _))))))), fun w' s => s, hm⟩
            · replace hm := ite_f hc7 hm
              refine WP.exit (then_exit (then_exit (block_here (then_normal ?_))))
              exact ⟨H1, i1, hle1, (Sub.cons rfl (Sub.cons rfl (Sub.cons rfl (Sub.nil _)))), fun w' s => s, hm⟩
        · rintro g' S' ⟨H2, i3, hle2, hsub3, hS3, hm⟩
          refine WP.sub hsub3 (WP.weaken hS3 ?_)
          replace hm := (congrFun hk3 i3).symm.trans hm
          replace hG := hG.mono hle2
          obtain ⟨k4, hk4, hm⟩ := joinK_some hm
          refine WP.seq_join (fun g' S' => ∃ (i4 : Int), Sub [(6, (.int .i64 i4)), (1000000007, (.bool false))] g' ∧ (∀ w', S' w' → St w H [] H2 w') ∧ k4 i4 = some r) ?_ ?_
          · skip
            refine WP.seq (WP.region ?_)
            refine wq rfl rfl rfl (ov_move rfl rfl) ?_
            obtain ⟨b3, e6, hm⟩ := bind_some hm
            refine wq rfl rfl rfl (ov_index_string Tryd.underlying9 rfl rfl rfl e6) ?_
            refine wq rfl rfl rfl (ov_eql rfl rfl rfl) ?_
            refine WL.nil (then_normal ?_)
            refine WP.cond rfl (fun hc9 => ?_) (fun hc9 => ?_)
            · replace hm := ite_t hc9 hm
              refine WP.region ?_
              refine wq rfl rfl rfl (ov_move rfl rfl) ?_
              refine wq rfl rfl rfl (ov_neg rfl rfl) ?_
              refine wq rfl rfl rfl (ov_assign rfl rfl) ?_
              refine WL.nil (then_normal ?_)
              exact ⟨(IntKind.wrap .i64 (0 - i3)), (Sub.cons rfl (Sub.cons rfl (Sub.nil _))), fun w' s => s, hm⟩
            · replace hm := ite_f hc9 hm
              refine WP.skip (then_normal ?_)
              exact ⟨i3, (Sub.cons rfl (Sub.cons rfl (Sub.nil _))), fun w' s => s, hm⟩
          · rintro g' S' ⟨i4, hsub4, hS4, hm⟩
            refine WP.sub hsub4 (WP.weaken hS4 ?_)
            replace hm := (congrFun hk4 i4).symm.trans hm
            refine WP.seq (WP.region ?_)
            refine wq rfl rfl rfl (ov_move rfl rfl) ?_
            refine wq rfl rfl rfl (ov_assign rfl rfl) ?_
            refine wq rfl rfl rfl (ov_assign rfl rfl) ?_
            refine WL.nil (then_normal (WP.ret (then_ret ?_)))
            obtain rfl := Option.some.inj hm
            refine retQ_ret Tryd.results85 (Res.tmp rfl (Res.tmp rfl Res.nil)) rfl (fun w' s => ⟨s.below, ?_⟩)
            exact rfl
    · replace hm := ite_f hc2 hm
      refine WP.skip (then_normal ?_)
      exact ⟨(Sub.cons rfl (Sub.cons rfl (Sub.nil _))), fun w' s => s, hm⟩
  · rintro g' S' ⟨hsub5, hS5, hm⟩
    refine WP.sub hsub5 (WP.weaken hS5 ?_)
    replace hm := hk1.symm.trans hm
    exact (none_some hm).elim

theorem strconv_Atoi_con (p_s : (List UInt8)) (w : World) (H : Heap) (hH : Le H (hp w)) (hG : Glob H) (r : (Int × Unit)) (hm : strconv_Atoi p_s = some r) :
    Con Tryd.prog 47 [(mkS p_s)] w H (fun v _ => v = (.tuple #[(.int .i64 r.1), .nilIface])) := by
  unfold strconv_Atoi at hm
  refine con_of hH Tryd.func47 rfl 18 Tryd.ntmps47 rfl ?_
  refine WP.seq (WP.region ?_)
  refine wq rfl rfl rfl (ov_assign rfl rfl) ?_
  refine wq rfl rfl rfl (ov_assign rfl rfl) ?_
  refine WL.nil (then_normal (WP.seq (WP.region ?_)))
  refine wq rfl rfl rfl (ov_move rfl rfl) ?_
  obtain ⟨r1, e1, hm⟩ := bind_some hm
  refine WL.quiet (Runs.free rfl) rfl rfl (oq_con (r := (.tuple #[(.int .i64 r1.1), .nilIface])) Tryd.call85 rfl rfl (fun w' s => ⟨_, (internal_strconv_Atoi_con p_s  w' H s.hold hG r1 e1)⟩)) ?_
  refine wq rfl rfl rfl (ov_move rfl rfl) ?_
  refine wq rfl rfl rfl (ov_extract rfl rfl rfl) ?_
  refine wq rfl rfl rfl (ov_extract rfl rfl rfl) ?_
  refine wq rfl rfl rfl (ov_assign rfl rfl) ?_
  refine wq rfl rfl rfl (ov_assign rfl rfl) ?_
  refine WL.nil (then_normal (WP.seq (WP.seq (WP.region ?_))))
  refine wq rfl rfl rfl (ov_move rfl rfl) ?_
  refine wq rfl rfl rfl (ov_neq_nilI (by kernel_rfl) rfl rfl rfl) ?_
  refine WL.nil (then_normal (WP.cond_false rfl (WP.skip (then_normal (WP.seq (WP.region ?_))))))
  refine wq rfl rfl rfl (ov_move rfl rfl) ?_
  refine wq rfl rfl rfl (ov_assign rfl rfl) ?_
  refine wq rfl rfl rfl (ov_assign rfl rfl) ?_
  refine WL.nil (then_normal (WP.ret ?_))
  obtain rfl := Option.some.inj hm
  refine retQ_ret Tryd.results47 (Res.tmp rfl (Res.tmp rfl Res.nil)) rfl (fun w' s => ⟨s.below, ?_⟩)
  exact rfl

theorem ref12_Short_con (p_s : (List UInt8)) (w : World) (H : Heap) (hH : Le H (hp w)) (hG : Glob H) (r : Bool) (hm : ref12_Short p_s = some r) :
    Con Tryd.prog 11 [(mkS p_s)] w H (fun v _ => v = (.bool r)) := by
  unfold ref12_Short at hm
  refine con_of hH Tryd.func11 rfl 16 Tryd.ntmps11 rfl ?_
  refine WP.seq (WP.region ?_)
  refine wq rfl rfl rfl (ov_assign rfl rfl) ?_
  refine WL.nil (then_normal (WP.seq (WP.region ?_)))
  refine wq rfl rfl rfl (ov_move rfl rfl) ?_
  refine wq rfl rfl rfl (ov_len_string Tryd.underlying9 rfl rfl) ?_
  refine wq rfl rfl rfl (ov_leq rfl rfl rfl) ?_
  refine wq rfl rfl rfl (ov_move rfl rfl) ?_
  refine WL.cut_bool 9 15 (x := ((decide ((p_s.length : Int) ≤ 400)) || ((decide ((p_s.length : Int) > 4096)) && (decide ((p_s.length : Int) < 8192))))) ?_ ?_
  · rcases Bool.eq_false_or_eq_true (decide ((p_s.length : Int) ≤ 400)) with hc1 | hc1
    · skip
      refine WL.idle (Idle.no rfl rfl rfl hc1) rfl rfl ?_
      refine WL.idle (Idle.no rfl rfl rfl hc1) rfl rfl ?_
      refine WL.idle (Idle.no rfl rfl rfl hc1) rfl rfl ?_
      refine WL.idle (Idle.no rfl rfl rfl hc1) rfl rfl ?_
      refine WL.idle (Idle.undef rfl rfl rfl) rfl rfl ?_
      refine WL.idle (Idle.undef rfl rfl rfl) rfl rfl ?_
      refine WL.idle (Idle.undef rfl rfl rfl) rfl rfl ?_
      refine WL.idle (Idle.no rfl rfl rfl hc1) rfl rfl ?_
      refine wq rfl rfl rfl (ov_pick_true rfl (guard_eq rfl hc1) rfl) ?_
      exact WL.nil ⟨Sub.cons' rfl (congrArg Value.bool (orT hc1)) (Sub.skip rfl (Sub.skip rfl (Sub.skip rfl (Sub.skip rfl (Sub.skip rfl (Sub.skip rfl (Sub.skip rfl (Sub.skip rfl (Sub.skip rfl (Sub.refl _)))))))))), fun _ s => s⟩
    · skip
      refine WL.quiet (Runs.yes rfl rfl rfl hc1) rfl rfl (OV.quiet (ov_move rfl rfl)) ?_
      refine WL.quiet (Runs.yes rfl rfl rfl hc1) rfl rfl (OV.quiet (ov_len_string Tryd.underlying9 rfl rfl)) ?_
      refine WL.quiet (Runs.yes rfl rfl rfl hc1) rfl rfl (OV.quiet (ov_gtr rfl rfl rfl)) ?_
      refine WL.quiet (Runs.yes rfl rfl rfl hc1) rfl rfl (OV.quiet (ov_move rfl rfl)) ?_
      refine WL.cut_bool 4 14 (x := ((decide ((p_s.length : Int) > 4096)) && (decide ((p_s.length : Int) < 8192)))) ?_ ?_
      · rcases Bool.eq_false_or_eq_true (decide ((p_s.length : Int) > 4096)) with hc2 | hc2
        · skip
          refine WL.quiet (Runs.yes rfl rfl rfl hc2) rfl rfl (OV.quiet (ov_move rfl rfl)) ?_
          refine WL.quiet (Runs.yes rfl rfl rfl hc2) rfl rfl (OV.quiet (ov_len_string Tryd.underlying9 rfl rfl)) ?_
          refine WL.quiet (Runs.yes rfl rfl rfl hc2) rfl rfl (OV.quiet (ov_lss rfl rfl rfl)) ?_
          refine WL.quiet (Runs.yes rfl rfl rfl hc1) rfl rfl (OV.quiet (ov_pick_true rfl (guard_eq rfl hc2) rfl)) ?_
          exact WL.nil ⟨Sub.cons' rfl (congrArg Value.bool (andT hc2)) (Sub.skip rfl (Sub.skip rfl (Sub.skip rfl (Sub.skip rfl (Sub.refl _))))), fun _ s => s⟩
        · skip
          refine WL.idle (Idle.no rfl rfl rfl hc2) rfl rfl ?_
          refine WL.idle (Idle.no rfl rfl rfl hc2) rfl rfl ?_
          refine WL.idle (Idle.no rfl rfl rfl hc2) rfl rfl ?_
          refine WL.quiet (Runs.yes rfl rfl rfl hc1) rfl rfl (OV.quiet (ov_pick_false rfl (guard_eq rfl hc2) rfl)) ?_
          exact WL.nil ⟨Sub.cons' rfl (congrArg Value.bool (andF hc2)) (Sub.skip rfl (Sub.skip rfl (Sub.skip rfl (Sub.skip rfl (Sub.refl _))))), fun _ s => s⟩
      refine wq rfl rfl rfl (ov_pick_false rfl (guard_eq rfl hc1) rfl) ?_
      exact WL.nil ⟨Sub.cons' rfl (congrArg Value.bool (orF hc1)) (Sub.skip rfl (Sub.skip rfl (Sub.skip rfl (Sub.skip rfl (Sub.skip rfl (Sub.skip rfl (Sub.refl _))))))), fun _ s => s⟩
  refine wq rfl rfl rfl (ov_assign rfl rfl) ?_
  refine WL.nil (then_normal (WP.ret ?_))
  obtain rfl := Option.some.inj hm
  refine retQ_ret Tryd.results11 (Res.tmp rfl Res.nil) rfl (fun w' s => ⟨s.below, ?_⟩)
  exact rfl

theorem lexer_Position_con (p_text : (List UInt8)) (p_at : Int) (w : World) (H : Heap) (hH : Le H (hp w)) (hG : Glob H) (r : (Int × Int × Int)) (hm : lexer_Position p_text p_at = some r) :
    Con Tryd.prog 13 [(mkS p_text), (.int .i64 p_at)] w H (fun v _ => v = (.tuple #[(.int .i64 r.1), (.int .i64 r.2.1), (.int .i64 r.2.2)])) := by
  unfold lexer_Position at hm
  refine con_of hH Tryd.func13 rfl 31 Tryd.ntmps13 rfl ?_
  refine WP.seq (WP.region ?_)
  refine wq rfl rfl rfl (ov_assign rfl rfl) ?_
  refine wq rfl rfl rfl (ov_assign rfl rfl) ?_
  refine wq rfl rfl rfl (ov_assign rfl rfl) ?_
  refine WL.nil (then_normal (WP.seq (WP.block (WP.seq (WP.region ?_)))))
  refine wq rfl rfl rfl (ov_move rfl rfl) ?_
  refine wq rfl rfl rfl (ov_len_string Tryd.underlying9 rfl rfl) ?_
  refine wq rfl rfl rfl (ov_gtr rfl rfl rfl) ?_
  refine wq rfl rfl rfl (ov_assign rfl rfl) ?_
  refine WL.nil (then_normal ?_)
  refine WP.cond rfl (fun hc1 => ?_) (fun hc1 => ?_)
  · replace hm := ite_t hc1 hm
    refine WP.seq (WP.region ?_)
    refine wq rfl rfl rfl (ov_assign rfl rfl) ?_
    refine wq rfl rfl rfl (ov_assign rfl rfl) ?_
    refine wq rfl rfl rfl (ov_assign rfl rfl) ?_
    refine WL.nil (then_normal (WP.ret (block_ret (then_ret ?_))))
    obtain rfl := Option.some.inj hm
    refine retQ_ret Tryd.results13 (Res.tmp rfl (Res.tmp rfl (Res.tmp rfl Res.nil))) rfl (fun w' s => ⟨s.below, ?_⟩)
    exact rfl
  · replace hm := ite_f hc1 hm
    refine WP.seq (WP.region ?_)
    refine wq rfl rfl rfl (ov_move rfl rfl) ?_
    refine wq rfl rfl rfl (ov_lss rfl rfl rfl) ?_
    refine wq rfl rfl rfl (ov_move rfl rfl) ?_
    refine WL.cut_bool 5 20 (x := ((decide (p_at < 0)) || (decide (p_at > (p_text.length : Int))))) ?_ ?_
    · rcases Bool.eq_false_or_eq_true (decide (p_at < 0)) with hc2 | hc2
      · skip
        refine WL.idle (Idle.no rfl rfl rfl hc2) rfl rfl ?_
        refine WL.idle (Idle.no rfl rfl rfl hc2) rfl rfl ?_
        refine WL.idle (Idle.no rfl rfl rfl hc2) rfl rfl ?_
        refine WL.idle (Idle.no rfl rfl rfl hc2) rfl rfl ?_
        refine wq rfl rfl rfl (ov_pick_true rfl (guard_eq rfl hc2) rfl) ?_
        exact WL.nil ⟨Sub.cons' rfl (congrArg Value.bool (orT hc2)) (Sub.skip rfl (Sub.skip rfl (Sub.skip rfl (Sub.skip rfl (Sub.skip rfl (Sub.refl _)))))), fun _ s => s⟩
      · skip
        refine WL.quiet (Runs.yes rfl rfl rfl hc2) rfl rfl (OV.quiet (ov_move rfl rfl)) ?_
        refine WL.quiet (Runs.yes rfl rfl rfl hc2) rfl rfl (OV.quiet (ov_move rfl rfl)) ?_
        refine WL.quiet (Runs.yes rfl rfl rfl hc2) rfl rfl (OV.quiet (ov_len_string Tryd.underlying9 rfl rfl)) ?_
        refine WL.quiet (Runs.yes rfl rfl rfl hc2) rfl rfl (OV.quiet (ov_gtr rfl rfl rfl)) ?_
        refine wq rfl rfl rfl (ov_pick_false rfl (guard_eq rfl hc2) rfl) ?_
        exact WL.nil ⟨Sub.cons' rfl (congrArg Value.bool (orF hc2)) (Sub.skip rfl (Sub.skip rfl (Sub.skip rfl (Sub.skip rfl (Sub.skip rfl (Sub.refl _)))))), fun _ s => s⟩
    refine wq rfl rfl rfl (ov_assign rfl rfl) ?_
    refine WL.nil (then_normal ?_)
    refine WP.cond rfl (fun hc3 => ?_) (fun hc3 => ?_)
    · replace hm := ite_t hc3 hm
      refine WP.seq (WP.region ?_)
      refine wq rfl rfl rfl (ov_assign rfl rfl) ?_
      refine wq rfl rfl rfl (ov_assign rfl rfl) ?_
      refine wq rfl rfl rfl (ov_assign rfl rfl) ?_
      refine WL.nil (then_normal (WP.ret (block_ret (then_ret ?_))))
      obtain rfl := Option.some.inj hm
      refine retQ_ret Tryd.results13 (Res.tmp rfl (Res.tmp rfl (Res.tmp rfl Res.nil))) rfl (fun w' s => ⟨s.below, ?_⟩)
      exact rfl
    · replace hm := ite_f hc3 hm
      refine WP.skip (block_normal (then_normal (WP.seq (WP.region ?_))))
      refine wq rfl rfl rfl (ov_move rfl rfl) ?_
      refine wq rfl rfl rfl (ov_move rfl rfl) ?_
      obtain ⟨s1, e1, hm⟩ := bind_some hm
      refine wq rfl rfl rfl (ov_slice_string_to Tryd.underlying9 rfl rfl rfl e1) ?_
      refine wq rfl rfl rfl (ov_assign rfl rfl) ?_
      refine WL.nil (then_normal (WP.seq (WP.region ?_)))
      refine wq rfl rfl rfl (ov_move rfl rfl) ?_
      obtain ⟨r1, e2, hm⟩ := bind_some hm
      refine WL.quiet (Runs.free rfl) rfl rfl (oq_con (r := (.int .i64 r1)) Tryd.call32 rfl rfl (fun w' s => ⟨_, (countS_con s1 [10]  w' H s.hold hG r1 e2)⟩)) ?_
      refine wq rfl rfl rfl (ov_move rfl rfl) ?_
      refine wq rfl rfl rfl (ov_sub rfl rfl rfl) ?_
      refine wq rfl rfl rfl (ov_move rfl rfl) ?_
      obtain ⟨r2, e3, hm⟩ := bind_some hm
      refine WL.quiet (Runs.free rfl) rfl rfl (oq_con (r := (.int .i64 r2)) Tryd.call33 rfl rfl (fun w' s => ⟨_, (lastIdx_con s1 [10]  w' H s.hold hG r2 e3)⟩)) ?_
      refine wq rfl rfl rfl (ov_sub rfl rfl rfl) ?_
      refine wq rfl rfl rfl (ov_assign rfl rfl) ?_
      refine wq rfl rfl rfl (ov_assign rfl rfl) ?_
      refine wq rfl rfl rfl (ov_assign rfl rfl) ?_
      refine WL.nil (then_normal (WP.ret ?_))
      obtain rfl := Option.some.inj hm
      refine retQ_ret Tryd.results13 (Res.tmp rfl (Res.tmp rfl (Res.tmp rfl Res.nil))) rfl (fun w' s => ⟨s.below, ?_⟩)
      exact rfl

theorem lexer_class_con (p_b : Int) (w : World) (H : Heap) (hH : Le H (hp w)) (hG : Glob H) (r : Int) (hm : lexer_class p_b = some r) :
    Con Tryd.prog 49 [(.int .u8 p_b)] w H (fun v _ => v = (.int .i64 r)) := by
  unfold lexer_class at hm
  refine con_of hH Tryd.func49 rfl 28 Tryd.ntmps49 rfl ?_
  refine WP.seq (WP.region ?_)
  refine wq rfl rfl rfl (ov_assign rfl rfl) ?_
  refine WL.nil (then_normal ?_)
  obtain ⟨k1, hk1, hm⟩ := joinK_some hm
  refine WP.seq_join (fun g' S' => Sub [(0, (.int .u8 p_b)), (1000000007, (.bool false))] g' ∧ (∀ w', S' w' → St w H [] H w') ∧ k1 = some r) ?_ ?_
  · skip
    refine WP.seq (WP.region ?_)
    refine wq rfl rfl rfl (ov_move rfl rfl) ?_
    refine WL.nil (then_normal (WP.block ?_))
    refine WP.loop (fun m1 g' S' => ∃ (i1 : Int), Sub [(0, (.int .u8 p_b)), (5, (.int .i64 i1)), (1000000007, (.bool false))] g' ∧ (∀ w', S' w' → St w H [] H w') ∧ lexer_class_loop1 p_b k1 m1 i1 = some r) ((Int.toNat (6 - 0) + 1)) ⟨0, (Sub.cons rfl (Sub.cons rfl (Sub.cons rfl (Sub.nil _)))), fun w' s => s, hm⟩ ?_ ?_
    · rintro g' S' ⟨_, _, _, hm⟩
      exact none_some hm
    · rintro m1 g' S' ⟨i1, hsub1, hS1, hm⟩
      refine WP.sub hsub1 (WP.weaken hS1 ?_)
      rw [lexer_class_loop1] at hm
      refine WP.seq (WP.region ?_)
      refine wq rfl rfl rfl (ov_lss rfl rfl rfl) ?_
      refine WL.nil (then_normal (WP.seq ?_))
      refine WP.cond rfl (fun hc1 => ?_) (fun hc1 => ?_)
      · replace hm := ite_t hc1 hm
        refine WP.skip (then_normal (WP.seq (WP.block (WP.seq (WP.region ?_)))))
        refine wq rfl rfl rfl (ov_move rfl rfl) ?_
        refine wq rfl rfl rfl (ov_assign rfl rfl) ?_
        refine WL.nil (then_normal (WP.seq (WP.region ?_)))
        refine wq rfl rfl rfl (ov_move rfl rfl) ?_
        obtain ⟨x1, e1, hm⟩ := bind_some hm
        obtain ⟨h1, h2, h3, cs1, h4, h5⟩ := hG.1.get e1 (by decide)
        obtain rfl : cs1 = [(.int .u8 x1.a0), (.int .u8 x1.a1), (.int .u8 x1.a2)] := h4
        refine wq rfl rfl rfl (ov_indexAddr_globL rfl Tryd.underlying115 Tryd.sizeOf114 rfl rfl rfl h1 h2) ?_
        refine wq rfl rfl rfl (ov_load_elems (vs := [(.int .u8 x1.a0), (.int .u8 x1.a1), (.int .u8 x1.a2)]) Tryd.isAgg114 Tryd.sizeOf114 rfl rfl rfl h5 h3) ?_
        refine WL.step (Runs.free rfl) rfl rfl (os_alloc (cs := [(.int .u8 0), (.int .u8 0), (.int .u8 0)]) Tryd.zeroValue114 rfl rfl (fun b1 => ?_))
        refine WL.step0 (Runs.free rfl) rfl (os_store (i := 0) (vs := [(.int .u8 x1.a0), (.int .u8 x1.a1), (.int .u8 x1.a2)]) (cs' := [(.int .u8 x1.a0), (.int .u8 x1.a1), (.int .u8 x1.a2)]) Tryd.sizeOf114 rfl rfl rfl rfl rfl rfl rfl rfl rfl ?_)
        refine WL.nil (then_normal (WP.seq (WP.region ?_)))
        refine wq rfl rfl rfl (ov_indexAddr_arr Tryd.underlying114 Tryd.sizeOf5 rfl rfl rfl (by decide) (by decide)) ?_
        refine wq rfl rfl rfl (ov_load_box (i := 0) Tryd.isAgg5 rfl rfl rfl rfl) ?_
        refine wq rfl rfl rfl (ov_move rfl rfl) ?_
        refine wq rfl rfl rfl (ov_leq rfl rfl rfl) ?_
        refine wq rfl rfl rfl (ov_move rfl rfl) ?_
        refine WL.cut_bool 5 20 (x := ((decide (x1.a0 ≤ p_b)) && (decide (p_b ≤ x1.a1)))) ?_ ?_
        · rcases Bool.eq_false_or_eq_true (decide (x1.a0 ≤ p_b)) with hc2 | hc2
          · skip
            refine WL.quiet (Runs.yes rfl rfl rfl hc2) rfl rfl (OV.quiet (ov_move rfl rfl)) ?_
            refine WL.quiet (Runs.yes rfl rfl rfl hc2) rfl rfl (OV.quiet (ov_indexAddr_arr Tryd.underlying114 Tryd.sizeOf5 rfl rfl rfl (by decide) (by decide))) ?_
            refine WL.quiet (Runs.yes rfl rfl rfl hc2) rfl rfl (OV.quiet (ov_load_box (i := 0) Tryd.isAgg5 rfl rfl rfl rfl)) ?_
            refine WL.quiet (Runs.yes rfl rfl rfl hc2) rfl rfl (OV.quiet (ov_leq rfl rfl rfl)) ?_
            refine wq rfl rfl rfl (ov_pick_true rfl (guard_eq rfl hc2) rfl) ?_
            exact WL.nil ⟨Sub.cons' rfl (congrArg Value.bool (andT hc2)) (Sub.skip rfl (Sub.skip rfl (Sub.skip rfl (Sub.skip rfl (Sub.skip rfl (Sub.refl _)))))), fun _ s => s⟩
          · skip
            refine WL.idle (Idle.no rfl rfl rfl hc2) rfl rfl ?_
            refine WL.idle (Idle.no rfl rfl rfl hc2) rfl rfl ?_
            refine WL.idle (Idle.no rfl rfl rfl hc2) rfl rfl ?_
            refine WL.idle (Idle.no rfl rfl rfl hc2) rfl rfl ?_
            refine wq rfl rfl rfl (ov_pick_false rfl (guard_eq rfl hc2) rfl) ?_
            exact WL.nil ⟨Sub.cons' rfl (congrArg Value.bool (andF hc2)) (Sub.skip rfl (Sub.skip rfl (Sub.skip rfl (Sub.skip rfl (Sub.skip rfl (Sub.refl _)))))), fun _ s => s⟩
        refine WL.nil (then_normal ?_)
        refine WP.cond rfl (fun hc3 => ?_) (fun hc3 => ?_)
        · replace hm := ite_t hc3 hm
          refine WP.seq (WP.region ?_)
          refine wq rfl rfl rfl (ov_indexAddr_arr Tryd.underlying114 Tryd.sizeOf5 rfl rfl rfl (by decide) (by decide)) ?_
          refine wq rfl rfl rfl (ov_load_box (i := 0) Tryd.isAgg5 rfl rfl rfl rfl) ?_
          refine wq rfl rfl rfl (ov_convert_int Tryd.underlying5 Tryd.underlying3 rfl rfl) ?_
          refine wq rfl rfl rfl (ov_assign rfl rfl) ?_
          refine WL.nil (then_normal (WP.ret (block_ret (then_ret (then_ret (block_ret (then_ret ?_)))))))
          obtain rfl := Option.some.inj hm
          refine retQ_ret Tryd.results49 (Res.tmp rfl Res.nil) rfl (fun w' s => ⟨s.below, ?_⟩)
          exact rfl
        · replace hm := ite_f hc3 hm
          refine WP.skip (block_normal (then_normal (WP.region ?_)))
          refine wq rfl rfl rfl (ov_add rfl rfl rfl) ?_
          refine wq rfl rfl rfl (ov_move rfl rfl) ?_
          refine WL.nil (then_normal ?_)
          exact ⟨(IntKind.wrap .i64 (i1 + 1)), (Sub.cons rfl (Sub.cons rfl (Sub.cons rfl (Sub.nil _)))), fun w' s => (s.select [] (by decide) rfl), hm⟩
      · replace hm := ite_f hc1 hm
        refine WP.exit (then_exit (then_exit (block_here (then_normal ?_))))
        exact ⟨(Sub.cons rfl (Sub.cons rfl (Sub.nil _))), fun w' s => s, hm⟩
  · rintro g' S' ⟨hsub2, hS2, hm⟩
    refine WP.sub hsub2 (WP.weaken hS2 ?_)
    replace hm := hk1.symm.trans hm
    refine WP.seq (WP.seq (WP.region ?_))
    refine wq rfl rfl rfl (ov_move rfl rfl) ?_
    obtain ⟨r1, e2, hm⟩ := bind_some hm
    refine WL.quiet (Runs.free rfl) rfl rfl (oq_con (r := (.int .i64 r1)) Tryd.call87 rfl rfl (fun w' s => ⟨_, (idxB_con [43, 45, 42, 47, 40, 41, 91, 93, 123, 125, 60, 62, 61, 44, 59, 58, 124, 38, 33, 35, 46] p_b  w' H s.hold hG r1 e2)⟩)) ?_
    refine wq rfl rfl rfl (ov_geq rfl rfl rfl) ?_
    refine WL.nil (then_normal ?_)
    refine WP.cond rfl (fun hc4 => ?_) (fun hc4 => ?_)
    · replace hm := ite_t hc4 hm
      refine WP.seq (WP.region ?_)
      refine wq rfl rfl rfl (ov_assign rfl rfl) ?_
      refine WL.nil (then_normal (WP.ret (then_ret ?_)))
      obtain rfl := Option.some.inj hm
      refine retQ_ret Tryd.results49 (Res.tmp rfl Res.nil) rfl (fun w' s => ⟨s.below, ?_⟩)
      exact rfl
    · replace hm := ite_f hc4 hm
      refine WP.skip (then_normal (WP.seq (WP.region ?_)))
      refine wq rfl rfl rfl (ov_assign rfl rfl) ?_
      refine WL.nil (then_normal (WP.ret ?_))
      obtain rfl := Option.some.inj hm
      refine retQ_ret Tryd.results49 (Res.tmp rfl Res.nil) rfl (fun w' s => ⟨s.below, ?_⟩)
      exact rfl

theorem lexer_run_con (p_s : (List UInt8)) (p_classes : (List Int)) (ao1 : Option Addr) (cap1 : Nat) (w : World) (H : Heap) (hH : Le H (hp w)) (h1 : SL H (encInt .i64) ao1 p_classes) (hc1 : p_classes.length ≤ cap1) (hG : Glob H) (r : Int) (hm : lexer_run p_s p_classes = some r) :
    Con Tryd.prog 48 [(mkS p_s), (.slice ao1 p_classes.length cap1)] w H (fun v _ => v = (.int .i64 r)) := by
  unfold lexer_run at hm
  refine con_of hH Tryd.func48 rfl 36 Tryd.ntmps48 rfl ?_
  refine WP.seq (WP.region ?_)
  refine wq rfl rfl rfl (ov_assign rfl rfl) ?_
  refine WL.nil (then_normal ?_)
  obtain ⟨k1, hk1, hm⟩ := joinK_some hm
  refine WP.seq_join (fun g' S' => Sub [(0, (mkS p_s)), (1000000007, (.bool false))] g' ∧ (∀ w', S' w' → St w H [] H w') ∧ k1 = some r) ?_ ?_
  · skip
    refine WP.seq (WP.region ?_)
    refine wq rfl rfl rfl (ov_move rfl rfl) ?_
    refine wq rfl rfl rfl (ov_len_string Tryd.underlying9 rfl rfl) ?_
    refine wq rfl rfl rfl (ov_move rfl rfl) ?_
    refine WL.nil (then_normal (WP.block ?_))
    refine WP.loop (fun m1 g' S' => ∃ (i1 : Int), Sub [(0, (mkS p_s)), (1, (.slice ao1 p_classes.length cap1)), (10, (.int .i64 (p_s.length : Int))), (11, (.int .i64 i1)), (1000000007, (.bool false))] g' ∧ (∀ w', S' w' → St w H [] H w') ∧ lexer_run_loop1 p_s p_classes k1 m1 i1 = some r) ((Int.toNat ((p_s.length : Int) - 0) + 1)) ⟨0, (Sub.cons rfl (Sub.cons rfl (Sub.cons rfl (Sub.cons rfl (Sub.cons rfl (Sub.nil _)))))), fun w' s => s, hm⟩ ?_ ?_
    · rintro g' S' ⟨_, _, _, hm⟩
      exact none_some hm
    · rintro m1 g' S' ⟨i1, hsub1, hS1, hm⟩
      refine WP.sub hsub1 (WP.weaken hS1 ?_)
      rw [lexer_run_loop1] at hm
      refine WP.seq (WP.region ?_)
      refine wq rfl rfl rfl (ov_lss rfl rfl rfl) ?_
      refine WL.nil (then_normal (WP.seq ?_))
      refine WP.cond rfl (fun hc2 => ?_) (fun hc2 => ?_)
      · replace hm := ite_t hc2 hm
        refine WP.skip (then_normal ?_)
        obtain ⟨k2, hk2, hm⟩ := joinK_some hm
        refine WP.seq_join (fun g' S' => Sub [(0, (mkS p_s)), (1, (.slice ao1 p_classes.length cap1)), (10, (.int .i64 (p_s.length : Int))), (11, (.int .i64 i1)), (1000000007, (.bool false))] g' ∧ (∀ w', S' w' → St w H [] H w') ∧ k2 = some r) ?_ ?_
        · skip
          refine WP.block (WP.seq (WP.region ?_))
          refine wq rfl rfl rfl (ov_move rfl rfl) ?_
          refine wq rfl rfl rfl (ov_assign rfl rfl) ?_
          refine WL.nil (then_normal (WP.seq (WP.region ?_)))
          refine wq rfl rfl rfl (ov_assign rfl rfl) ?_
          refine WL.nil (then_normal ?_)
          obtain ⟨k3, hk3, hm⟩ := joinK_some hm
          refine WP.seq_join (fun g' S' => ∃ (c3 : Bool), Sub [(0, (mkS p_s)), (1, (.slice ao1 p_classes.length cap1)), (5, (.int .i64 i1)), (6, (.bool c3)), (10, (.int .i64 (p_s.length : Int))), (11, (.int .i64 i1)), (1000000007, (.bool false))] g' ∧ (∀ w', S' w' → St w H [] H w') ∧ k3 c3 = some r) ?_ ?_
          · skip
            refine WP.seq (WP.region ?_)
            refine wq rfl rfl rfl (ov_move rfl rfl) ?_
            refine wq rfl rfl rfl (ov_len_slice Tryd.underlying107 rfl rfl) ?_
            refine wq rfl rfl rfl (ov_move rfl rfl) ?_
            refine WL.nil (then_normal (WP.block ?_))
            refine WP.loop (fun m2 g' S' => ∃ (c1 : Bool) (i2 : Int), Sub [(0, (mkS p_s)), (1, (.slice ao1 p_classes.length cap1)), (5, (.int .i64 i1)), (6, (.bool c1)), (10, (.int .i64 (p_s.length : Int))), (11, (.int .i64 i1)), (14, (.slice ao1 p_classes.length cap1)), (15, (.int .i64 (p_classes.length : Int))), (16, (.int .i64 i2)), (1000000007, (.bool false))] g' ∧ (∀ w', S' w' → St w H [] H w') ∧ lexer_run_loop2 p_s p_classes i1 k3 m2 c1 i2 = some r) ((Int.toNat ((p_classes.length : Int) - 0) + 1)) ⟨false, 0, (Sub.cons rfl (Sub.cons rfl (Sub.cons rfl (Sub.cons rfl (Sub.cons rfl (Sub.cons rfl (Sub.cons rfl (Sub.cons rfl (Sub.cons rfl (Sub.cons rfl (Sub.nil _))))))))))), fun w' s => s, hm⟩ ?_ ?_
            · rintro g' S' ⟨_, _, _, _, hm⟩
              exact none_some hm
            · rintro m2 g' S' ⟨c1, i2, hsub2, hS2, hm⟩
              refine WP.sub hsub2 (WP.weaken hS2 ?_)
              rw [lexer_run_loop2] at hm
              refine WP.seq (WP.region ?_)
              refine wq rfl rfl rfl (ov_lss rfl rfl rfl) ?_
              refine WL.nil (then_normal (WP.seq ?_))
              refine WP.cond rfl (fun hc3 => ?_) (fun hc3 => ?_)
              · replace hm := ite_t hc3 hm
                refine WP.skip (then_normal (WP.seq (WP.block (WP.seq (WP.region ?_)))))
                obtain ⟨x1, e1, hm⟩ := bind_some hm
                obtain ⟨h2, h3, h4, cs1, h5, h6⟩ := h1.get e1 (by decide)
                obtain rfl : cs1 = [(.int .i64 x1)] := h5
                refine wq rfl rfl rfl (ov_indexAddr Tryd.underlying107 Tryd.sizeOf3 rfl rfl rfl h2 h3 h4) ?_
                refine wq rfl rfl rfl (ov_load_elem (v := (.int .i64 x1)) Tryd.isAgg3 rfl rfl h6) ?_
                refine wq rfl rfl rfl (ov_assign rfl rfl) ?_
                refine WL.nil (then_normal (WP.region ?_))
                refine wq rfl rfl rfl (ov_move rfl rfl) ?_
                refine wq rfl rfl rfl (ov_move rfl rfl) ?_
                obtain ⟨c2, e2, hm⟩ := bind_some hm
                refine WL.cut_bool 7 28 (x := c2) ?_ ?_
                · rcases Bool.eq_false_or_eq_true c1 with hc4 | hc4
                  · skip
                    replace hm := ite_t hc4 e2
                    refine WL.idle (Idle.no rfl rfl rfl hc4) rfl rfl ?_
                    refine WL.idle (Idle.no rfl rfl rfl hc4) rfl rfl ?_
                    refine WL.idle (Idle.no rfl rfl rfl hc4) rfl rfl ?_
                    refine WL.idle (Idle.no rfl rfl rfl hc4) rfl rfl ?_
                    refine WL.idle (Idle.no rfl rfl rfl hc4) rfl rfl ?_
                    refine WL.idle (Idle.no rfl rfl rfl hc4) rfl rfl ?_
                    refine wq rfl rfl rfl (ov_pick_true rfl (guard_eq rfl hc4) rfl) ?_
                    exact WL.nil ⟨Sub.cons' rfl (congrArg Value.bool (Option.some.inj hm)) (Sub.skip rfl (Sub.skip rfl (Sub.skip rfl (Sub.skip rfl (Sub.skip rfl (Sub.skip rfl (Sub.skip rfl (Sub.refl _)))))))), fun _ s => s⟩
                  · skip
                    replace hm := ite_f hc4 e2
                    refine WL.quiet (Runs.yes rfl rfl rfl hc4) rfl rfl (OV.quiet (ov_move rfl rfl)) ?_
                    refine WL.quiet (Runs.yes rfl rfl rfl hc4) rfl rfl (OV.quiet (ov_move rfl rfl)) ?_
                    obtain ⟨b1, e3, hm⟩ := bind_some hm
                    refine WL.quiet (Runs.yes rfl rfl rfl hc4) rfl rfl (OV.quiet (ov_index_string Tryd.underlying9 rfl rfl rfl e3)) ?_
                    obtain ⟨r1, e4, hm⟩ := bind_some hm
                    refine WL.quiet (Runs.yes rfl rfl rfl hc4) rfl rfl (oq_con (r := (.int .i64 r1)) Tryd.call49 rfl rfl (fun w' s => ⟨_, (lexer_class_con (b1.toNat : Int)  w' H s.hold hG r1 e4)⟩)) ?_
                    refine WL.quiet (Runs.yes rfl rfl rfl hc4) rfl rfl (OV.quiet (ov_move rfl rfl)) ?_
                    refine WL.quiet (Runs.yes rfl rfl rfl hc4) rfl rfl (OV.quiet (ov_eql rfl rfl rfl)) ?_
                    refine wq rfl rfl rfl (ov_pick_false rfl (guard_eq rfl hc4) rfl) ?_
                    exact WL.nil ⟨Sub.cons' rfl (congrArg Value.bool (Option.some.inj hm)) (Sub.skip rfl (Sub.skip rfl (Sub.skip rfl (Sub.skip rfl (Sub.skip rfl (Sub.skip rfl (Sub.skip rfl (Sub.refl _)))))))), fun _ s => s⟩
                refine wq rfl rfl rfl (ov_assign rfl rfl) ?_
                refine WL.nil (block_normal (then_normal (WP.region ?_)))
                refine wq rfl rfl rfl (ov_add rfl rfl rfl) ?_
                refine wq rfl rfl rfl (ov_move rfl rfl) ?_
                refine WL.nil (then_normal ?_)
                exact ⟨c2, (IntKind.wrap .i64 (i2 + 1)), (Sub.cons rfl (Sub.cons rfl (Sub.cons rfl (Sub.cons rfl (Sub.cons rfl (Sub.cons rfl (Sub.cons rfl (Sub.cons rfl (Sub.cons rfl (Sub.cons rfl (Sub.nil _))))))))))), fun w' s => s, hm⟩
              · replace hm := ite_f hc3 hm
                refine WP.exit (then_exit (then_exit (block_here (then_normal ?_))))
                exact ⟨c1, (Sub.cons rfl (Sub.cons rfl (Sub.cons rfl (Sub.cons rfl (Sub.cons rfl (Sub.cons rfl (Sub.cons rfl (Sub.nil _)))))))), fun w' s => s, hm⟩
          · rintro g' S' ⟨c3, hsub3, hS3, hm⟩
            refine WP.sub hsub3 (WP.weaken hS3 ?_)
            replace hm := (congrFun hk3 c3).symm.trans hm
            refine WP.seq (WP.region ?_)
            refine wq rfl rfl rfl (ov_move rfl rfl) ?_
            refine wq rfl rfl rfl (ov_not rfl rfl) ?_
            refine WL.nil (then_normal ?_)
            refine WP.cond rfl (fun hc5 => ?_) (fun hc5 => ?_)
            · replace hm := ite_t hc5 hm
              refine WP.seq (WP.region ?_)
              refine wq rfl rfl rfl (ov_move rfl rfl) ?_
              refine wq rfl rfl rfl (ov_assign rfl rfl) ?_
              refine WL.nil (then_normal (WP.ret (block_ret (then_ret (then_ret (block_ret (then_ret ?_)))))))
              obtain rfl := Option.some.inj hm
              refine retQ_ret Tryd.results48 (Res.tmp rfl Res.nil) rfl (fun w' s => ⟨s.below, ?_⟩)
              exact rfl
            · replace hm := ite_f hc5 hm
              refine WP.skip (block_normal (then_normal ?_))
              exact ⟨(Sub.cons rfl (Sub.cons rfl (Sub.cons rfl (Sub.cons rfl (Sub.cons rfl (Sub.nil _)))))), fun w' s => s, hm⟩
        · rintro g' S' ⟨hsub4, hS4, hm⟩
          refine WP.sub hsub4 (WP.weaken hS4 ?_)
          replace hm := hk2.symm.trans hm
          refine WP.region ?_
          refine wq rfl rfl rfl (ov_add rfl rfl rfl) ?_
          refine wq rfl rfl rfl (ov_move rfl rfl) ?_
          refine WL.nil (then_normal ?_)
          exact ⟨(IntKind.wrap .i64 (i1 + 1)), (Sub.cons rfl (Sub.cons rfl (Sub.cons rfl (Sub.cons rfl (Sub.cons rfl (Sub.nil _)))))), fun w' s => s, hm⟩
      · replace hm := ite_f hc2 hm
        refine WP.exit (then_exit (then_exit (block_here (then_normal ?_))))
        exact ⟨(Sub.cons rfl (Sub.cons rfl (Sub.nil _))), fun w' s => s, hm⟩
  · rintro g' S' ⟨hsub5, hS5, hm⟩
    refine WP.sub hsub5 (WP.weaken hS5 ?_)
    replace hm := hk1.symm.trans hm
    refine WP.seq (WP.region ?_)
    refine wq rfl rfl rfl (ov_move rfl rfl) ?_
    refine wq rfl rfl rfl (ov_len_string Tryd.underlying9 rfl rfl) ?_
    refine wq rfl rfl rfl (ov_assign rfl rfl) ?_
    refine WL.nil (then_normal (WP.ret ?_))
    obtain rfl := Option.some.inj hm
    refine retQ_ret Tryd.results48 (Res.tmp rfl Res.nil) rfl (fun w' s => ⟨s.below, ?_⟩)
    exact rfl

theorem lexer_Number_con (p_s : (List UInt8)) (w : World) (H : Heap) (hH : Le H (hp w)) (hG : Glob H) (r : Int) (hm : lexer_Number p_s = some r) :
    Con Tryd.prog 20 [(mkS p_s)] w H (fun v _ => v = (.int .i64 r)) := by
  unfold lexer_Number at hm
  refine con_of hH Tryd.func20 rfl 27 Tryd.ntmps20 rfl ?_
  refine WP.seq (WP.region ?_)
  refine wq rfl rfl rfl (ov_assign rfl rfl) ?_
  refine WL.nil (then_normal (WP.seq (WP.block (WP.seq (WP.region ?_)))))
  refine wq rfl rfl rfl (ov_move rfl rfl) ?_
  refine wq rfl rfl rfl (ov_seql rfl rfl rfl) ?_
  refine wq rfl rfl rfl (ov_move rfl rfl) ?_
  obtain ⟨c1, e1, hm⟩ := bind_some hm
  refine WL.cut_bool 7 13 (x := c1) ?_ ?_
  · rcases Bool.eq_false_or_eq_true (p_s == []) with hc1 | hc1
    · skip
      replace hm := ite_t hc1 e1
      refine WL.idle (Idle.no rfl rfl rfl hc1) rfl rfl ?_
      refine WL.idle (Idle.no rfl rfl rfl hc1) rfl rfl ?_
      refine WL.idle (Idle.no rfl rfl rfl hc1) rfl rfl ?_
      refine WL.idle (Idle.no rfl rfl rfl hc1) rfl rfl ?_
      refine WL.idle (Idle.no rfl rfl rfl hc1) rfl rfl ?_
      refine WL.idle (Idle.no rfl rfl rfl hc1) rfl rfl ?_
      refine wq rfl rfl rfl (ov_pick_true rfl (guard_eq rfl hc1) rfl) ?_
      exact WL.nil ⟨Sub.cons' rfl (congrArg Value.bool (Option.some.inj hm)) (Sub.skip rfl (Sub.skip rfl (Sub.skip rfl (Sub.skip rfl (Sub.skip rfl (Sub.skip rfl (Sub.skip rfl (Sub.refl _)))))))), fun _ s => s⟩
    · skip
      replace hm := ite_f hc1 e1
      refine WL.quiet (Runs.yes rfl rfl rfl hc1) rfl rfl (OV.quiet (ov_move rfl rfl)) ?_
      have rl1 : RL H (encInt .i64) ([2] : List Int) [(.int .i64 2)] := RL.cons (cs := [(.int .i64 2)]) (xs := []) rfl (RL.nil _ _)
      refine WL.step (Runs.yes rfl rfl rfl hc1) rfl rfl (os_buildSlice (cs := [(.int .i64 2)]) (E := 3) (sz := 1) rfl rfl (fun _ => by kernel_rfl) rfl (by decide) (fun b1 => ?_))
      refine WL.held rl1 (fun H1 hc2 hle1 h1 => ?_)
      replace hG := hG.mono hle1
      obtain ⟨r1, e2, hm⟩ := bind_some hm
      refine WL.quiet (Runs.yes rfl rfl rfl hc1) rfl rfl (oq_con (r := (.int .i64 r1)) Tryd.call48 rfl rfl (fun w' s => ⟨_, (lexer_run_con p_s ([2] : List Int) (some ⟨b1, 0, none⟩) 1  w' H1 s.hold h1 hc2 hG r1 e2)⟩)) ?_
      refine WL.quiet (Runs.yes rfl rfl rfl hc1) rfl rfl (OV.quiet (ov_move rfl rfl)) ?_
      refine WL.quiet (Runs.yes rfl rfl rfl hc1) rfl rfl (OV.quiet (ov_len_string Tryd.underlying9 rfl rfl)) ?_
      refine WL.quiet (Runs.yes rfl rfl rfl hc1) rfl rfl (OV.quiet (ov_neq rfl rfl rfl)) ?_
      refine wq rfl rfl rfl (ov_pick_false rfl (guard_eq rfl hc1) rfl) ?_
      exact WL.nil ⟨Sub.cons' rfl (congrArg Value.bool (Option.some.inj hm)) (Sub.skip rfl (Sub.skip rfl (Sub.skip rfl (Sub.skip rfl (Sub.skip rfl (Sub.skip rfl (Sub.skip rfl (Sub.refl _)))))))), fun _ s => (s.heap hle1)⟩
  refine wq rfl rfl rfl (ov_move rfl rfl) ?_
  obtain ⟨c2, e3, hm⟩ := bind_some hm
  refine WL.cut_bool 8 22 (x := c2) ?_ ?_
  · rcases Bool.eq_false_or_eq_true c1 with hc3 | hc3
    · skip
      replace hm := ite_t hc3 e3
      refine WL.idle (Idle.no rfl rfl rfl hc3) rfl rfl ?_
      refine WL.idle (Idle.no rfl rfl rfl hc3) rfl rfl ?_
      refine WL.idle (Idle.no rfl rfl rfl hc3) rfl rfl ?_
      refine WL.idle (Idle.no rfl rfl rfl hc3) rfl rfl ?_
      refine WL.idle (Idle.undef rfl rfl rfl) rfl rfl ?_
      refine WL.idle (Idle.undef rfl rfl rfl) rfl rfl ?_
      refine WL.idle (Idle.no rfl rfl rfl hc3) rfl rfl ?_
      refine wq rfl rfl rfl (ov_pick_true rfl (guard_eq rfl hc3) rfl) ?_
      exact WL.nil ⟨Sub.cons' rfl (congrArg Value.bool (Option.some.inj hm)) (Sub.skip rfl (Sub.skip rfl (Sub.skip rfl (Sub.skip rfl (Sub.skip rfl (Sub.skip rfl (Sub.skip rfl (Sub.skip rfl (Sub.refl _))))))))), fun _ s => s⟩
    · skip
      replace hm := ite_f hc3 e3
      refine WL.quiet (Runs.yes rfl rfl rfl hc3) rfl rfl (OV.quiet (ov_move rfl rfl)) ?_
      obtain ⟨b2, e4, hm⟩ := bind_some hm
      refine WL.quiet (Runs.yes rfl rfl rfl hc3) rfl rfl (OV.quiet (ov_index_string Tryd.underlying9 rfl rfl rfl e4)) ?_
      refine WL.quiet (Runs.yes rfl rfl rfl hc3) rfl rfl (OV.quiet (ov_eql rfl rfl rfl)) ?_
      refine WL.quiet (Runs.yes rfl rfl rfl hc3) rfl rfl (OV.quiet (ov_move rfl rfl)) ?_
      refine WL.cut_bool 3 21 (x := (((b2.toNat : Int) == 48) && (!(p_s == [48])))) ?_ ?_
      · rcases Bool.eq_false_or_eq_true ((b2.toNat : Int) == 48) with hc4 | hc4
        · skip
          refine WL.quiet (Runs.yes rfl rfl rfl hc4) rfl rfl (OV.quiet (ov_move rfl rfl)) ?_
          refine WL.quiet (Runs.yes rfl rfl rfl hc4) rfl rfl (OV.quiet (ov_sneq rfl rfl rfl)) ?_
          refine WL.quiet (Runs.yes rfl rfl rfl hc3) rfl rfl (OV.quiet (ov_pick_true rfl (guard_eq rfl hc4) rfl)) ?_
          exact WL.nil ⟨Sub.cons' rfl (congrArg Value.bool (andT hc4)) (Sub.skip rfl (Sub.skip rfl (Sub.skip rfl (Sub.refl _)))), fun _ s => s⟩
        · skip
          refine WL.idle (Idle.no rfl rfl rfl hc4) rfl rfl ?_
          refine WL.idle (Idle.no rfl rfl rfl hc4) rfl rfl ?_
          refine WL.quiet (Runs.yes rfl rfl rfl hc3) rfl rfl (OV.quiet (ov_pick_false rfl (guard_eq rfl hc4) rfl)) ?_
          exact WL.nil ⟨Sub.cons' rfl (congrArg Value.bool (andF hc4)) (Sub.skip rfl (Sub.skip rfl (Sub.skip rfl (Sub.refl _)))), fun _ s => s⟩
      refine wq rfl rfl rfl (ov_pick_false rfl (guard_eq rfl hc3) rfl) ?_
      exact WL.nil ⟨Sub.cons' rfl (congrArg Value.bool (Option.some.inj hm)) (Sub.skip rfl (Sub.skip rfl (Sub.skip rfl (Sub.skip rfl (Sub.skip rfl (Sub.skip rfl (Sub.refl _))))))), fun _ s => s⟩
  refine wq rfl rfl rfl (ov_assign rfl rfl) ?_
  refine WL.nil (then_normal ?_)
  refine WP.cond rfl (fun hc5 => ?_) (fun hc5 => ?_)
  · replace hm := ite_t hc5 hm
    refine WP.seq (WP.region ?_)
    refine wq rfl rfl rfl (ov_assign rfl rfl) ?_
    refine WL.nil (then_normal (WP.ret (block_ret (then_ret ?_))))
    obtain rfl := Option.some.inj hm
    refine retQ_ret Tryd.results20 (Res.tmp rfl Res.nil) rfl (fun w' s => ⟨s.below, ?_⟩)
    exact rfl
  · replace hm := ite_f hc5 hm
    refine WP.seq (WP.region ?_)
    refine wq rfl rfl rfl (ov_move rfl rfl) ?_
    refine wq rfl rfl rfl (ov_len_string Tryd.underlying9 rfl rfl) ?_
    refine wq rfl rfl rfl (ov_gtr rfl rfl rfl) ?_
    refine wq rfl rfl rfl (ov_assign rfl rfl) ?_
    refine WL.nil (then_normal ?_)
    refine WP.cond rfl (fun hc6 => ?_) (fun hc6 => ?_)
    · replace hm := ite_t hc6 hm
      refine WP.seq (WP.region ?_)
      refine wq rfl rfl rfl (ov_assign rfl rfl) ?_
      refine WL.nil (then_normal (WP.ret (block_ret (then_ret ?_))))
      obtain rfl := Option.some.inj hm
      refine retQ_ret Tryd.results20 (Res.tmp rfl Res.nil) rfl (fun w' s => ⟨s.below, ?_⟩)
      exact rfl
    · replace hm := ite_f hc6 hm
      refine WP.skip (block_normal (then_normal (WP.seq (WP.region ?_))))
      refine wq rfl rfl rfl (ov_assign rfl rfl) ?_
      refine WL.nil (then_normal (WP.ret ?_))
      obtain rfl := Option.some.inj hm
      refine retQ_ret Tryd.results20 (Res.tmp rfl Res.nil) rfl (fun w' s => ⟨s.below, ?_⟩)
      exact rfl

theorem lexer_Word_con (p_s : (List UInt8)) (w : World) (H : Heap) (hH : Le H (hp w)) (hG : Glob H) (r : Int) (hm : lexer_Word p_s = some r) :
    Con Tryd.prog 21 [(mkS p_s)] w H (fun v _ => v = (.int .i64 r)) := by
  unfold lexer_Word at hm
  refine con_of hH Tryd.func21 rfl 24 Tryd.ntmps21 rfl ?_
  refine WP.seq (WP.region ?_)
  refine wq rfl rfl rfl (ov_assign rfl rfl) ?_
  refine WL.nil (then_normal (WP.seq (WP.block (WP.seq (WP.region ?_)))))
  refine wq rfl rfl rfl (ov_move rfl rfl) ?_
  refine wq rfl rfl rfl (ov_seql rfl rfl rfl) ?_
  refine wq rfl rfl rfl (ov_move rfl rfl) ?_
  obtain ⟨c1, e1, hm⟩ := bind_some hm
  refine WL.cut_bool 5 11 (x := c1) ?_ ?_
  · rcases Bool.eq_false_or_eq_true (p_s == []) with hc1 | hc1
    · skip
      replace hm := ite_t hc1 e1
      refine WL.idle (Idle.no rfl rfl rfl hc1) rfl rfl ?_
      refine WL.idle (Idle.no rfl rfl rfl hc1) rfl rfl ?_
      refine WL.idle (Idle.no rfl rfl rfl hc1) rfl rfl ?_
      refine WL.idle (Idle.no rfl rfl rfl hc1) rfl rfl ?_
      refine wq rfl rfl rfl (ov_pick_true rfl (guard_eq rfl hc1) rfl) ?_
      exact WL.nil ⟨Sub.cons' rfl (congrArg Value.bool (Option.some.inj hm)) (Sub.skip rfl (Sub.skip rfl (Sub.skip rfl (Sub.skip rfl (Sub.skip rfl (Sub.refl _)))))), fun _ s => s⟩
    · skip
      replace hm := ite_f hc1 e1
      refine WL.quiet (Runs.yes rfl rfl rfl hc1) rfl rfl (OV.quiet (ov_move rfl rfl)) ?_
      obtain ⟨b1, e2, hm⟩ := bind_some hm
      refine WL.quiet (Runs.yes rfl rfl rfl hc1) rfl rfl (OV.quiet (ov_index_string Tryd.underlying9 rfl rfl rfl e2)) ?_
      obtain ⟨r1, e3, hm⟩ := bind_some hm
      refine WL.quiet (Runs.yes rfl rfl rfl hc1) rfl rfl (oq_con (r := (.int .i64 r1)) Tryd.call49 rfl rfl (fun w' s => ⟨_, (lexer_class_con (b1.toNat : Int)  w' H s.hold hG r1 e3)⟩)) ?_
      refine WL.quiet (Runs.yes rfl rfl rfl hc1) rfl rfl (OV.quiet (ov_neq rfl rfl rfl)) ?_
      refine wq rfl rfl rfl (ov_pick_false rfl (guard_eq rfl hc1) rfl) ?_
      exact WL.nil ⟨Sub.cons' rfl (congrArg Value.bool (Option.some.inj hm)) (Sub.skip rfl (Sub.skip rfl (Sub.skip rfl (Sub.skip rfl (Sub.skip rfl (Sub.refl _)))))), fun _ s => s⟩
  refine wq rfl rfl rfl (ov_move rfl rfl) ?_
  obtain ⟨c2, e4, hm⟩ := bind_some hm
  refine WL.cut_bool 7 19 (x := c2) ?_ ?_
  · rcases Bool.eq_false_or_eq_true c1 with hc2 | hc2
    · skip
      replace hm := ite_t hc2 e4
      refine WL.idle (Idle.no rfl rfl rfl hc2) rfl rfl ?_
      refine WL.idle (Idle.no rfl rfl rfl hc2) rfl rfl ?_
      refine WL.idle (Idle.no rfl rfl rfl hc2) rfl rfl ?_
      refine WL.idle (Idle.no rfl rfl rfl hc2) rfl rfl ?_
      refine WL.idle (Idle.no rfl rfl rfl hc2) rfl rfl ?_
      refine WL.idle (Idle.no rfl rfl rfl hc2) rfl rfl ?_
      refine wq rfl rfl rfl (ov_pick_true rfl (guard_eq rfl hc2) rfl) ?_
      exact WL.nil ⟨Sub.cons' rfl (congrArg Value.bool (Option.some.inj hm)) (Sub.skip rfl (Sub.skip rfl (Sub.skip rfl (Sub.skip rfl (Sub.skip rfl (Sub.skip rfl (Sub.skip rfl (Sub.refl _)))))))), fun _ s => s⟩
    · skip
      replace hm := ite_f hc2 e4
      refine WL.quiet (Runs.yes rfl rfl rfl hc2) rfl rfl (OV.quiet (ov_move rfl rfl)) ?_
      have rl1 : RL H (encInt .i64) ([1, 2, 3] : List Int) [(.int .i64 1), (.int .i64 2), (.int .i64 3)] := RL.cons (cs := [(.int .i64 1)]) (xs := [(.int .i64 2), (.int .i64 3)]) rfl (RL.cons (cs := [(.int .i64 2)]) (xs := [(.int .i64 3)]) rfl (RL.cons (cs := [(.int .i64 3)]) (xs := []) rfl (RL.nil _ _)))
      refine WL.step (Runs.yes rfl rfl rfl hc2) rfl rfl (os_buildSlice (cs := [(.int .i64 1), (.int .i64 2), (.int .i64 3)]) (E := 3) (sz := 1) rfl rfl (fun _ => by kernel_rfl) rfl (by decide) (fun b2 => ?_))
      refine WL.held rl1 (fun H1 hc3 hle1 h1 => ?_)
      replace hG := hG.mono hle1
      obtain ⟨r2, e5, hm⟩ := bind_some hm
      refine WL.quiet (Runs.yes rfl rfl rfl hc2) rfl rfl (oq_con (r := (.int .i64 r2)) Tryd.call48 rfl rfl (fun w' s => ⟨_, (lexer_run_con p_s ([1, 2, 3] : List Int) (some ⟨b2, 0, none⟩) 3  w' H1 s.hold h1 hc3 hG r2 e5)⟩)) ?_
      refine WL.quiet (Runs.yes rfl rfl rfl hc2) rfl rfl (OV.quiet (ov_move rfl rfl)) ?_
      refine WL.quiet (Runs.yes rfl rfl rfl hc2) rfl rfl (OV.quiet (ov_len_string Tryd.underlying9 rfl rfl)) ?_
      refine WL.quiet (Runs.yes rfl rfl rfl hc2) rfl rfl (OV.quiet (ov_neq rfl rfl rfl)) ?_
      refine wq rfl rfl rfl (ov_pick_false rfl (guard_eq rfl hc2) rfl) ?_
      exact WL.nil ⟨Sub.cons' rfl (congrArg Value.bool (Option.some.inj hm)) (Sub.skip rfl (Sub.skip rfl (Sub.skip rfl (Sub.skip rfl (Sub.skip rfl (Sub.skip rfl (Sub.skip rfl (Sub.refl _)))))))), fun _ s => (s.heap hle1)⟩
  refine wq rfl rfl rfl (ov_assign rfl rfl) ?_
  refine WL.nil (then_normal ?_)
  refine WP.cond rfl (fun hc4 => ?_) (fun hc4 => ?_)
  · replace hm := ite_t hc4 hm
    refine WP.seq (WP.region ?_)
    refine wq rfl rfl rfl (ov_assign rfl rfl) ?_
    refine WL.nil (then_normal (WP.ret (block_ret (then_ret ?_))))
    obtain rfl := Option.some.inj hm
    refine retQ_ret Tryd.results21 (Res.tmp rfl Res.nil) rfl (fun w' s => ⟨s.below, ?_⟩)
    exact rfl
  · replace hm := ite_f hc4 hm
    refine WP.seq (WP.region ?_)
    refine wq rfl rfl rfl (ov_move rfl rfl) ?_
    refine wq rfl rfl rfl (ov_len_string Tryd.underlying9 rfl rfl) ?_
    refine wq rfl rfl rfl (ov_gtr rfl rfl rfl) ?_
    refine wq rfl rfl rfl (ov_assign rfl rfl) ?_
    refine WL.nil (then_normal ?_)
    refine WP.cond rfl (fun hc5 => ?_) (fun hc5 => ?_)
    · replace hm := ite_t hc5 hm
      refine WP.seq (WP.region ?_)
      refine wq rfl rfl rfl (ov_assign rfl rfl) ?_
      refine WL.nil (then_normal (WP.ret (block_ret (then_ret ?_))))
      obtain rfl := Option.some.inj hm
      refine retQ_ret Tryd.results21 (Res.tmp rfl Res.nil) rfl (fun w' s => ⟨s.below, ?_⟩)
      exact rfl
    · replace hm := ite_f hc5 hm
      refine WP.skip (block_normal (then_normal (WP.seq (WP.region ?_))))
      refine wq rfl rfl rfl (ov_assign rfl rfl) ?_
      refine WL.nil (then_normal (WP.ret ?_))
      obtain rfl := Option.some.inj hm
      refine retQ_ret Tryd.results21 (Res.tmp rfl Res.nil) rfl (fun w' s => ⟨s.below, ?_⟩)
      exact rfl

end Go.Proofs.YtmfphbdafgmplaaDoor.W
