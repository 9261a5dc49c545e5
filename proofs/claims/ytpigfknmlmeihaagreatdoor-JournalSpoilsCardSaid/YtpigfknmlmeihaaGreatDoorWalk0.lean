/- The walks. Written by our own program gen.py; Lean checks it. -/
import Derived.Test.YtpigfknmlmeihaaGreatDoorPlain
import Derived.Test.YtpigfknmlmeihaaGreatDoorEqs
import Derived.Test.YtpigfknmlmeihaaGreatDoorProg
import Derived.Test.YtpigfknmlmeihaaGreatDoorExt
import Derived.Test.YtpigfknmlmeihaaGreatDoorClone
import Derived.Test.YtpigfknmlmeihaaGreatDoorInsert
import Derived.Test.YtpigfknmlmeihaaGreatDoorBuild
set_option linter.unusedVariables false
set_option maxRecDepth 100000
set_option maxHeartbeats 4000000
namespace Go.Proofs.YtpigfknmlmeihaaGreatDoor.W
open Go Go.RowKit
theorem internal_stringslite_HasPrefix_con (p_s : (List UInt8)) (p_prefix : (List UInt8)) (w : World) (H : Heap) (hH : Le H (hp w)) (hG : Glob H) (r : Bool) (hm : internal_stringslite_HasPrefix p_s p_prefix = some r) :
  Con Tryz.prog 120 [(mkS p_s), (mkS p_prefix)] w H (fun v _ => v = (.bool r)) := by
 unfold internal_stringslite_HasPrefix at hm
 refine con_of hH Tryz.func120 rfl 18 Tryz.ntmps120 rfl ?_
 refine WP.seq (WP.region ?_)
 refine wq rfl rfl rfl (ov_assign rfl rfl) ?_
 refine WL.nil (then_normal (WP.seq (WP.region ?_)))
 refine wq rfl rfl rfl (ov_move rfl rfl) ?_
 refine wq rfl rfl rfl (ov_len_string Tryz.underlying9 rfl rfl) ?_
 refine wq rfl rfl rfl (ov_move rfl rfl) ?_
 refine wq rfl rfl rfl (ov_len_string Tryz.underlying9 rfl rfl) ?_
 refine wq rfl rfl rfl (ov_geq rfl rfl rfl) ?_
 refine wq rfl rfl rfl (ov_move rfl rfl) ?_
 obtain ⟨c1, e1, hm⟩ := bind_some hm
 refine WL.cut_bool 7 17 (x := c1) ?_ ?_
 ·
  rcases Bool.eq_false_or_eq_true (decide ((p_s.length : Int) ≥ (p_prefix.length : Int))) with hc1 | hc1
  ·
   skip
   replace hm := ite_t hc1 e1
   refine WL.quiet (Runs.yes rfl rfl rfl hc1) rfl rfl (OV.quiet (ov_move rfl rfl)) ?_
   refine WL.quiet (Runs.yes rfl rfl rfl hc1) rfl rfl (OV.quiet (ov_move rfl rfl)) ?_
   refine WL.quiet (Runs.yes rfl rfl rfl hc1) rfl rfl (OV.quiet (ov_len_string Tryz.underlying9 rfl rfl)) ?_
   obtain ⟨s1, e2, hm⟩ := bind_some hm
   refine WL.quiet (Runs.yes rfl rfl rfl hc1) rfl rfl (OV.quiet (ov_slice_string_to Tryz.underlying9 rfl rfl rfl e2)) ?_
   refine WL.quiet (Runs.yes rfl rfl rfl hc1) rfl rfl (OV.quiet (ov_move rfl rfl)) ?_
   refine WL.quiet (Runs.yes rfl rfl rfl hc1) rfl rfl (OV.quiet (ov_seql rfl rfl rfl)) ?_
   refine wq rfl rfl rfl (ov_pick_true rfl (guard_eq rfl hc1) rfl) ?_
   exact WL.nil ⟨Sub.cons' rfl (congrArg Value.bool (Option.some.inj hm)) (Sub.skip rfl (Sub.skip rfl (Sub.skip rfl (Sub.skip rfl (Sub.skip rfl (Sub.skip rfl (Sub.skip rfl (Sub.refl _)))))))), fun _ s => s⟩
  ·
   skip
   replace hm := ite_f hc1 e1
   refine WL.idle (Idle.no rfl rfl rfl hc1) rfl rfl ?_
   refine WL.idle (Idle.no rfl rfl rfl hc1) rfl rfl ?_
   refine WL.idle (Idle.no rfl rfl rfl hc1) rfl rfl ?_
   refine WL.idle (Idle.no rfl rfl rfl hc1) rfl rfl ?_
   refine WL.idle (Idle.no rfl rfl rfl hc1) rfl rfl ?_
   refine WL.idle (Idle.no rfl rfl rfl hc1) rfl rfl ?_
   refine wq rfl rfl rfl (ov_pick_false rfl (guard_eq rfl hc1) rfl) ?_
   exact WL.nil ⟨Sub.cons' rfl (congrArg Value.bool (Option.some.inj hm)) (Sub.skip rfl (Sub.skip rfl (Sub.skip rfl (Sub.skip rfl (Sub.skip rfl (Sub.skip rfl (Sub.skip rfl (Sub.refl _)))))))), fun _ s => s⟩
 refine wq rfl rfl rfl (ov_assign rfl rfl) ?_
 refine WL.nil (then_normal (WP.ret ?_))
 obtain rfl := Option.some.inj hm
 refine retQ_ret Tryz.results120 (Res.tmp rfl Res.nil) rfl (fun w' s => ⟨s.below, ?_⟩)
 exact rfl

theorem internal_stringslite_CutPrefix_con (p_s : (List UInt8)) (p_prefix : (List UInt8)) (w : World) (H : Heap) (hH : Le H (hp w)) (hG : Glob H) (r : ((List UInt8) × Bool)) (hm : internal_stringslite_CutPrefix p_s p_prefix = some r) :
  Con Tryz.prog 101 [(mkS p_s), (mkS p_prefix)] w H (fun v _ => v = (.tuple #[(mkS r.1), (.bool r.2)])) := by
 unfold internal_stringslite_CutPrefix at hm
 refine con_of hH Tryz.func101 rfl 15 Tryz.ntmps101 rfl ?_
 refine WP.seq (WP.region ?_)
 refine wq rfl rfl rfl (ov_assign rfl rfl) ?_
 refine wq rfl rfl rfl (ov_assign rfl rfl) ?_
 refine WL.nil (then_normal (WP.seq (WP.seq (WP.region ?_))))
 refine wq rfl rfl rfl (ov_move rfl rfl) ?_
 refine wq rfl rfl rfl (ov_move rfl rfl) ?_
 obtain ⟨r1, e1, hm⟩ := bind_some hm
 refine WL.quiet (Runs.free rfl) rfl rfl (oq_con (r := (.bool r1)) Tryz.call120 rfl rfl (fun w' s => ⟨_, (internal_stringslite_HasPrefix_con p_s p_prefix  w' H s.hold hG r1 e1)⟩)) ?_
 refine wq rfl rfl rfl (ov_not rfl rfl) ?_
 refine WL.nil (then_normal ?_)
 refine WP.cond rfl (fun hc1 => ?_) (fun hc1 => ?_)
 ·
  replace hm := ite_t hc1 hm
  refine WP.seq (WP.region ?_)
  refine wq rfl rfl rfl (ov_move rfl rfl) ?_
  refine wq rfl rfl rfl (ov_assign rfl rfl) ?_
  refine wq rfl rfl rfl (ov_assign rfl rfl) ?_
  refine WL.nil (then_normal (WP.ret (then_ret ?_)))
  obtain rfl := Option.some.inj hm
  refine retQ_ret Tryz.results101 (Res.tmp rfl (Res.tmp rfl Res.nil)) rfl (fun w' s => ⟨s.below, ?_⟩)
  exact rfl
 ·
  replace hm := ite_f hc1 hm
  refine WP.skip (then_normal (WP.seq (WP.region ?_)))
  refine wq rfl rfl rfl (ov_move rfl rfl) ?_
  refine wq rfl rfl rfl (ov_move rfl rfl) ?_
  refine wq rfl rfl rfl (ov_len_string Tryz.underlying9 rfl rfl) ?_
  obtain ⟨s1, e2, hm⟩ := bind_some hm
  refine wq rfl rfl rfl (ov_slice_string_from Tryz.underlying9 rfl rfl rfl e2) ?_
  refine wq rfl rfl rfl (ov_assign rfl rfl) ?_
  refine wq rfl rfl rfl (ov_assign rfl rfl) ?_
  refine WL.nil (then_normal (WP.ret ?_))
  obtain rfl := Option.some.inj hm
  refine retQ_ret Tryz.results101 (Res.tmp rfl (Res.tmp rfl Res.nil)) rfl (fun w' s => ⟨s.below, ?_⟩)
  exact rfl

theorem strings_CutPrefix_con (p_s : (List UInt8)) (p_prefix : (List UInt8)) (w : World) (H : Heap) (hH : Le H (hp w)) (hG : Glob H) (r : ((List UInt8) × Bool)) (hm : strings_CutPrefix p_s p_prefix = some r) :
  Con Tryz.prog 74 [(mkS p_s), (mkS p_prefix)] w H (fun v _ => v = (.tuple #[(mkS r.1), (.bool r.2)])) := by
 unfold strings_CutPrefix at hm
 refine con_of hH Tryz.func74 rfl 11 Tryz.ntmps74 rfl ?_
 refine WP.seq (WP.region ?_)
 refine wq rfl rfl rfl (ov_assign rfl rfl) ?_
 refine wq rfl rfl rfl (ov_assign rfl rfl) ?_
 refine WL.nil (then_normal (WP.seq (WP.region ?_)))
 refine wq rfl rfl rfl (ov_move rfl rfl) ?_
 refine wq rfl rfl rfl (ov_move rfl rfl) ?_
 obtain ⟨r1, e1, hm⟩ := bind_some hm
 refine WL.quiet (Runs.free rfl) rfl rfl (oq_con (r := (.tuple #[(mkS r1.1), (.bool r1.2)])) Tryz.call101 rfl rfl (fun w' s => ⟨_, (internal_stringslite_CutPrefix_con p_s p_prefix  w' H s.hold hG r1 e1)⟩)) ?_
 refine wq rfl rfl rfl (ov_extract rfl rfl rfl) ?_
 refine wq rfl rfl rfl (ov_extract rfl rfl rfl) ?_
 refine wq rfl rfl rfl (ov_assign rfl rfl) ?_
 refine wq rfl rfl rfl (ov_assign rfl rfl) ?_
 refine WL.nil (then_normal (WP.ret ?_))
 obtain rfl := Option.some.inj hm
 refine retQ_ret Tryz.results74 (Res.tmp rfl (Res.tmp rfl Res.nil)) rfl (fun w' s => ⟨s.below, ?_⟩)
 exact rfl

theorem internal_strconv_Atoi_con (p_s : (List UInt8)) (w : World) (H : Heap) (hH : Le H (hp w)) (hG : Glob H) (r : (Int × Unit)) (hm : internal_strconv_Atoi p_s = some r) :
  Con Tryz.prog 102 [(mkS p_s)] w H (fun v _ => v = (.tuple #[(.int .i64 r.1), .nilIface])) := by
 unfold internal_strconv_Atoi at hm
 refine con_of hH Tryz.func102 rfl 77 Tryz.ntmps102 rfl ?_
 refine WP.seq (WP.region ?_)
 refine wq rfl rfl rfl (ov_assign rfl rfl) ?_
 refine wq rfl rfl rfl (ov_assign rfl rfl) ?_
 refine WL.nil (then_normal (WP.seq (WP.region ?_)))
 refine wq rfl rfl rfl (ov_move rfl rfl) ?_
 refine wq rfl rfl rfl (ov_len_string Tryz.underlying9 rfl rfl) ?_
 refine wq rfl rfl rfl (ov_assign rfl rfl) ?_
 refine WL.nil (then_normal ?_)
 obtain ⟨k1, hk1, hm⟩ := joinK_some hm
 refine WP.seq_join (fun g' S' => Sub [(0, (mkS p_s)), (1000000007, (.bool false))] g' ∧ (∀ w', S' w' → St w H [] H w') ∧ k1 = some r) ?_ ?_
 ·
  skip
  refine WP.seq (WP.region ?_)
  refine wq rfl rfl rfl (ov_move rfl rfl) ?_
  refine WL.idle (Idle.no rfl rfl rfl rfl) rfl rfl ?_
  refine WL.idle (Idle.no rfl rfl rfl rfl) rfl rfl ?_
  refine WL.idle (Idle.no rfl rfl rfl rfl) rfl rfl ?_
  refine WL.idle (Idle.undef rfl rfl rfl) rfl rfl ?_
  refine WL.idle (Idle.undef rfl rfl rfl) rfl rfl ?_
  refine WL.idle (Idle.no rfl rfl rfl rfl) rfl rfl ?_
  refine wq rfl rfl rfl (ov_pick_false rfl (guard_eq rfl rfl) rfl) ?_
  refine wq rfl rfl rfl (ov_move rfl rfl) ?_
  refine WL.quiet (Runs.yes rfl rfl rfl rfl) rfl rfl (OV.quiet (ov_move rfl rfl)) ?_
  refine WL.quiet (Runs.yes rfl rfl rfl rfl) rfl rfl (OV.quiet (ov_move rfl rfl)) ?_
  refine WL.quiet (Runs.yes rfl rfl rfl rfl) rfl rfl (OV.quiet (ov_lss rfl rfl rfl)) ?_
  refine WL.quiet (Runs.yes rfl rfl rfl rfl) rfl rfl (OV.quiet (ov_move rfl rfl)) ?_
  refine WL.cut_bool 3 28 (x := ((decide ((0 : Int) < (p_s.length : Int))) && (decide ((p_s.length : Int) < 19)))) ?_ ?_
  ·
   rcases Bool.eq_false_or_eq_true (decide ((0 : Int) < (p_s.length : Int))) with hc1 | hc1
   ·
    skip
    refine WL.quiet (Runs.yes rfl rfl rfl hc1) rfl rfl (OV.quiet (ov_move rfl rfl)) ?_
    refine WL.quiet (Runs.yes rfl rfl rfl hc1) rfl rfl (OV.quiet (ov_lss rfl rfl rfl)) ?_
    refine WL.quiet (Runs.yes rfl rfl rfl rfl) rfl rfl (OV.quiet (ov_pick_true rfl (guard_eq rfl hc1) rfl)) ?_
    exact WL.nil ⟨Sub.cons' rfl (congrArg Value.bool (andT hc1)) (Sub.skip rfl (Sub.skip rfl (Sub.skip rfl (Sub.refl _)))), fun _ s => s⟩
   ·
    skip
    refine WL.idle (Idle.no rfl rfl rfl hc1) rfl rfl ?_
    refine WL.idle (Idle.no rfl rfl rfl hc1) rfl rfl ?_
    refine WL.quiet (Runs.yes rfl rfl rfl rfl) rfl rfl (OV.quiet (ov_pick_false rfl (guard_eq rfl hc1) rfl)) ?_
    exact WL.nil ⟨Sub.cons' rfl (congrArg Value.bool (andF hc1)) (Sub.skip rfl (Sub.skip rfl (Sub.skip rfl (Sub.refl _)))), fun _ s => s⟩
  refine WL.quiet (Runs.yes rfl rfl rfl rfl) rfl rfl (OV.quiet (ov_pick_true rfl (guard_eq rfl rfl) rfl)) ?_
  refine wq rfl rfl rfl (ov_pick_false rfl (guard_eq rfl rfl) rfl) ?_
  refine WL.nil (then_normal ?_)
  refine WP.cond rfl (fun hc2 => ?_) (fun hc2 => ?_)
  ·
   replace hm := ite_t hc2 hm
   refine WP.seq (WP.region ?_)
   refine wq rfl rfl rfl (ov_move rfl rfl) ?_
   refine wq rfl rfl rfl (ov_assign rfl rfl) ?_
   refine WL.nil (then_normal ?_)
   obtain ⟨k2, hk2, hm⟩ := joinK_some hm
   refine WP.seq_join (fun g' S' => ∃ (s2 : (List UInt8)), Sub [(0, (mkS s2)), (5, (mkS p_s)), (1000000007, (.bool false))] g' ∧ (∀ w', S' w' → St w H [] H w') ∧ k2 s2 = some r) ?_ ?_
   ·
    skip
    refine WP.seq (WP.region ?_)
    refine wq rfl rfl rfl (ov_move rfl rfl) ?_
    obtain ⟨b1, e1, hm⟩ := bind_some hm
    refine wq rfl rfl rfl (ov_index_string Tryz.underlying9 rfl rfl rfl e1) ?_
    refine wq rfl rfl rfl (ov_eql rfl rfl rfl) ?_
    refine wq rfl rfl rfl (ov_move rfl rfl) ?_
    obtain ⟨c1, e2, hm⟩ := bind_some hm
    refine WL.cut_bool 4 39 (x := c1) ?_ ?_
    ·
     rcases Bool.eq_false_or_eq_true ((b1.toNat : Int) == 45) with hc3 | hc3
     ·
      skip
      replace hm := ite_t hc3 e2
      refine WL.idle (Idle.no rfl rfl rfl hc3) rfl rfl ?_
      refine WL.idle (Idle.no rfl rfl rfl hc3) rfl rfl ?_
      refine WL.idle (Idle.no rfl rfl rfl hc3) rfl rfl ?_
      refine wq rfl rfl rfl (ov_pick_true rfl (guard_eq rfl hc3) rfl) ?_
      exact WL.nil ⟨Sub.cons' rfl (congrArg Value.bool (Option.some.inj hm)) (Sub.skip rfl (Sub.skip rfl (Sub.skip rfl (Sub.skip rfl (Sub.refl _))))), fun _ s => s⟩
     ·
      skip
      replace hm := ite_f hc3 e2
      refine WL.quiet (Runs.yes rfl rfl rfl hc3) rfl rfl (OV.quiet (ov_move rfl rfl)) ?_
      obtain ⟨b2, e3, hm⟩ := bind_some hm
      refine WL.quiet (Runs.yes rfl rfl rfl hc3) rfl rfl (OV.quiet (ov_index_string Tryz.underlying9 rfl rfl rfl e3)) ?_
      refine WL.quiet (Runs.yes rfl rfl rfl hc3) rfl rfl (OV.quiet (ov_eql rfl rfl rfl)) ?_
      refine wq rfl rfl rfl (ov_pick_false rfl (guard_eq rfl hc3) rfl) ?_
      exact WL.nil ⟨Sub.cons' rfl (congrArg Value.bool (Option.some.inj hm)) (Sub.skip rfl (Sub.skip rfl (Sub.skip rfl (Sub.skip rfl (Sub.refl _))))), fun _ s => s⟩
    refine WL.nil (then_normal ?_)
    refine WP.cond rfl (fun hc4 => ?_) (fun hc4 => ?_)
    ·
     replace hm := ite_t hc4 hm
     refine WP.seq (WP.region ?_)
     refine wq rfl rfl rfl (ov_move rfl rfl) ?_
     obtain ⟨s1, e4, hm⟩ := bind_some hm
     refine wq rfl rfl rfl (ov_slice_string_from Tryz.underlying9 rfl rfl rfl e4) ?_
     refine wq rfl rfl rfl (ov_assign rfl rfl) ?_
     refine WL.nil (then_normal (WP.seq (WP.region ?_)))
     refine wq rfl rfl rfl (ov_move rfl rfl) ?_
     refine wq rfl rfl rfl (ov_len_string Tryz.underlying9 rfl rfl) ?_
     refine wq rfl rfl rfl (ov_lss rfl rfl rfl) ?_
     refine WL.nil (then_normal ?_)
     refine WP.cond rfl (fun hc5 => ?_) (fun hc5 => ?_)
     ·
      replace hm := ite_t hc5 hm
      exact (none_some hm).elim
     ·
      replace hm := ite_f hc5 hm
      refine WP.skip (then_normal ?_)
      exact ⟨s1, (Sub.cons rfl (Sub.cons rfl (Sub.cons rfl (Sub.nil _)))), fun w' s => s, hm⟩
    ·
     replace hm := ite_f hc4 hm
     refine WP.skip (then_normal ?_)
     exact ⟨p_s, (Sub.cons rfl (Sub.cons rfl (Sub.cons rfl (Sub.nil _)))), fun w' s => s, hm⟩
   ·
    rintro g' S' ⟨s2, hsub1, hS1, hm⟩
    refine WP.sub hsub1 (WP.weaken hS1 ?_)
    replace hm := (congrFun hk2 s2).symm.trans hm
    refine WP.seq (WP.region ?_)
    refine wq rfl rfl rfl (ov_assign rfl rfl) ?_
    refine WL.nil (then_normal ?_)
    obtain ⟨k3, hk3, hm⟩ := joinK_some hm
    refine WP.seq_join (fun g' S' => ∃ (H2 : Heap) (i3 : Int), Le H H2 ∧ Sub [(5, (mkS p_s)), (6, (.int .i64 i3)), (1000000007, (.bool false))] g' ∧ (∀ w', S' w' → St w H [] H2 w') ∧ k3 i3 = some r) ?_ ?_
    ·
     skip
     refine WP.seq (WP.region ?_)
     refine wq rfl rfl rfl (ov_move rfl rfl) ?_
     refine WL.step (Runs.free rfl) rfl rfl (os_bytes Tryz.underlying9 Tryz.underlying59 Tryz.underlying5 rfl rfl (fun ao1 cap1 H1 hle1 h1 hc6 => ?_))
     replace hG := hG.mono hle1
     refine wq rfl rfl rfl (ov_len_slice Tryz.underlying59 rfl rfl) ?_
     refine wq rfl rfl rfl (ov_move rfl rfl) ?_
     refine WL.nil (then_normal (WP.block ?_))
     refine WP.loop (fun m1 g' S' => ∃ (i1 : Int) (i2 : Int), Sub [(5, (mkS p_s)), (6, (.int .i64 i1)), (47, (.slice ao1 (bytesI s2).length cap1)), (48, (.int .i64 ((bytesI s2).length : Int))), (49, (.int .i64 i2)), (1000000007, (.bool false))] g' ∧ (∀ w', S' w' → St w H [] H1 w') ∧ internal_strconv_Atoi_loop1 s2 k3 m1 i1 i2 = some r) ((Int.toNat (((bytesI s2).length : Int) - 0) + 1)) ⟨0, 0, (Sub.cons rfl (Sub.cons rfl (Sub.cons rfl (Sub.cons rfl (Sub.cons rfl (Sub.cons rfl (Sub.nil _))))))), fun w' s => s, hm⟩ ?_ ?_
     ·
      rintro g' S' ⟨_, _, _, _, hm⟩
      exact none_some hm
     ·
      rintro m1 g' S' ⟨i1, i2, hsub2, hS2, hm⟩
      refine WP.sub hsub2 (WP.weaken hS2 ?_)
      rw [internal_strconv_Atoi_loop1] at hm
      refine WP.seq (WP.region ?_)
      refine wq rfl rfl rfl (ov_lss rfl rfl rfl) ?_
      refine WL.nil (then_normal (WP.seq ?_))
      refine WP.cond rfl (fun hc7 => ?_) (fun hc7 => ?_)
      ·
       replace hm := ite_t hc7 hm
       refine WP.skip (then_normal (WP.seq (WP.block (WP.seq (WP.region ?_)))))
       obtain ⟨x1, e5, hm⟩ := bind_some hm
       obtain ⟨h2, h3, h4, cs1, h5, h6⟩ := h1.get e5 (by decide)
       obtain rfl : cs1 = [(.int .u8 x1)] := h5
       refine wq rfl rfl rfl (ov_indexAddr Tryz.underlying59 Tryz.sizeOf5 rfl rfl rfl h2 h3 h4) ?_
       refine wq rfl rfl rfl (ov_load_elem (v := (.int .u8 x1)) Tryz.isAgg5 rfl rfl h6) ?_
       refine wq rfl rfl rfl (ov_assign rfl rfl) ?_
       refine WL.nil (then_normal (WP.seq (WP.region ?_)))
       refine wq rfl rfl rfl (ov_move rfl rfl) ?_
       refine wq rfl rfl rfl (ov_sub rfl rfl rfl) ?_
       refine wq rfl rfl rfl (ov_assign rfl rfl) ?_
       refine WL.nil (then_normal (WP.seq (WP.seq (WP.region ?_))))
       refine wq rfl rfl rfl (ov_move rfl rfl) ?_
       refine wq rfl rfl rfl (ov_gtr rfl rfl rfl) ?_
       refine WL.nil (then_normal ?_)
       refine WP.cond rfl (fun hc8 => ?_) (fun hc8 => ?_)
       ·
        replace hm := ite_t hc8 hm
        exact (none_some hm).elim
       ·
        replace hm := ite_f hc8 hm
        refine WP.skip (then_normal (WP.region ?_))
        refine wq rfl rfl rfl (ov_move rfl rfl) ?_
        refine wq rfl rfl rfl (ov_mul rfl rfl rfl) ?_
        refine wq rfl rfl rfl (ov_move rfl rfl) ?_
        refine wq rfl rfl rfl (ov_convert_int Tryz.underlying5 Tryz.underlying3 rfl rfl) ?_
        refine wq rfl rfl rfl (ov_add rfl rfl rfl) ?_
        refine wq rfl rfl rfl (ov_assign rfl rfl) ?_
        refine WL.nil (block_normal (then_normal (WP.region ?_)))
        refine wq rfl rfl rfl (ov_add rfl rfl rfl) ?_
        refine wq rfl rfl rfl (ov_move rfl rfl) ?_
        refine WL.nil (then_normal ?_)
        exact ⟨(IntKind.wrap .i64 ((IntKind.wrap .i64 (i1 * 10)) + (IntKind.wrap .i64 (IntKind.wrap .u8 (x1 - 48))))), (IntKind.wrap .i64 (i2 + 1)), (Sub.cons rfl (Sub.cons rfl (Sub.cons rfl (Sub.cons rfl (Sub.cons rfl (Sub.cons rfl (Sub.nil _))))))), fun w' s => s, hm⟩
      ·
       replace hm := ite_f hc7 hm
       refine WP.exit (then_exit (then_exit (block_here (then_normal ?_))))
       exact ⟨H1, i1, hle1, (Sub.cons rfl (Sub.cons rfl (Sub.cons rfl (Sub.nil _)))), fun w' s => s, hm⟩
    ·
     rintro g' S' ⟨H2, i3, hle2, hsub3, hS3, hm⟩
     refine WP.sub hsub3 (WP.weaken hS3 ?_)
     replace hm := (congrFun hk3 i3).symm.trans hm
     replace hG := hG.mono hle2
     obtain ⟨k4, hk4, hm⟩ := joinK_some hm
     refine WP.seq_join (fun g' S' => ∃ (i4 : Int), Sub [(6, (.int .i64 i4)), (1000000007, (.bool false))] g' ∧ (∀ w', S' w' → St w H [] H2 w') ∧ k4 i4 = some r) ?_ ?_
     ·
      skip
      refine WP.seq (WP.region ?_)
      refine wq rfl rfl rfl (ov_move rfl rfl) ?_
      obtain ⟨b3, e6, hm⟩ := bind_some hm
      refine wq rfl rfl rfl (ov_index_string Tryz.underlying9 rfl rfl rfl e6) ?_
      refine wq rfl rfl rfl (ov_eql rfl rfl rfl) ?_
      refine WL.nil (then_normal ?_)
      refine WP.cond rfl (fun hc9 => ?_) (fun hc9 => ?_)
      ·
       replace hm := ite_t hc9 hm
       refine WP.region ?_
       refine wq rfl rfl rfl (ov_move rfl rfl) ?_
       refine wq rfl rfl rfl (ov_neg rfl rfl) ?_
       refine wq rfl rfl rfl (ov_assign rfl rfl) ?_
       refine WL.nil (then_normal ?_)
       exact ⟨(IntKind.wrap .i64 (0 - i3)), (Sub.cons rfl (Sub.cons rfl (Sub.nil _))), fun w' s => s, hm⟩
      ·
       replace hm := ite_f hc9 hm
       refine WP.skip (then_normal ?_)
       exact ⟨i3, (Sub.cons rfl (Sub.cons rfl (Sub.nil _))), fun w' s => s, hm⟩
     ·
      rintro g' S' ⟨i4, hsub4, hS4, hm⟩
      refine WP.sub hsub4 (WP.weaken hS4 ?_)
      replace hm := (congrFun hk4 i4).symm.trans hm
      refine WP.seq (WP.region ?_)
      refine wq rfl rfl rfl (ov_move rfl rfl) ?_
      refine wq rfl rfl rfl (ov_assign rfl rfl) ?_
      refine wq rfl rfl rfl (ov_assign rfl rfl) ?_
      refine WL.nil (then_normal (WP.ret (then_ret ?_)))
      obtain rfl := Option.some.inj hm
      refine retQ_ret Tryz.results102 (Res.tmp rfl (Res.tmp rfl Res.nil)) rfl (fun w' s => ⟨s.below, ?_⟩)
      exact rfl
  ·
   replace hm := ite_f hc2 hm
   refine WP.skip (then_normal ?_)
   exact ⟨(Sub.cons rfl (Sub.cons rfl (Sub.nil _))), fun w' s => s, hm⟩
 ·
  rintro g' S' ⟨hsub5, hS5, hm⟩
  refine WP.sub hsub5 (WP.weaken hS5 ?_)
  replace hm := hk1.symm.trans hm
  exact (none_some hm).elim

theorem strconv_Atoi_con (p_s : (List UInt8)) (w : World) (H : Heap) (hH : Le H (hp w)) (hG : Glob H) (r : (Int × Unit)) (hm : strconv_Atoi p_s = some r) :
  Con Tryz.prog 76 [(mkS p_s)] w H (fun v _ => v = (.tuple #[(.int .i64 r.1), .nilIface])) := by
 unfold strconv_Atoi at hm
 refine con_of hH Tryz.func76 rfl 18 Tryz.ntmps76 rfl ?_
 refine WP.seq (WP.region ?_)
 refine wq rfl rfl rfl (ov_assign rfl rfl) ?_
 refine wq rfl rfl rfl (ov_assign rfl rfl) ?_
 refine WL.nil (then_normal (WP.seq (WP.region ?_)))
 refine wq rfl rfl rfl (ov_move rfl rfl) ?_
 obtain ⟨r1, e1, hm⟩ := bind_some hm
 refine WL.quiet (Runs.free rfl) rfl rfl (oq_con (r := (.tuple #[(.int .i64 r1.1), .nilIface])) Tryz.call102 rfl rfl (fun w' s => ⟨_, (internal_strconv_Atoi_con p_s  w' H s.hold hG r1 e1)⟩)) ?_
 refine wq rfl rfl rfl (ov_move rfl rfl) ?_
 refine wq rfl rfl rfl (ov_extract rfl rfl rfl) ?_
 refine wq rfl rfl rfl (ov_extract rfl rfl rfl) ?_
 refine wq rfl rfl rfl (ov_assign rfl rfl) ?_
 refine wq rfl rfl rfl (ov_assign rfl rfl) ?_
 refine WL.nil (then_normal (WP.seq (WP.seq (WP.region ?_))))
 refine wq rfl rfl rfl (ov_move rfl rfl) ?_
 refine wq rfl rfl rfl (ov_neq_nilI (by kernel_rfl) rfl rfl rfl) ?_
 refine WL.nil (then_normal (WP.cond_false rfl (WP.skip (then_normal (WP.seq (WP.region ?_))))))
 refine wq rfl rfl rfl (ov_move rfl rfl) ?_
 refine wq rfl rfl rfl (ov_assign rfl rfl) ?_
 refine wq rfl rfl rfl (ov_assign rfl rfl) ?_
 refine WL.nil (then_normal (WP.ret ?_))
 obtain rfl := Option.some.inj hm
 refine retQ_ret Tryz.results76 (Res.tmp rfl (Res.tmp rfl Res.nil)) rfl (fun w' s => ⟨s.below, ?_⟩)
 exact rfl

theorem journal_in_con (p_n : Int) (p_least : Int) (p_most : Int) (w : World) (H : Heap) (hH : Le H (hp w)) (hG : Glob H) (r : Bool) (hm : journal_in p_n p_least p_most = some r) :
  Con Tryz.prog 65 [(.int .i64 p_n), (.int .i64 p_least), (.int .i64 p_most)] w H (fun v _ => v = (.bool r)) := by
 unfold journal_in at hm
 refine con_of hH Tryz.func65 rfl 15 Tryz.ntmps65 rfl ?_
 refine WP.seq (WP.region ?_)
 refine wq rfl rfl rfl (ov_assign rfl rfl) ?_
 refine WL.nil (then_normal (WP.seq (WP.region ?_)))
 refine wq rfl rfl rfl (ov_move rfl rfl) ?_
 refine wq rfl rfl rfl (ov_move rfl rfl) ?_
 refine wq rfl rfl rfl (ov_geq rfl rfl rfl) ?_
 refine wq rfl rfl rfl (ov_move rfl rfl) ?_
 refine WL.cut_bool 4 14 (x := ((decide (p_n ≥ p_least)) && (decide (p_n ≤ p_most)))) ?_ ?_
 ·
  rcases Bool.eq_false_or_eq_true (decide (p_n ≥ p_least)) with hc1 | hc1
  ·
   skip
   refine WL.quiet (Runs.yes rfl rfl rfl hc1) rfl rfl (OV.quiet (ov_move rfl rfl)) ?_
   refine WL.quiet (Runs.yes rfl rfl rfl hc1) rfl rfl (OV.quiet (ov_move rfl rfl)) ?_
   refine WL.quiet (Runs.yes rfl rfl rfl hc1) rfl rfl (OV.quiet (ov_leq rfl rfl rfl)) ?_
   refine wq rfl rfl rfl (ov_pick_true rfl (guard_eq rfl hc1) rfl) ?_
   exact WL.nil ⟨Sub.cons' rfl (congrArg Value.bool (andT hc1)) (Sub.skip rfl (Sub.skip rfl (Sub.skip rfl (Sub.skip rfl (Sub.refl _))))), fun _ s => s⟩
  ·
   skip
   refine WL.idle (Idle.no rfl rfl rfl hc1) rfl rfl ?_
   refine WL.idle (Idle.no rfl rfl rfl hc1) rfl rfl ?_
   refine WL.idle (Idle.no rfl rfl rfl hc1) rfl rfl ?_
   refine wq rfl rfl rfl (ov_pick_false rfl (guard_eq rfl hc1) rfl) ?_
   exact WL.nil ⟨Sub.cons' rfl (congrArg Value.bool (andF hc1)) (Sub.skip rfl (Sub.skip rfl (Sub.skip rfl (Sub.skip rfl (Sub.refl _))))), fun _ s => s⟩
 refine wq rfl rfl rfl (ov_assign rfl rfl) ?_
 refine WL.nil (then_normal (WP.ret ?_))
 obtain rfl := Option.some.inj hm
 refine retQ_ret Tryz.results65 (Res.tmp rfl Res.nil) rfl (fun w' s => ⟨s.below, ?_⟩)
 exact rfl

theorem lexer_class_con (p_b : Int) (w : World) (H : Heap) (hH : Le H (hp w)) (hG : Glob H) (r : Int) (hm : lexer_class p_b = some r) :
  Con Tryz.prog 95 [(.int .u8 p_b)] w H (fun v _ => v = (.int .i64 r)) := by
 unfold lexer_class at hm
 refine con_of hH Tryz.func95 rfl 28 Tryz.ntmps95 rfl ?_
 refine WP.seq (WP.region ?_)
 refine wq rfl rfl rfl (ov_assign rfl rfl) ?_
 refine WL.nil (then_normal ?_)
 obtain ⟨k1, hk1, hm⟩ := joinK_some hm
 refine WP.seq_join (fun g' S' => Sub [(0, (.int .u8 p_b)), (1000000007, (.bool false))] g' ∧ (∀ w', S' w' → St w H [] H w') ∧ k1 = some r) ?_ ?_
 ·
  skip
  refine WP.seq (WP.region ?_)
  refine wq rfl rfl rfl (ov_move rfl rfl) ?_
  refine WL.nil (then_normal (WP.block ?_))
  refine WP.loop (fun m1 g' S' => ∃ (i1 : Int), Sub [(0, (.int .u8 p_b)), (5, (.int .i64 i1)), (1000000007, (.bool false))] g' ∧ (∀ w', S' w' → St w H [] H w') ∧ lexer_class_loop1 p_b k1 m1 i1 = some r) ((Int.toNat (6 - 0) + 1)) ⟨0, (Sub.cons rfl (Sub.cons rfl (Sub.cons rfl (Sub.nil _)))), fun w' s => s, hm⟩ ?_ ?_
  ·
   rintro g' S' ⟨_, _, _, hm⟩
   exact none_some hm
  ·
   rintro m1 g' S' ⟨i1, hsub1, hS1, hm⟩
   refine WP.sub hsub1 (WP.weaken hS1 ?_)
   rw [lexer_class_loop1] at hm
   refine WP.seq (WP.region ?_)
   refine wq rfl rfl rfl (ov_lss rfl rfl rfl) ?_
   refine WL.nil (then_normal (WP.seq ?_))
   refine WP.cond rfl (fun hc1 => ?_) (fun hc1 => ?_)
   ·
    replace hm := ite_t hc1 hm
    refine WP.skip (then_normal (WP.seq (WP.block (WP.seq (WP.region ?_)))))
    refine wq rfl rfl rfl (ov_move rfl rfl) ?_
    refine wq rfl rfl rfl (ov_assign rfl rfl) ?_
    refine WL.nil (then_normal (WP.seq (WP.region ?_)))
    refine wq rfl rfl rfl (ov_move rfl rfl) ?_
    obtain ⟨x1, e1, hm⟩ := bind_some hm
    obtain ⟨h1, h2, h3, cs1, h4, h5⟩ := hG.1.get e1 (by decide)
    obtain rfl : cs1 = [(.int .u8 x1.a0), (.int .u8 x1.a1), (.int .u8 x1.a2)] := h4
    refine wq rfl rfl rfl (ov_indexAddr_globL rfl Tryz.underlying159 Tryz.sizeOf158 rfl rfl rfl h1 h2) ?_
    refine wq rfl rfl rfl (ov_load_elems (vs := [(.int .u8 x1.a0), (.int .u8 x1.a1), (.int .u8 x1.a2)]) Tryz.isAgg158 Tryz.sizeOf158 rfl rfl rfl h5 h3) ?_
    refine WL.step (Runs.free rfl) rfl rfl (os_alloc (cs := [(.int .u8 0), (.int .u8 0), (.int .u8 0)]) Tryz.zeroValue158 rfl rfl (fun b1 => ?_))
    refine WL.step0 (Runs.free rfl) rfl (os_store (i := 0) (vs := [(.int .u8 x1.a0), (.int .u8 x1.a1), (.int .u8 x1.a2)]) (cs' := [(.int .u8 x1.a0), (.int .u8 x1.a1), (.int .u8 x1.a2)]) Tryz.sizeOf158 rfl rfl rfl rfl rfl rfl rfl rfl rfl ?_)
    refine WL.nil (then_normal (WP.seq (WP.region ?_)))
    refine wq rfl rfl rfl (ov_indexAddr_arr Tryz.underlying158 Tryz.sizeOf5 rfl rfl rfl (by decide) (by decide)) ?_
    refine wq rfl rfl rfl (ov_load_box (i := 0) Tryz.isAgg5 rfl rfl rfl rfl) ?_
    refine wq rfl rfl rfl (ov_move rfl rfl) ?_
    refine wq rfl rfl rfl (ov_leq rfl rfl rfl) ?_
    refine wq rfl rfl rfl (ov_move rfl rfl) ?_
    refine WL.cut_bool 5 20 (x := ((decide (x1.a0 ≤ p_b)) && (decide (p_b ≤ x1.a1)))) ?_ ?_
    ·
     rcases Bool.eq_false_or_eq_true (decide (x1.a0 ≤ p_b)) with hc2 | hc2
     ·
      skip
      refine WL.quiet (Runs.yes rfl rfl rfl hc2) rfl rfl (OV.quiet (ov_move rfl rfl)) ?_
      refine WL.quiet (Runs.yes rfl rfl rfl hc2) rfl rfl (OV.quiet (ov_indexAddr_arr Tryz.underlying158 Tryz.sizeOf5 rfl rfl rfl (by decide) (by decide))) ?_
      refine WL.quiet (Runs.yes rfl rfl rfl hc2) rfl rfl (OV.quiet (ov_load_box (i := 0) Tryz.isAgg5 rfl rfl rfl rfl)) ?_
      refine WL.quiet (Runs.yes rfl rfl rfl hc2) rfl rfl (OV.quiet (ov_leq rfl rfl rfl)) ?_
      refine wq rfl rfl rfl (ov_pick_true rfl (guard_eq rfl hc2) rfl) ?_
      exact WL.nil ⟨Sub.cons' rfl (congrArg Value.bool (andT hc2)) (Sub.skip rfl (Sub.skip rfl (Sub.skip rfl (Sub.skip rfl (Sub.skip rfl (Sub.refl _)))))), fun _ s => s⟩
     ·
      skip
      refine WL.idle (Idle.no rfl rfl rfl hc2) rfl rfl ?_
      refine WL.idle (Idle.no rfl rfl rfl hc2) rfl rfl ?_
      refine WL.idle (Idle.no rfl rfl rfl hc2) rfl rfl ?_
      refine WL.idle (Idle.no rfl rfl rfl hc2) rfl rfl ?_
      refine wq rfl rfl rfl (ov_pick_false rfl (guard_eq rfl hc2) rfl) ?_
      exact WL.nil ⟨Sub.cons' rfl (congrArg Value.bool (andF hc2)) (Sub.skip rfl (Sub.skip rfl (Sub.skip rfl (Sub.skip rfl (Sub.skip rfl (Sub.refl _)))))), fun _ s => s⟩
    refine WL.nil (then_normal ?_)
    refine WP.cond rfl (fun hc3 => ?_) (fun hc3 => ?_)
    ·
     replace hm := ite_t hc3 hm
     refine WP.seq (WP.region ?_)
     refine wq rfl rfl rfl (ov_indexAddr_arr Tryz.underlying158 Tryz.sizeOf5 rfl rfl rfl (by decide) (by decide)) ?_
     refine wq rfl rfl rfl (ov_load_box (i := 0) Tryz.isAgg5 rfl rfl rfl rfl) ?_
     refine wq rfl rfl rfl (ov_convert_int Tryz.underlying5 Tryz.underlying3 rfl rfl) ?_
     refine wq rfl rfl rfl (ov_assign rfl rfl) ?_
     refine WL.nil (then_normal (WP.ret (block_ret (then_ret (then_ret (block_ret (then_ret ?_)))))))
     obtain rfl := Option.some.inj hm
     refine retQ_ret Tryz.results95 (Res.tmp rfl Res.nil) rfl (fun w' s => ⟨s.below, ?_⟩)
     exact rfl
    ·
     replace hm := ite_f hc3 hm
     refine WP.skip (block_normal (then_normal (WP.region ?_)))
     refine wq rfl rfl rfl (ov_add rfl rfl rfl) ?_
     refine wq rfl rfl rfl (ov_move rfl rfl) ?_
     refine WL.nil (then_normal ?_)
     exact ⟨(IntKind.wrap .i64 (i1 + 1)), (Sub.cons rfl (Sub.cons rfl (Sub.cons rfl (Sub.nil _)))), fun w' s => (s.select [] (by decide) rfl), hm⟩
   ·
    replace hm := ite_f hc1 hm
    refine WP.exit (then_exit (then_exit (block_here (then_normal ?_))))
    exact ⟨(Sub.cons rfl (Sub.cons rfl (Sub.nil _))), fun w' s => s, hm⟩
 ·
  rintro g' S' ⟨hsub2, hS2, hm⟩
  refine WP.sub hsub2 (WP.weaken hS2 ?_)
  replace hm := hk1.symm.trans hm
  refine WP.seq (WP.seq (WP.region ?_))
  refine wq rfl rfl rfl (ov_move rfl rfl) ?_
  obtain ⟨r1, e2, hm⟩ := bind_some hm
  refine WL.quiet (Runs.free rfl) rfl rfl (oq_con (r := (.int .i64 r1)) Tryz.call116 rfl rfl (fun w' s => ⟨_, (idxB_con [43, 45, 42, 47, 40, 41, 91, 93, 123, 125, 60, 62, 61, 44, 59, 58, 124, 38, 33, 35, 46] p_b  w' H s.hold hG r1 e2)⟩)) ?_
  refine wq rfl rfl rfl (ov_geq rfl rfl rfl) ?_
  refine WL.nil (then_normal ?_)
  refine WP.cond rfl (fun hc4 => ?_) (fun hc4 => ?_)
  ·
   replace hm := ite_t hc4 hm
   refine WP.seq (WP.region ?_)
   refine wq rfl rfl rfl (ov_assign rfl rfl) ?_
   refine WL.nil (then_normal (WP.ret (then_ret ?_)))
   obtain rfl := Option.some.inj hm
   refine retQ_ret Tryz.results95 (Res.tmp rfl Res.nil) rfl (fun w' s => ⟨s.below, ?_⟩)
   exact rfl
  ·
   replace hm := ite_f hc4 hm
   refine WP.skip (then_normal (WP.seq (WP.region ?_)))
   refine wq rfl rfl rfl (ov_assign rfl rfl) ?_
   refine WL.nil (then_normal (WP.ret ?_))
   obtain rfl := Option.some.inj hm
   refine retQ_ret Tryz.results95 (Res.tmp rfl Res.nil) rfl (fun w' s => ⟨s.below, ?_⟩)
   exact rfl

theorem lexer_run_con (p_s : (List UInt8)) (p_classes : (List Int)) (ao1 : Option Addr) (cap1 : Nat) (w : World) (H : Heap) (hH : Le H (hp w)) (h1 : SL H (encInt .i64) ao1 p_classes) (hc1 : p_classes.length ≤ cap1) (hG : Glob H) (r : Int) (hm : lexer_run p_s p_classes = some r) :
  Con Tryz.prog 96 [(mkS p_s), (.slice ao1 p_classes.length cap1)] w H (fun v _ => v = (.int .i64 r)) := by
 unfold lexer_run at hm
 refine con_of hH Tryz.func96 rfl 36 Tryz.ntmps96 rfl ?_
 refine WP.seq (WP.region ?_)
 refine wq rfl rfl rfl (ov_assign rfl rfl) ?_
 refine WL.nil (then_normal ?_)
 obtain ⟨k1, hk1, hm⟩ := joinK_some hm
 refine WP.seq_join (fun g' S' => Sub [(0, (mkS p_s)), (1000000007, (.bool false))] g' ∧ (∀ w', S' w' → St w H [] H w') ∧ k1 = some r) ?_ ?_
 ·
  skip
  refine WP.seq (WP.region ?_)
  refine wq rfl rfl rfl (ov_move rfl rfl) ?_
  refine wq rfl rfl rfl (ov_len_string Tryz.underlying9 rfl rfl) ?_
  refine wq rfl rfl rfl (ov_move rfl rfl) ?_
  refine WL.nil (then_normal (WP.block ?_))
  refine WP.loop (fun m1 g' S' => ∃ (i1 : Int), Sub [(0, (mkS p_s)), (1, (.slice ao1 p_classes.length cap1)), (10, (.int .i64 (p_s.length : Int))), (11, (.int .i64 i1)), (1000000007, (.bool false))] g' ∧ (∀ w', S' w' → St w H [] H w') ∧ lexer_run_loop1 p_s p_classes k1 m1 i1 = some r) ((Int.toNat ((p_s.length : Int) - 0) + 1)) ⟨0, (Sub.cons rfl (Sub.cons rfl (Sub.cons rfl (Sub.cons rfl (Sub.cons rfl (Sub.nil _)))))), fun w' s => s, hm⟩ ?_ ?_
  ·
   rintro g' S' ⟨_, _, _, hm⟩
   exact none_some hm
  ·
   rintro m1 g' S' ⟨i1, hsub1, hS1, hm⟩
   refine WP.sub hsub1 (WP.weaken hS1 ?_)
   rw [lexer_run_loop1] at hm
   refine WP.seq (WP.region ?_)
   refine wq rfl rfl rfl (ov_lss rfl rfl rfl) ?_
   refine WL.nil (then_normal (WP.seq ?_))
   refine WP.cond rfl (fun hc2 => ?_) (fun hc2 => ?_)
   ·
    replace hm := ite_t hc2 hm
    refine WP.skip (then_normal ?_)
    obtain ⟨k2, hk2, hm⟩ := joinK_some hm
    refine WP.seq_join (fun g' S' => Sub [(0, (mkS p_s)), (1, (.slice ao1 p_classes.length cap1)), (10, (.int .i64 (p_s.length : Int))), (11, (.int .i64 i1)), (1000000007, (.bool false))] g' ∧ (∀ w', S' w' → St w H [] H w') ∧ k2 = some r) ?_ ?_
    ·
     skip
     refine WP.block (WP.seq (WP.region ?_))
     refine wq rfl rfl rfl (ov_move rfl rfl) ?_
     refine wq rfl rfl rfl (ov_assign rfl rfl) ?_
     refine WL.nil (then_normal (WP.seq (WP.region ?_)))
     refine wq rfl rfl rfl (ov_assign rfl rfl) ?_
     refine WL.nil (then_normal ?_)
     obtain ⟨k3, hk3, hm⟩ := joinK_some hm
     refine WP.seq_join (fun g' S' => ∃ (c3 : Bool), Sub [(0, (mkS p_s)), (1, (.slice ao1 p_classes.length cap1)), (5, (.int .i64 i1)), (6, (.bool c3)), (10, (.int .i64 (p_s.length : Int))), (11, (.int .i64 i1)), (1000000007, (.bool false))] g' ∧ (∀ w', S' w' → St w H [] H w') ∧ k3 c3 = some r) ?_ ?_
     ·
      skip
      refine WP.seq (WP.region ?_)
      refine wq rfl rfl rfl (ov_move rfl rfl) ?_
      refine wq rfl rfl rfl (ov_len_slice Tryz.underlying160 rfl rfl) ?_
      refine wq rfl rfl rfl (ov_move rfl rfl) ?_
      refine WL.nil (then_normal (WP.block ?_))
      refine WP.loop (fun m2 g' S' => ∃ (c1 : Bool) (i2 : Int), Sub [(0, (mkS p_s)), (1, (.slice ao1 p_classes.length cap1)), (5, (.int .i64 i1)), (6, (.bool c1)), (10, (.int .i64 (p_s.length : Int))), (11, (.int .i64 i1)), (14, (.slice ao1 p_classes.length cap1)), (15, (.int .i64 (p_classes.length : Int))), (16, (.int .i64 i2)), (1000000007, (.bool false))] g' ∧ (∀ w', S' w' → St w H [] H w') ∧ lexer_run_loop2 p_s p_classes i1 k3 m2 c1 i2 = some r) ((Int.toNat ((p_classes.length : Int) - 0) + 1)) ⟨false, 0, (Sub.cons rfl (Sub.cons rfl (Sub.cons rfl (Sub.cons rfl (Sub.cons rfl (Sub.cons rfl (Sub.cons rfl (Sub.cons rfl (Sub.cons rfl (Sub.cons rfl (Sub.nil _))))))))))), fun w' s => s, hm⟩ ?_ ?_
      ·
       rintro g' S' ⟨_, _, _, _, hm⟩
       exact none_some hm
      ·
       rintro m2 g' S' ⟨c1, i2, hsub2, hS2, hm⟩
       refine WP.sub hsub2 (WP.weaken hS2 ?_)
       rw [lexer_run_loop2] at hm
       refine WP.seq (WP.region ?_)
       refine wq rfl rfl rfl (ov_lss rfl rfl rfl) ?_
       refine WL.nil (then_normal (WP.seq ?_))
       refine WP.cond rfl (fun hc3 => ?_) (fun hc3 => ?_)
       ·
        replace hm := ite_t hc3 hm
        refine WP.skip (then_normal (WP.seq (WP.block (WP.seq (WP.region ?_)))))
        obtain ⟨x1, e1, hm⟩ := bind_some hm
        obtain ⟨h2, h3, h4, cs1, h5, h6⟩ := h1.get e1 (by decide)
        obtain rfl : cs1 = [(.int .i64 x1)] := h5
        refine wq rfl rfl rfl (ov_indexAddr Tryz.underlying160 Tryz.sizeOf3 rfl rfl rfl h2 h3 h4) ?_
        refine wq rfl rfl rfl (ov_load_elem (v := (.int .i64 x1)) Tryz.isAgg3 rfl rfl h6) ?_
        refine wq rfl rfl rfl (ov_assign rfl rfl) ?_
        refine WL.nil (then_normal (WP.region ?_))
        refine wq rfl rfl rfl (ov_move rfl rfl) ?_
        refine wq rfl rfl rfl (ov_move rfl rfl) ?_
        obtain ⟨c2, e2, hm⟩ := bind_some hm
        refine WL.cut_bool 7 28 (x := c2) ?_ ?_
        ·
         rcases Bool.eq_false_or_eq_true c1 with hc4 | hc4
         ·
          skip
          replace hm := ite_t hc4 e2
          refine WL.idle (Idle.no rfl rfl rfl hc4) rfl rfl ?_
          refine WL.idle (Idle.no rfl rfl rfl hc4) rfl rfl ?_
          refine WL.idle (Idle.no rfl rfl rfl hc4) rfl rfl ?_
          refine WL.idle (Idle.no rfl rfl rfl hc4) rfl rfl ?_
          refine WL.idle (Idle.no rfl rfl rfl hc4) rfl rfl ?_
          refine WL.idle (Idle.no rfl rfl rfl hc4) rfl rfl ?_
          refine wq rfl rfl rfl (ov_pick_true rfl (guard_eq rfl hc4) rfl) ?_
          exact WL.nil ⟨Sub.cons' rfl (congrArg Value.bool (Option.some.inj hm)) (Sub.skip rfl (Sub.skip rfl (Sub.skip rfl (Sub.skip rfl (Sub.skip rfl (Sub.skip rfl (Sub.skip rfl (Sub.refl _)))))))), fun _ s => s⟩
         ·
          skip
          replace hm := ite_f hc4 e2
          refine WL.quiet (Runs.yes rfl rfl rfl hc4) rfl rfl (OV.quiet (ov_move rfl rfl)) ?_
          refine WL.quiet (Runs.yes rfl rfl rfl hc4) rfl rfl (OV.quiet (ov_move rfl rfl)) ?_
          obtain ⟨b1, e3, hm⟩ := bind_some hm
          refine WL.quiet (Runs.yes rfl rfl rfl hc4) rfl rfl (OV.quiet (ov_index_string Tryz.underlying9 rfl rfl rfl e3)) ?_
          obtain ⟨r1, e4, hm⟩ := bind_some hm
          refine WL.quiet (Runs.yes rfl rfl rfl hc4) rfl rfl (oq_con (r := (.int .i64 r1)) Tryz.call95 rfl rfl (fun w' s => ⟨_, (lexer_class_con (b1.toNat : Int)  w' H s.hold hG r1 e4)⟩)) ?_
          refine WL.quiet (Runs.yes rfl rfl rfl hc4) rfl rfl (OV.quiet (ov_move rfl rfl)) ?_
          refine WL.quiet (Runs.yes rfl rfl rfl hc4) rfl rfl (OV.quiet (ov_eql rfl rfl rfl)) ?_
          refine wq rfl rfl rfl (ov_pick_false rfl (guard_eq rfl hc4) rfl) ?_
          exact WL.nil ⟨Sub.cons' rfl (congrArg Value.bool (Option.some.inj hm)) (Sub.skip rfl (Sub.skip rfl (Sub.skip rfl (Sub.skip rfl (Sub.skip rfl (Sub.skip rfl (Sub.skip rfl (Sub.refl _)))))))), fun _ s => s⟩
        refine wq rfl rfl rfl (ov_assign rfl rfl) ?_
        refine WL.nil (block_normal (then_normal (WP.region ?_)))
        refine wq rfl rfl rfl (ov_add rfl rfl rfl) ?_
        refine wq rfl rfl rfl (ov_move rfl rfl) ?_
        refine WL.nil (then_normal ?_)
        exact ⟨c2, (IntKind.wrap .i64 (i2 + 1)), (Sub.cons rfl (Sub.cons rfl (Sub.cons rfl (Sub.cons rfl (Sub.cons rfl (Sub.cons rfl (Sub.cons rfl (Sub.cons rfl (Sub.cons rfl (Sub.cons rfl (Sub.nil _))))))))))), fun w' s => s, hm⟩
       ·
        replace hm := ite_f hc3 hm
        refine WP.exit (then_exit (then_exit (block_here (then_normal ?_))))
        exact ⟨c1, (Sub.cons rfl (Sub.cons rfl (Sub.cons rfl (Sub.cons rfl (Sub.cons rfl (Sub.cons rfl (Sub.cons rfl (Sub.nil _)))))))), fun w' s => s, hm⟩
     ·
      rintro g' S' ⟨c3, hsub3, hS3, hm⟩
      refine WP.sub hsub3 (WP.weaken hS3 ?_)
      replace hm := (congrFun hk3 c3).symm.trans hm
      refine WP.seq (WP.region ?_)
      refine wq rfl rfl rfl (ov_move rfl rfl) ?_
      refine wq rfl rfl rfl (ov_not rfl rfl) ?_
      refine WL.nil (then_normal ?_)
      refine WP.cond rfl (fun hc5 => ?_) (fun hc5 => ?_)
      ·
       replace hm := ite_t hc5 hm
       refine WP.seq (WP.region ?_)
       refine wq rfl rfl rfl (ov_move rfl rfl) ?_
       refine wq rfl rfl rfl (ov_assign rfl rfl) ?_
       refine WL.nil (then_normal (WP.ret (block_ret (then_ret (then_ret (block_ret (then_ret ?_)))))))
       obtain rfl := Option.some.inj hm
       refine retQ_ret Tryz.results96 (Res.tmp rfl Res.nil) rfl (fun w' s => ⟨s.below, ?_⟩)
       exact rfl
      ·
       replace hm := ite_f hc5 hm
       refine WP.skip (block_normal (then_normal ?_))
       exact ⟨(Sub.cons rfl (Sub.cons rfl (Sub.cons rfl (Sub.cons rfl (Sub.cons rfl (Sub.nil _)))))), fun w' s => s, hm⟩
    ·
     rintro g' S' ⟨hsub4, hS4, hm⟩
     refine WP.sub hsub4 (WP.weaken hS4 ?_)
     replace hm := hk2.symm.trans hm
     refine WP.region ?_
     refine wq rfl rfl rfl (ov_add rfl rfl rfl) ?_
     refine wq rfl rfl rfl (ov_move rfl rfl) ?_
     refine WL.nil (then_normal ?_)
     exact ⟨(IntKind.wrap .i64 (i1 + 1)), (Sub.cons rfl (Sub.cons rfl (Sub.cons rfl (Sub.cons rfl (Sub.cons rfl (Sub.nil _)))))), fun w' s => s, hm⟩
   ·
    replace hm := ite_f hc2 hm
    refine WP.exit (then_exit (then_exit (block_here (then_normal ?_))))
    exact ⟨(Sub.cons rfl (Sub.cons rfl (Sub.nil _))), fun w' s => s, hm⟩
 ·
  rintro g' S' ⟨hsub5, hS5, hm⟩
  refine WP.sub hsub5 (WP.weaken hS5 ?_)
  replace hm := hk1.symm.trans hm
  refine WP.seq (WP.region ?_)
  refine wq rfl rfl rfl (ov_move rfl rfl) ?_
  refine wq rfl rfl rfl (ov_len_string Tryz.underlying9 rfl rfl) ?_
  refine wq rfl rfl rfl (ov_assign rfl rfl) ?_
  refine WL.nil (then_normal (WP.ret ?_))
  obtain rfl := Option.some.inj hm
  refine retQ_ret Tryz.results96 (Res.tmp rfl Res.nil) rfl (fun w' s => ⟨s.below, ?_⟩)
  exact rfl

end Go.Proofs.YtpigfknmlmeihaaGreatDoor.W
