/- The walks. Written by our own program gen.py; Lean checks it. -/
import Derived.Test.YtcgmhlakihjbkaaGreatDoorPlain
import Derived.Test.YtcgmhlakihjbkaaGreatDoorEqs
import Derived.Test.YtcgmhlakihjbkaaGreatDoorProg
import Derived.Test.YtcgmhlakihjbkaaGreatDoorExt
import Derived.Test.YtcgmhlakihjbkaaGreatDoorClone
import Derived.Test.YtcgmhlakihjbkaaGreatDoorInsert
import Derived.Test.YtcgmhlakihjbkaaGreatDoorBuild
import Derived.Test.YtcgmhlakihjbkaaGreatDoorWalk0
import Derived.Test.YtcgmhlakihjbkaaGreatDoorWalk1
import Derived.Test.YtcgmhlakihjbkaaGreatDoorWalk2
set_option linter.unusedVariables false
set_option maxRecDepth 100000
set_option maxHeartbeats 4000000
namespace Go.Proofs.YtcgmhlakihjbkaaGreatDoor.W
open Go Go.RowKit
theorem strconv_Atoi_con (p_s : (List UInt8)) (w : World) (H : Heap) (hH : Le H (hp w)) (hG : Glob H) (r : (Int × Unit)) (hm : strconv_Atoi p_s = some r) :
  Con Tryz.prog 99 [(mkS p_s)] w H (fun v _ => v = (.tuple #[(.int .i64 r.1), .nilIface])) := by
 unfold strconv_Atoi at hm
 refine con_of hH Tryz.func99 rfl 18 Tryz.ntmps99 rfl ?_
 refine WP.seq (WP.region ?_)
 refine wq rfl rfl rfl (ov_assign rfl rfl) ?_
 refine wq rfl rfl rfl (ov_assign rfl rfl) ?_
 refine WL.nil (then_normal (WP.seq (WP.region ?_)))
 refine wq rfl rfl rfl (ov_move rfl rfl) ?_
 obtain ⟨r1, e1, hm⟩ := bind_some hm
 refine WL.quiet (Runs.free rfl) rfl rfl (oq_con (r := (.tuple #[(.int .i64 r1.1), .nilIface])) Tryz.call111 rfl rfl (fun w' s => ⟨_, (internal_strconv_Atoi_con p_s  w' H s.hold hG r1 e1)⟩)) ?_
 refine wq rfl rfl rfl (ov_move rfl rfl) ?_
 refine wq rfl rfl rfl (ov_extract rfl rfl rfl) ?_
 refine wq rfl rfl rfl (ov_extract rfl rfl rfl) ?_
 refine wq rfl rfl rfl (ov_assign rfl rfl) ?_
 refine wq rfl rfl rfl (ov_assign rfl rfl) ?_
 refine WL.nil (then_normal (WP.seq (WP.seq (WP.region ?_))))
 refine wq rfl rfl rfl (ov_move rfl rfl) ?_
 refine wq rfl rfl rfl (ov_neq_nilI (by kernel_rfl) rfl rfl rfl) ?_
 refine WL.nil (then_normal (WP.cond_false rfl (WP.skip (then_normal (WP.seq (WP.region ?_))))))
 refine wq rfl rfl rfl (ov_move rfl rfl) ?_
 refine wq rfl rfl rfl (ov_assign rfl rfl) ?_
 refine wq rfl rfl rfl (ov_assign rfl rfl) ?_
 refine WL.nil (then_normal (WP.ret ?_))
 obtain rfl := Option.some.inj hm
 refine retQ_ret Tryz.results99 (Res.tmp rfl (Res.tmp rfl Res.nil)) rfl (fun w' s => ⟨s.below, ?_⟩)
 exact rfl

theorem lexer_Value_con (p_s : (List UInt8)) (w : World) (H : Heap) (hH : Le H (hp w)) (hG : Glob H) (r : (Int × Int)) (hm : lexer_Value p_s = some r) :
  Con Tryz.prog 85 [(mkS p_s)] w H (fun v _ => v = (.tuple #[(.int .i64 r.1), (.int .i64 r.2)])) := by
 unfold lexer_Value at hm
 refine con_of hH Tryz.func85 rfl 30 Tryz.ntmps85 rfl ?_
 refine WP.seq (WP.region ?_)
 refine wq rfl rfl rfl (ov_assign rfl rfl) ?_
 refine wq rfl rfl rfl (ov_assign rfl rfl) ?_
 refine WL.nil (then_normal (WP.seq (WP.region ?_)))
 refine wq rfl rfl rfl (ov_move rfl rfl) ?_
 obtain ⟨r1, e1, hm⟩ := bind_some hm
 refine WL.quiet (Runs.free rfl) rfl rfl (oq_con (r := (.tuple #[(mkS r1.1), (.bool r1.2)])) Tryz.call97 rfl rfl (fun w' s => ⟨_, (strings_CutPrefix_con p_s [45]  w' H s.hold hG r1 e1)⟩)) ?_
 refine wq rfl rfl rfl (ov_move rfl rfl) ?_
 refine wq rfl rfl rfl (ov_extract rfl rfl rfl) ?_
 refine wq rfl rfl rfl (ov_extract rfl rfl rfl) ?_
 refine wq rfl rfl rfl (ov_assign rfl rfl) ?_
 refine wq rfl rfl rfl (ov_assign rfl rfl) ?_
 refine WL.nil (then_normal (WP.seq (WP.seq (WP.region ?_))))
 refine wq rfl rfl rfl (ov_move rfl rfl) ?_
 obtain ⟨r2, e2, hm⟩ := bind_some hm
 refine WL.quiet (Runs.free rfl) rfl rfl (oq_con (r := (.int .i64 r2)) Tryz.call98 rfl rfl (fun w' s => ⟨_, (lexer_Number_con r1.1  w' H s.hold hG r2 e2)⟩)) ?_
 refine wq rfl rfl rfl (ov_assign rfl rfl) ?_
 refine WL.nil (then_normal (WP.seq (WP.region ?_)))
 refine wq rfl rfl rfl (ov_move rfl rfl) ?_
 refine wq rfl rfl rfl (ov_neq rfl rfl rfl) ?_
 refine WL.nil (then_normal ?_)
 refine WP.cond rfl (fun hc1 => ?_) (fun hc1 => ?_)
 ·
  replace hm := ite_t hc1 hm
  refine WP.seq (WP.region ?_)
  refine wq rfl rfl rfl (ov_move rfl rfl) ?_
  refine wq rfl rfl rfl (ov_assign rfl rfl) ?_
  refine wq rfl rfl rfl (ov_assign rfl rfl) ?_
  refine WL.nil (then_normal (WP.ret (then_ret ?_)))
  obtain rfl := Option.some.inj hm
  refine retQ_ret Tryz.results85 (Res.tmp rfl (Res.tmp rfl Res.nil)) rfl (fun w' s => ⟨s.below, ?_⟩)
  exact rfl
 ·
  replace hm := ite_f hc1 hm
  refine WP.skip (then_normal (WP.seq (WP.seq (WP.region ?_))))
  refine wq rfl rfl rfl (ov_move rfl rfl) ?_
  refine wq rfl rfl rfl (ov_move rfl rfl) ?_
  refine WL.cut_bool 3 23 (x := (r1.2 && (r1.1 == [48]))) ?_ ?_
  ·
   rcases Bool.eq_false_or_eq_true r1.2 with hc2 | hc2
   ·
    skip
    refine WL.quiet (Runs.yes rfl rfl rfl hc2) rfl rfl (OV.quiet (ov_move rfl rfl)) ?_
    refine WL.quiet (Runs.yes rfl rfl rfl hc2) rfl rfl (OV.quiet (ov_seql rfl rfl rfl)) ?_
    refine wq rfl rfl rfl (ov_pick_true rfl (guard_eq rfl hc2) rfl) ?_
    exact WL.nil ⟨Sub.cons' rfl (congrArg Value.bool (andT hc2)) (Sub.skip rfl (Sub.skip rfl (Sub.skip rfl (Sub.refl _)))), fun _ s => s⟩
   ·
    skip
    refine WL.idle (Idle.no rfl rfl rfl hc2) rfl rfl ?_
    refine WL.idle (Idle.no rfl rfl rfl hc2) rfl rfl ?_
    refine wq rfl rfl rfl (ov_pick_false rfl (guard_eq rfl hc2) rfl) ?_
    exact WL.nil ⟨Sub.cons' rfl (congrArg Value.bool (andF hc2)) (Sub.skip rfl (Sub.skip rfl (Sub.skip rfl (Sub.refl _)))), fun _ s => s⟩
  refine WL.nil (then_normal ?_)
  refine WP.cond rfl (fun hc3 => ?_) (fun hc3 => ?_)
  ·
   replace hm := ite_t hc3 hm
   refine WP.seq (WP.region ?_)
   refine wq rfl rfl rfl (ov_assign rfl rfl) ?_
   refine wq rfl rfl rfl (ov_assign rfl rfl) ?_
   refine WL.nil (then_normal (WP.ret (then_ret ?_)))
   obtain rfl := Option.some.inj hm
   refine retQ_ret Tryz.results85 (Res.tmp rfl (Res.tmp rfl Res.nil)) rfl (fun w' s => ⟨s.below, ?_⟩)
   exact rfl
  ·
   replace hm := ite_f hc3 hm
   refine WP.skip (then_normal (WP.seq (WP.region ?_)))
   refine wq rfl rfl rfl (ov_move rfl rfl) ?_
   obtain ⟨r3, e3, hm⟩ := bind_some hm
   refine WL.quiet (Runs.free rfl) rfl rfl (oq_con (r := (.tuple #[(.int .i64 r3.1), .nilIface])) Tryz.call99 rfl rfl (fun w' s => ⟨_, (strconv_Atoi_con p_s  w' H s.hold hG r3 e3)⟩)) ?_
   refine wq rfl rfl rfl (ov_move rfl rfl) ?_
   refine wq rfl rfl rfl (ov_extract rfl rfl rfl) ?_
   refine wq rfl rfl rfl (ov_extract rfl rfl rfl) ?_
   refine wq rfl rfl rfl (ov_assign rfl rfl) ?_
   refine wq rfl rfl rfl (ov_assign rfl rfl) ?_
   refine WL.nil (then_normal (WP.seq (WP.region ?_)))
   refine wq rfl rfl rfl (ov_move rfl rfl) ?_
   refine wq rfl rfl rfl (ov_assign rfl rfl) ?_
   refine wq rfl rfl rfl (ov_assign rfl rfl) ?_
   refine WL.nil (then_normal (WP.ret ?_))
   obtain rfl := Option.some.inj hm
   refine retQ_ret Tryz.results85 (Res.tmp rfl (Res.tmp rfl Res.nil)) rfl (fun w' s => ⟨s.below, ?_⟩)
   exact rfl

theorem journal_Read_con (p_s : (List UInt8)) (w : World) (H : Heap) (hH : Le H (hp w)) (hG : Glob H) (r : (Entry × Int)) (hm : journal_Read p_s = some r) :
  Con Tryz.prog 68 [(mkS p_s)] w H (fun v _ => v = (.tuple #[(.agg #[(.int .i64 r.1.kind), (mkS r.1.name), (.int .i64 r.1.count), (.int .i64 r.1.strokes)]), (.int .i64 r.2)])) := by
 unfold journal_Read at hm
 refine con_of hH Tryz.func68 rfl 78 Tryz.ntmps68 rfl ?_
 refine WP.seq (WP.region ?_)
 refine WL.step (Runs.free rfl) rfl rfl (os_alloc (cs := [(.int .i64 0), (mkS []), (.int .i64 0), (.int .i64 0)]) Tryz.zeroValue39 rfl rfl (fun b1 => ?_))
 refine wq rfl rfl rfl (ov_assign rfl rfl) ?_
 refine WL.nil (then_normal (WP.seq (WP.seq (WP.region ?_))))
 refine wq rfl rfl rfl (ov_move rfl rfl) ?_
 refine wq rfl rfl rfl (ov_len_string Tryz.underlying9 rfl rfl) ?_
 refine wq rfl rfl rfl (ov_gtr rfl rfl rfl) ?_
 refine WL.nil (then_normal ?_)
 refine WP.cond rfl (fun hc1 => ?_) (fun hc1 => ?_)
 ·
  replace hm := ite_t hc1 hm
  refine WP.seq (WP.region ?_)
  refine wq rfl rfl rfl (ov_build (r := (.agg #[(.int .i64 0), (mkS []), (.int .i64 0), (.int .i64 0)])) rfl rfl (fun _ => by kernel_rfl)) ?_
  refine WL.step0 (Runs.free rfl) rfl (os_store (i := 0) (vs := [(.int .i64 0), (mkS []), (.int .i64 0), (.int .i64 0)]) (cs' := [(.int .i64 0), (mkS []), (.int .i64 0), (.int .i64 0)]) Tryz.sizeOf39 rfl rfl rfl rfl rfl rfl rfl rfl rfl ?_)
  refine wq rfl rfl rfl (ov_assign rfl rfl) ?_
  refine WL.nil (then_normal (WP.ret (then_ret ?_)))
  obtain rfl := Option.some.inj hm
  refine retQ_ret Tryz.results68 (Res.cell rfl (box_loads (i := 0) Tryz.isAgg39 Tryz.sizeOf39 rfl rfl) (Res.tmp rfl Res.nil)) rfl (fun w' s => ⟨s.below, ?_⟩)
  exact rfl
 ·
  replace hm := ite_f hc1 hm
  refine WP.skip (then_normal (WP.seq (WP.region ?_)))
  refine wq rfl rfl rfl (ov_move rfl rfl) ?_
  obtain ⟨r1, e1, hm⟩ := bind_some hm
  refine WL.step (Runs.free rfl) rfl rfl (os_con Tryz.call82 rfl rfl (fun w' s => (splitS_con p_s [32]  w' H s.hold hG r1 e1)) (fun rr1 H1 hle1 hR1 => ?_))
  replace hG := hG.mono hle1
  obtain ⟨ao1, cap1, rfl, h1, hc2⟩ := hR1
  refine WL.step (Runs.free rfl) rfl rfl (os_alloc (cs := [(.slice none 0 0)]) Tryz.zeroValue45 rfl rfl (fun b2 => ?_))
  refine WL.step0 (Runs.free rfl) rfl (os_store (i := 0) (vs := [(.slice ao1 r1.length cap1)]) (cs' := [(.slice ao1 r1.length cap1)]) Tryz.sizeOf45 rfl rfl rfl rfl rfl rfl rfl rfl rfl ?_)
  refine WL.nil (then_normal (WP.seq (WP.region ?_)))
  refine WL.step (Runs.free rfl) rfl rfl (os_inline (cap := []) (vs := []) Tryz.call41 rfl rfl rfl Tryz.func41 rfl 8 Tryz.ntmps41 rfl (fun w' s => ?_))
  refine WP.seq (WP.region ?_)
  refine WL.step (Runs.free rfl) rfl rfl (os_alloc (cs := [(mkS []), (.bool false), (.bool false), .nilFunc, (mkS []), (.bool false), (.bool false), .nilFunc, (mkS []), (.bool false), (.bool false), .nilFunc, (mkS []), (.bool false), (.bool false), .nilFunc, (mkS []), (.bool false), (.bool false), .nilFunc, (mkS []), (.bool false), (.bool false), .nilFunc]) Tryz.zeroValue101 rfl rfl (fun b3 => ?_))
  refine WL.nil (then_normal (WP.seq (WP.region ?_)))
  refine wq rfl rfl rfl (ov_build (r := (.agg #[(mkS [112, 97, 114, 116]), (.bool true), (.bool false), (.func (.func 56) #[] #[])])) rfl rfl (fun _ => by kernel_rfl)) ?_
  refine wq rfl rfl rfl (ov_build (r := (.agg #[(mkS [99, 121, 99, 108, 101, 115]), (.bool true), (.bool true), (.func (.func 57) #[] #[])])) rfl rfl (fun _ => by kernel_rfl)) ?_
  refine wq rfl rfl rfl (ov_build (r := (.agg #[(mkS [102, 97, 117, 108, 116]), (.bool false), (.bool false), (.func (.func 58) #[] #[])])) rfl rfl (fun _ => by kernel_rfl)) ?_
  refine wq rfl rfl rfl (ov_build (r := (.agg #[(mkS [114, 101, 112, 97, 105, 114]), (.bool false), (.bool false), (.func (.func 59) #[] #[])])) rfl rfl (fun _ => by kernel_rfl)) ?_
  refine wq rfl rfl rfl (ov_build (r := (.agg #[(mkS [114, 101, 112, 108, 97, 99, 101]), (.bool true), (.bool false), (.func (.func 60) #[] #[])])) rfl rfl (fun _ => by kernel_rfl)) ?_
  refine wq rfl rfl rfl (ov_build (r := (.agg #[(mkS [114, 101, 109, 111, 118, 101]), (.bool false), (.bool false), (.func (.func 61) #[] #[])])) rfl rfl (fun _ => by kernel_rfl)) ?_
  refine wq rfl rfl rfl (ov_build (r := (.agg #[(mkS [112, 97, 114, 116]), (.bool true), (.bool false), (.func (.func 56) #[] #[]), (mkS [99, 121, 99, 108, 101, 115]), (.bool true), (.bool true), (.func (.func 57) #[] #[]), (mkS [102, 97, 117, 108, 116]), (.bool false), (.bool false), (.func (.func 58) #[] #[]), (mkS [114, 101, 112, 97, 105, 114]), (.bool false), (.bool false), (.func (.func 59) #[] #[]), (mkS [114, 101, 112, 108, 97, 99, 101]), (.bool true), (.bool false), (.func (.func 60) #[] #[]), (mkS [114, 101, 109, 111, 118, 101]), (.bool false), (.bool false), (.func (.func 61) #[] #[])])) rfl rfl (fun _ => by kernel_rfl)) ?_
  refine WL.step0 (Runs.free rfl) rfl (os_store (i := 0) (vs := [(mkS [112, 97, 114, 116]), (.bool true), (.bool false), (.func (.func 56) #[] #[]), (mkS [99, 121, 99, 108, 101, 115]), (.bool true), (.bool true), (.func (.func 57) #[] #[]), (mkS [102, 97, 117, 108, 116]), (.bool false), (.bool false), (.func (.func 58) #[] #[]), (mkS [114, 101, 112, 97, 105, 114]), (.bool false), (.bool false), (.func (.func 59) #[] #[]), (mkS [114, 101, 112, 108, 97, 99, 101]), (.bool true), (.bool false), (.func (.func 60) #[] #[]), (mkS [114, 101, 109, 111, 118, 101]), (.bool false), (.bool false), (.func (.func 61) #[] #[])]) (cs' := [(mkS [112, 97, 114, 116]), (.bool true), (.bool false), (.func (.func 56) #[] #[]), (mkS [99, 121, 99, 108, 101, 115]), (.bool true), (.bool true), (.func (.func 57) #[] #[]), (mkS [102, 97, 117, 108, 116]), (.bool false), (.bool false), (.func (.func 58) #[] #[]), (mkS [114, 101, 112, 97, 105, 114]), (.bool false), (.bool false), (.func (.func 59) #[] #[]), (mkS [114, 101, 112, 108, 97, 99, 101]), (.bool true), (.bool false), (.func (.func 60) #[] #[]), (mkS [114, 101, 109, 111, 118, 101]), (.bool false), (.bool false), (.func (.func 61) #[] #[])]) Tryz.sizeOf101 rfl rfl rfl rfl rfl rfl rfl rfl rfl ?_)
  refine WL.nil (then_normal (WP.ret ?_))
  refine retQ_ret (v := (.agg #[(mkS [112, 97, 114, 116]), (.bool true), (.bool false), (.func (.func 56) #[] #[]), (mkS [99, 121, 99, 108, 101, 115]), (.bool true), (.bool true), (.func (.func 57) #[] #[]), (mkS [102, 97, 117, 108, 116]), (.bool false), (.bool false), (.func (.func 58) #[] #[]), (mkS [114, 101, 112, 97, 105, 114]), (.bool false), (.bool false), (.func (.func 59) #[] #[]), (mkS [114, 101, 112, 108, 97, 99, 101]), (.bool true), (.bool false), (.func (.func 60) #[] #[]), (mkS [114, 101, 109, 111, 118, 101]), (.bool false), (.bool false), (.func (.func 61) #[] #[])])) Tryz.results41 (Res.cell rfl (box_loads (i := 0) Tryz.isAgg101 Tryz.sizeOf101 rfl rfl) Res.nil) rfl (fun w' s => ⟨_, ?_, s⟩)
  refine WL.step (Runs.free rfl) rfl rfl (os_alloc (cs := [(mkS []), (.bool false), (.bool false), .nilFunc, (mkS []), (.bool false), (.bool false), .nilFunc, (mkS []), (.bool false), (.bool false), .nilFunc, (mkS []), (.bool false), (.bool false), .nilFunc, (mkS []), (.bool false), (.bool false), .nilFunc, (mkS []), (.bool false), (.bool false), .nilFunc]) Tryz.zeroValue101 rfl rfl (fun b4 => ?_))
  refine WL.step0 (Runs.free rfl) rfl (os_store (i := 0) (vs := [(mkS [112, 97, 114, 116]), (.bool true), (.bool false), (.func (.func 56) #[] #[]), (mkS [99, 121, 99, 108, 101, 115]), (.bool true), (.bool true), (.func (.func 57) #[] #[]), (mkS [102, 97, 117, 108, 116]), (.bool false), (.bool false), (.func (.func 58) #[] #[]), (mkS [114, 101, 112, 97, 105, 114]), (.bool false), (.bool false), (.func (.func 59) #[] #[]), (mkS [114, 101, 112, 108, 97, 99, 101]), (.bool true), (.bool false), (.func (.func 60) #[] #[]), (mkS [114, 101, 109, 111, 118, 101]), (.bool false), (.bool false), (.func (.func 61) #[] #[])]) (cs' := [(mkS [112, 97, 114, 116]), (.bool true), (.bool false), (.func (.func 56) #[] #[]), (mkS [99, 121, 99, 108, 101, 115]), (.bool true), (.bool true), (.func (.func 57) #[] #[]), (mkS [102, 97, 117, 108, 116]), (.bool false), (.bool false), (.func (.func 58) #[] #[]), (mkS [114, 101, 112, 97, 105, 114]), (.bool false), (.bool false), (.func (.func 59) #[] #[]), (mkS [114, 101, 112, 108, 97, 99, 101]), (.bool true), (.bool false), (.func (.func 60) #[] #[]), (mkS [114, 101, 109, 111, 118, 101]), (.bool false), (.bool false), (.func (.func 61) #[] #[])]) Tryz.sizeOf101 rfl rfl rfl rfl rfl rfl rfl rfl rfl ?_)
  refine WL.nil (then_normal ?_)
  obtain ⟨k1, hk1, hm⟩ := joinK_some hm
  refine WP.seq_join (fun g' S' => ∃ (b13 : Nat) (i2 : Int), Sub [(0, (mkS p_s)), (2, (pB b1 0)), (4, (pB b2 0)), (5, (pB b4 0)), (6, (pB b13 0)), (1000000007, (.bool false))] g' ∧ (∀ w', S' w' → St w H [.blk b13 39 [(.int .i64 i2), (mkS []), (.int .i64 0), (.int .i64 0)], .blk b4 101 [(mkS [112, 97, 114, 116]), (.bool true), (.bool false), (.func (.func 56) #[] #[]), (mkS [99, 121, 99, 108, 101, 115]), (.bool true), (.bool true), (.func (.func 57) #[] #[]), (mkS [102, 97, 117, 108, 116]), (.bool false), (.bool false), (.func (.func 58) #[] #[]), (mkS [114, 101, 112, 97, 105, 114]), (.bool false), (.bool false), (.func (.func 59) #[] #[]), (mkS [114, 101, 112, 108, 97, 99, 101]), (.bool true), (.bool false), (.func (.func 60) #[] #[]), (mkS [114, 101, 109, 111, 118, 101]), (.bool false), (.bool false), (.func (.func 61) #[] #[])], .blk b2 45 [(.slice ao1 r1.length cap1)], .blk b1 39 [(.int .i64 0), (mkS []), (.int .i64 0), (.int .i64 0)]] H1 w') ∧ k1 i2 = some r) ?_ ?_
  ·
   skip
   refine WP.region ?_
   refine wq rfl rfl rfl (ov_slice_arr Tryz.underlying101 Tryz.sizeOf100 rfl rfl rfl) ?_
   refine wq rfl rfl rfl (ov_makeFunc' (first := []) rfl rfl rfl) ?_
   refine WL.step (Runs.free rfl) rfl rfl (os_inline (cap := []) (vs := [(.slice (some ⟨b4, 0, none⟩) 6 6), (.func (.func 84) #[] #[(pB b2 0)])]) Tryz.call83 rfl rfl rfl Tryz.func83 rfl 19 Tryz.ntmps83 rfl (fun w' s => ?_))
   refine WP.seq (WP.region ?_)
   refine wq rfl rfl rfl (ov_assign rfl rfl) ?_
   refine WL.nil (then_normal ?_)
   obtain ⟨k2, hk2, hm⟩ := joinK_some hm
   refine WP.seq_join (fun g' S' => Sub [(1000000007, (.bool false))] g' ∧ (∀ w', S' w' → St w H [.blk b4 101 [(mkS [112, 97, 114, 116]), (.bool true), (.bool false), (.func (.func 56) #[] #[]), (mkS [99, 121, 99, 108, 101, 115]), (.bool true), (.bool true), (.func (.func 57) #[] #[]), (mkS [102, 97, 117, 108, 116]), (.bool false), (.bool false), (.func (.func 58) #[] #[]), (mkS [114, 101, 112, 97, 105, 114]), (.bool false), (.bool false), (.func (.func 59) #[] #[]), (mkS [114, 101, 112, 108, 97, 99, 101]), (.bool true), (.bool false), (.func (.func 60) #[] #[]), (mkS [114, 101, 109, 111, 118, 101]), (.bool false), (.bool false), (.func (.func 61) #[] #[])], .blk b2 45 [(.slice ao1 r1.length cap1)], .blk b1 39 [(.int .i64 0), (mkS []), (.int .i64 0), (.int .i64 0)]] H1 w') ∧ k2 = some r) ?_ ?_
   ·
    skip
    refine WP.seq (WP.region ?_)
    refine wq rfl rfl rfl (ov_move rfl rfl) ?_
    refine wq rfl rfl rfl (ov_len_slice Tryz.underlying143 rfl rfl) ?_
    refine wq rfl rfl rfl (ov_move rfl rfl) ?_
    refine WL.nil (then_normal (WP.block ?_))
    refine WP.loop (fun m1 g' S' => ∃ (i1 : Int), Sub [(0, (.slice (some ⟨b4, 0, none⟩) 6 6)), (1, (.func (.func 84) #[] #[(pB b2 0)])), (7, (.int .i64 6)), (8, (.int .i64 i1)), (1000000007, (.bool false))] g' ∧ (∀ w', S' w' → St w H [.blk b4 101 [(mkS [112, 97, 114, 116]), (.bool true), (.bool false), (.func (.func 56) #[] #[]), (mkS [99, 121, 99, 108, 101, 115]), (.bool true), (.bool true), (.func (.func 57) #[] #[]), (mkS [102, 97, 117, 108, 116]), (.bool false), (.bool false), (.func (.func 58) #[] #[]), (mkS [114, 101, 112, 97, 105, 114]), (.bool false), (.bool false), (.func (.func 59) #[] #[]), (mkS [114, 101, 112, 108, 97, 99, 101]), (.bool true), (.bool false), (.func (.func 60) #[] #[]), (mkS [114, 101, 109, 111, 118, 101]), (.bool false), (.bool false), (.func (.func 61) #[] #[])], .blk b2 45 [(.slice ao1 r1.length cap1)], .blk b1 39 [(.int .i64 0), (mkS []), (.int .i64 0), (.int .i64 0)]] H1 w') ∧ journal_Read_loop1 r1 k1 k2 m1 i1 = some r) ((Int.toNat (6 - 0) + 1)) ⟨0, (Sub.cons rfl (Sub.cons rfl (Sub.cons rfl (Sub.cons rfl (Sub.cons rfl (Sub.nil _)))))), fun w' s => (s.select [0, 2, 3] (by decide) rfl), hm⟩ ?_ ?_
    ·
     rintro g' S' ⟨_, _, _, hm⟩
     exact none_some hm
    ·
     rintro m1 g' S' ⟨i1, hsub1, hS1, hm⟩
     refine WP.sub hsub1 (WP.weaken hS1 ?_)
     rw [journal_Read_loop1] at hm
     refine WP.seq (WP.region ?_)
     refine wq rfl rfl rfl (ov_lss rfl rfl rfl) ?_
     refine WL.nil (then_normal (WP.seq ?_))
     refine WP.cond rfl (fun hc3 => ?_) (fun hc3 => ?_)
     ·
      replace hm := ite_t hc3 hm
      refine WP.skip (then_normal (WP.seq (WP.block (WP.seq (WP.region ?_)))))
      refine wq rfl rfl rfl (ov_move rfl rfl) ?_
      refine wq rfl rfl rfl (ov_assign rfl rfl) ?_
      refine WL.nil (then_normal ?_)
      obtain ⟨k3, hk3, hm⟩ := joinK_some hm
      refine WP.seq_join (fun g' S' => ∃ (c1 : Bool), Sub [(0, (.slice (some ⟨b4, 0, none⟩) 6 6)), (1, (.func (.func 84) #[] #[(pB b2 0)])), (5, (.int .i64 i1)), (7, (.int .i64 6)), (8, (.int .i64 i1)), (16, (.bool c1)), (1000000007, (.bool false))] g' ∧ (∀ w', S' w' → St w H [.blk b4 101 [(mkS [112, 97, 114, 116]), (.bool true), (.bool false), (.func (.func 56) #[] #[]), (mkS [99, 121, 99, 108, 101, 115]), (.bool true), (.bool true), (.func (.func 57) #[] #[]), (mkS [102, 97, 117, 108, 116]), (.bool false), (.bool false), (.func (.func 58) #[] #[]), (mkS [114, 101, 112, 97, 105, 114]), (.bool false), (.bool false), (.func (.func 59) #[] #[]), (mkS [114, 101, 112, 108, 97, 99, 101]), (.bool true), (.bool false), (.func (.func 60) #[] #[]), (mkS [114, 101, 109, 111, 118, 101]), (.bool false), (.bool false), (.func (.func 61) #[] #[])], .blk b2 45 [(.slice ao1 r1.length cap1)], .blk b1 39 [(.int .i64 0), (mkS []), (.int .i64 0), (.int .i64 0)]] H1 w') ∧ k3 c1 = some r) ?_ ?_
      ·
       skip
       refine WP.region ?_
       refine wq rfl rfl rfl (ov_move rfl rfl) ?_
       refine wq rfl rfl rfl (ov_move rfl rfl) ?_
       refine wq rfl rfl rfl (ov_move rfl rfl) ?_
       rcases Bool.eq_false_or_eq_true (i1 == 0) with hc4 | hc4
       ·
        replace hm := ite_t hc4 hm
        refine wq rfl rfl rfl (ov_indexAddr_bsl (j := 0) Tryz.underlying143 Tryz.sizeOf100 rfl rfl rfl (eq_of_beq hc4) rfl) ?_
        refine wq rfl rfl rfl (ov_load_boxes (i := 0) (vs := [(mkS [112, 97, 114, 116]), (.bool true), (.bool false), (.func (.func 56) #[] #[])]) Tryz.isAgg100 Tryz.sizeOf100 rfl rfl rfl rfl (part_of rfl)) ?_
        refine WL.step (Runs.free rfl) rfl rfl (os_inline (cap := [(pB b2 0)]) (vs := [(.agg #[(mkS [112, 97, 114, 116]), (.bool true), (.bool false), (.func (.func 56) #[] #[])])]) Tryz.call84 rfl rfl rfl Tryz.func84 rfl 10 Tryz.ntmps84 rfl (fun w' s => ?_))
        refine WP.seq (WP.region ?_)
        refine WL.step (Runs.free rfl) rfl rfl (os_box (cs := [(mkS [112, 97, 114, 116]), (.bool true), (.bool false), (.func (.func 56) #[] #[])]) rfl rfl rfl (fun b5 => ?_))
        refine wq rfl rfl rfl (ov_assign rfl rfl) ?_
        refine WL.nil (then_normal (WP.seq ?_))
        refine WP.region_draws (by kernel_rfl) (by kernel_rfl) (fun _ s => s.drew) ?_
        refine QL.quiet (Runs.free rfl) rfl rfl (OV.quiet (ov_fieldAddr Tryz.underlying100 rfl rfl rfl Tryz.sizeOf9 rfl rfl)) ?_
        refine QL.quiet (Runs.free rfl) rfl rfl (OV.quiet (ov_load_box (i := 0) Tryz.isAgg9 rfl rfl rfl rfl)) ?_
        refine QL.quiet (Runs.free rfl) rfl rfl (OV.quiet (ov_load_box (i := 2) Tryz.isAgg45 rfl rfl rfl rfl)) ?_
        obtain ⟨x1, e2, hm⟩ := bind_some hm
        obtain ⟨h2, h3, h4, cs1, h5, h6⟩ := h1.get e2 (by decide)
        obtain rfl : cs1 = [(mkS x1)] := h5
        refine QL.quiet (Runs.free rfl) rfl rfl (OV.quiet (ov_indexAddr Tryz.underlying45 Tryz.sizeOf9 rfl rfl rfl h2 h3 h4)) ?_
        refine QL.quiet (Runs.free rfl) rfl rfl (OV.quiet (ov_load_elem (v := (mkS x1)) Tryz.isAgg9 rfl rfl h6)) ?_
        refine QL.quiet (Runs.free rfl) rfl rfl (OV.quiet (ov_seql rfl rfl rfl)) ?_
        refine QL.quiet (Runs.free rfl) rfl rfl (OV.quiet (ov_assign rfl rfl)) ?_
        refine QL.nil ?_
        refine then_normal (WP.ret ?_)
        refine retQ_ret (v := (.bool (([112, 97, 114, 116] : List UInt8) == x1))) Tryz.results84 (Res.tmp rfl Res.nil) rfl (fun w' s => ⟨_, ?_, s⟩)
        refine WL.nil (then_normal ?_)
        exact ⟨(([112, 97, 114, 116] : List UInt8) == x1), (Sub.cons rfl (Sub.cons rfl (Sub.cons rfl (Sub.cons rfl (Sub.cons rfl (Sub.cons rfl (Sub.cons rfl (Sub.nil _)))))))), fun w' s => (s.select [1, 2, 3] (by decide) rfl), hm⟩
       ·
        replace hm := ite_f hc4 hm
        rcases Bool.eq_false_or_eq_true (i1 == 1) with hc5 | hc5
        ·
         replace hm := ite_t hc5 hm
         refine wq rfl rfl rfl (ov_indexAddr_bsl (j := 1) Tryz.underlying143 Tryz.sizeOf100 rfl rfl rfl (eq_of_beq hc5) rfl) ?_
         refine wq rfl rfl rfl (ov_load_boxes (i := 0) (vs := [(mkS [99, 121, 99, 108, 101, 115]), (.bool true), (.bool true), (.func (.func 57) #[] #[])]) Tryz.isAgg100 Tryz.sizeOf100 rfl rfl rfl rfl (part_of rfl)) ?_
         refine WL.step (Runs.free rfl) rfl rfl (os_inline (cap := [(pB b2 0)]) (vs := [(.agg #[(mkS [99, 121, 99, 108, 101, 115]), (.bool true), (.bool true), (.func (.func 57) #[] #[])])]) Tryz.call84 rfl rfl rfl Tryz.func84 rfl 10 Tryz.ntmps84 rfl (fun w' s => ?_))
         refine WP.seq (WP.region ?_)
         refine WL.step (Runs.free rfl) rfl rfl (os_box (cs := [(mkS [99, 121, 99, 108, 101, 115]), (.bool true), (.bool true), (.func (.func 57) #[] #[])]) rfl rfl rfl (fun b6 => ?_))
         refine wq rfl rfl rfl (ov_assign rfl rfl) ?_
         refine WL.nil (then_normal (WP.seq ?_))
         refine WP.region_draws (by kernel_rfl) (by kernel_rfl) (fun _ s => s.drew) ?_
         refine QL.quiet (Runs.free rfl) rfl rfl (OV.quiet (ov_fieldAddr Tryz.underlying100 rfl rfl rfl Tryz.sizeOf9 rfl rfl)) ?_
         refine QL.quiet (Runs.free rfl) rfl rfl (OV.quiet (ov_load_box (i := 0) Tryz.isAgg9 rfl rfl rfl rfl)) ?_
         refine QL.quiet (Runs.free rfl) rfl rfl (OV.quiet (ov_load_box (i := 2) Tryz.isAgg45 rfl rfl rfl rfl)) ?_
         obtain ⟨x2, e3, hm⟩ := bind_some hm
         obtain ⟨h7, h8, h9, cs2, h10, h11⟩ := h1.get e3 (by decide)
         obtain rfl : cs2 = [(mkS x2)] := h10
         refine QL.quiet (Runs.free rfl) rfl rfl (OV.quiet (ov_indexAddr Tryz.underlying45 Tryz.sizeOf9 rfl rfl rfl h7 h8 h9)) ?_
         refine QL.quiet (Runs.free rfl) rfl rfl (OV.quiet (ov_load_elem (v := (mkS x2)) Tryz.isAgg9 rfl rfl h11)) ?_
         refine QL.quiet (Runs.free rfl) rfl rfl (OV.quiet (ov_seql rfl rfl rfl)) ?_
         refine QL.quiet (Runs.free rfl) rfl rfl (OV.quiet (ov_assign rfl rfl)) ?_
         refine QL.nil ?_
         refine then_normal (WP.ret ?_)
         refine retQ_ret (v := (.bool (([99, 121, 99, 108, 101, 115] : List UInt8) == x2))) Tryz.results84 (Res.tmp rfl Res.nil) rfl (fun w' s => ⟨_, ?_, s⟩)
         refine WL.nil (then_normal ?_)
         exact ⟨(([99, 121, 99, 108, 101, 115] : List UInt8) == x2), (Sub.cons rfl (Sub.cons rfl (Sub.cons rfl (Sub.cons rfl (Sub.cons rfl (Sub.cons rfl (Sub.cons rfl (Sub.nil _)))))))), fun w' s => (s.select [1, 2, 3] (by decide) rfl), hm⟩
        ·
         replace hm := ite_f hc5 hm
         rcases Bool.eq_false_or_eq_true (i1 == 2) with hc6 | hc6
         ·
          replace hm := ite_t hc6 hm
          refine wq rfl rfl rfl (ov_indexAddr_bsl (j := 2) Tryz.underlying143 Tryz.sizeOf100 rfl rfl rfl (eq_of_beq hc6) rfl) ?_
          refine wq rfl rfl rfl (ov_load_boxes (i := 0) (vs := [(mkS [102, 97, 117, 108, 116]), (.bool false), (.bool false), (.func (.func 58) #[] #[])]) Tryz.isAgg100 Tryz.sizeOf100 rfl rfl rfl rfl (part_of rfl)) ?_
          refine WL.step (Runs.free rfl) rfl rfl (os_inline (cap := [(pB b2 0)]) (vs := [(.agg #[(mkS [102, 97, 117, 108, 116]), (.bool false), (.bool false), (.func (.func 58) #[] #[])])]) Tryz.call84 rfl rfl rfl Tryz.func84 rfl 10 Tryz.ntmps84 rfl (fun w' s => ?_))
          refine WP.seq (WP.region ?_)
          refine WL.step (Runs.free rfl) rfl rfl (os_box (cs := [(mkS [102, 97, 117, 108, 116]), (.bool false), (.bool false), (.func (.func 58) #[] #[])]) rfl rfl rfl (fun b7 => ?_))
          refine wq rfl rfl rfl (ov_assign rfl rfl) ?_
          refine WL.nil (then_normal (WP.seq ?_))
          refine WP.region_draws (by kernel_rfl) (by kernel_rfl) (fun _ s => s.drew) ?_
          refine QL.quiet (Runs.free rfl) rfl rfl (OV.quiet (ov_fieldAddr Tryz.underlying100 rfl rfl rfl Tryz.sizeOf9 rfl rfl)) ?_
          refine QL.quiet (Runs.free rfl) rfl rfl (OV.quiet (ov_load_box (i := 0) Tryz.isAgg9 rfl rfl rfl rfl)) ?_
          refine QL.quiet (Runs.free rfl) rfl rfl (OV.quiet (ov_load_box (i := 2) Tryz.isAgg45 rfl rfl rfl rfl)) ?_
          obtain ⟨x3, e4, hm⟩ := bind_some hm
          obtain ⟨h12, h13, h14, cs3, h15, h16⟩ := h1.get e4 (by decide)
          obtain rfl : cs3 = [(mkS x3)] := h15
          refine QL.quiet (Runs.free rfl) rfl rfl (OV.quiet (ov_indexAddr Tryz.underlying45 Tryz.sizeOf9 rfl rfl rfl h12 h13 h14)) ?_
          refine QL.quiet (Runs.free rfl) rfl rfl (OV.quiet (ov_load_elem (v := (mkS x3)) Tryz.isAgg9 rfl rfl h16)) ?_
          refine QL.quiet (Runs.free rfl) rfl rfl (OV.quiet (ov_seql rfl rfl rfl)) ?_
          refine QL.quiet (Runs.free rfl) rfl rfl (OV.quiet (ov_assign rfl rfl)) ?_
          refine QL.nil ?_
          refine then_normal (WP.ret ?_)
          refine retQ_ret (v := (.bool (([102, 97, 117, 108, 116] : List UInt8) == x3))) Tryz.results84 (Res.tmp rfl Res.nil) rfl (fun w' s => ⟨_, ?_, s⟩)
          refine WL.nil (then_normal ?_)
          exact ⟨(([102, 97, 117, 108, 116] : List UInt8) == x3), (Sub.cons rfl (Sub.cons rfl (Sub.cons rfl (Sub.cons rfl (Sub.cons rfl (Sub.cons rfl (Sub.cons rfl (Sub.nil _)))))))), fun w' s => (s.select [1, 2, 3] (by decide) rfl), hm⟩
         ·
          replace hm := ite_f hc6 hm
          rcases Bool.eq_false_or_eq_true (i1 == 3) with hc7 | hc7
          ·
           replace hm := ite_t hc7 hm
           refine wq rfl rfl rfl (ov_indexAddr_bsl (j := 3) Tryz.underlying143 Tryz.sizeOf100 rfl rfl rfl (eq_of_beq hc7) rfl) ?_
           refine wq rfl rfl rfl (ov_load_boxes (i := 0) (vs := [(mkS [114, 101, 112, 97, 105, 114]), (.bool false), (.bool false), (.func (.func 59) #[] #[])]) Tryz.isAgg100 Tryz.sizeOf100 rfl rfl rfl rfl (part_of rfl)) ?_
           refine WL.step (Runs.free rfl) rfl rfl (os_inline (cap := [(pB b2 0)]) (vs := [(.agg #[(mkS [114, 101, 112, 97, 105, 114]), (.bool false), (.bool false), (.func (.func 59) #[] #[])])]) Tryz.call84 rfl rfl rfl Tryz.func84 rfl 10 Tryz.ntmps84 rfl (fun w' s => ?_))
           refine WP.seq (WP.region ?_)
           refine WL.step (Runs.free rfl) rfl rfl (os_box (cs := [(mkS [114, 101, 112, 97, 105, 114]), (.bool false), (.bool false), (.func (.func 59) #[] #[])]) rfl rfl rfl (fun b8 => ?_))
           refine wq rfl rfl rfl (ov_assign rfl rfl) ?_
           refine WL.nil (then_normal (WP.seq ?_))
           refine WP.region_draws (by kernel_rfl) (by kernel_rfl) (fun _ s => s.drew) ?_
           refine QL.quiet (Runs.free rfl) rfl rfl (OV.quiet (ov_fieldAddr Tryz.underlying100 rfl rfl rfl Tryz.sizeOf9 rfl rfl)) ?_
           refine QL.quiet (Runs.free rfl) rfl rfl (OV.quiet (ov_load_box (i := 0) Tryz.isAgg9 rfl rfl rfl rfl)) ?_
           refine QL.quiet (Runs.free rfl) rfl rfl (OV.quiet (ov_load_box (i := 2) Tryz.isAgg45 rfl rfl rfl rfl)) ?_
           obtain ⟨x4, e5, hm⟩ := bind_some hm
           obtain ⟨h17, h18, h19, cs4, h20, h21⟩ := h1.get e5 (by decide)
           obtain rfl : cs4 = [(mkS x4)] := h20
           refine QL.quiet (Runs.free rfl) rfl rfl (OV.quiet (ov_indexAddr Tryz.underlying45 Tryz.sizeOf9 rfl rfl rfl h17 h18 h19)) ?_
           refine QL.quiet (Runs.free rfl) rfl rfl (OV.quiet (ov_load_elem (v := (mkS x4)) Tryz.isAgg9 rfl rfl h21)) ?_
           refine QL.quiet (Runs.free rfl) rfl rfl (OV.quiet (ov_seql rfl rfl rfl)) ?_
           refine QL.quiet (Runs.free rfl) rfl rfl (OV.quiet (ov_assign rfl rfl)) ?_
           refine QL.nil ?_
           refine then_normal (WP.ret ?_)
           refine retQ_ret (v := (.bool (([114, 101, 112, 97, 105, 114] : List UInt8) == x4))) Tryz.results84 (Res.tmp rfl Res.nil) rfl (fun w' s => ⟨_, ?_, s⟩)
           refine WL.nil (then_normal ?_)
           exact ⟨(([114, 101, 112, 97, 105, 114] : List UInt8) == x4), (Sub.cons rfl (Sub.cons rfl (Sub.cons rfl (Sub.cons rfl (Sub.cons rfl (Sub.cons rfl (Sub.cons rfl (Sub.nil _)))))))), fun w' s => (s.select [1, 2, 3] (by decide) rfl), hm⟩
          ·
           replace hm := ite_f hc7 hm
           rcases Bool.eq_false_or_eq_true (i1 == 4) with hc8 | hc8
           ·
            replace hm := ite_t hc8 hm
            refine wq rfl rfl rfl (ov_indexAddr_bsl (j := 4) Tryz.underlying143 Tryz.sizeOf100 rfl rfl rfl (eq_of_beq hc8) rfl) ?_
            refine wq rfl rfl rfl (ov_load_boxes (i := 0) (vs := [(mkS [114, 101, 112, 108, 97, 99, 101]), (.bool true), (.bool false), (.func (.func 60) #[] #[])]) Tryz.isAgg100 Tryz.sizeOf100 rfl rfl rfl rfl (part_of rfl)) ?_
            refine WL.step (Runs.free rfl) rfl rfl (os_inline (cap := [(pB b2 0)]) (vs := [(.agg #[(mkS [114, 101, 112, 108, 97, 99, 101]), (.bool true), (.bool false), (.func (.func 60) #[] #[])])]) Tryz.call84 rfl rfl rfl Tryz.func84 rfl 10 Tryz.ntmps84 rfl (fun w' s => ?_))
            refine WP.seq (WP.region ?_)
            refine WL.step (Runs.free rfl) rfl rfl (os_box (cs := [(mkS [114, 101, 112, 108, 97, 99, 101]), (.bool true), (.bool false), (.func (.func 60) #[] #[])]) rfl rfl rfl (fun b9 => ?_))
            refine wq rfl rfl rfl (ov_assign rfl rfl) ?_
            refine WL.nil (then_normal (WP.seq ?_))
            refine WP.region_draws (by kernel_rfl) (by kernel_rfl) (fun _ s => s.drew) ?_
            refine QL.quiet (Runs.free rfl) rfl rfl (OV.quiet (ov_fieldAddr Tryz.underlying100 rfl rfl rfl Tryz.sizeOf9 rfl rfl)) ?_
            refine QL.quiet (Runs.free rfl) rfl rfl (OV.quiet (ov_load_box (i := 0) Tryz.isAgg9 rfl rfl rfl rfl)) ?_
            refine QL.quiet (Runs.free rfl) rfl rfl (OV.quiet (ov_load_box (i := 2) Tryz.isAgg45 rfl rfl rfl rfl)) ?_
            obtain ⟨x5, e6, hm⟩ := bind_some hm
            obtain ⟨h22, h23, h24, cs5, h25, h26⟩ := h1.get e6 (by decide)
            obtain rfl : cs5 = [(mkS x5)] := h25
            refine QL.quiet (Runs.free rfl) rfl rfl (OV.quiet (ov_indexAddr Tryz.underlying45 Tryz.sizeOf9 rfl rfl rfl h22 h23 h24)) ?_
            refine QL.quiet (Runs.free rfl) rfl rfl (OV.quiet (ov_load_elem (v := (mkS x5)) Tryz.isAgg9 rfl rfl h26)) ?_
            refine QL.quiet (Runs.free rfl) rfl rfl (OV.quiet (ov_seql rfl rfl rfl)) ?_
            refine QL.quiet (Runs.free rfl) rfl rfl (OV.quiet (ov_assign rfl rfl)) ?_
            refine QL.nil ?_
            refine then_normal (WP.ret ?_)
            refine retQ_ret (v := (.bool (([114, 101, 112, 108, 97, 99, 101] : List UInt8) == x5))) Tryz.results84 (Res.tmp rfl Res.nil) rfl (fun w' s => ⟨_, ?_, s⟩)
            refine WL.nil (then_normal ?_)
            exact ⟨(([114, 101, 112, 108, 97, 99, 101] : List UInt8) == x5), (Sub.cons rfl (Sub.cons rfl (Sub.cons rfl (Sub.cons rfl (Sub.cons rfl (Sub.cons rfl (Sub.cons rfl (Sub.nil _)))))))), fun w' s => (s.select [1, 2, 3] (by decide) rfl), hm⟩
           ·
            replace hm := ite_f hc8 hm
            rcases Bool.eq_false_or_eq_true (i1 == 5) with hc9 | hc9
            ·
             replace hm := ite_t hc9 hm
             refine wq rfl rfl rfl (ov_indexAddr_bsl (j := 5) Tryz.underlying143 Tryz.sizeOf100 rfl rfl rfl (eq_of_beq hc9) rfl) ?_
             refine wq rfl rfl rfl (ov_load_boxes (i := 0) (vs := [(mkS [114, 101, 109, 111, 118, 101]), (.bool false), (.bool false), (.func (.func 61) #[] #[])]) Tryz.isAgg100 Tryz.sizeOf100 rfl rfl rfl rfl (part_of rfl)) ?_
             refine WL.step (Runs.free rfl) rfl rfl (os_inline (cap := [(pB b2 0)]) (vs := [(.agg #[(mkS [114, 101, 109, 111, 118, 101]), (.bool false), (.bool false), (.func (.func 61) #[] #[])])]) Tryz.call84 rfl rfl rfl Tryz.func84 rfl 10 Tryz.ntmps84 rfl (fun w' s => ?_))
             refine WP.seq (WP.region ?_)
             refine WL.step (Runs.free rfl) rfl rfl (os_box (cs := [(mkS [114, 101, 109, 111, 118, 101]), (.bool false), (.bool false), (.func (.func 61) #[] #[])]) rfl rfl rfl (fun b10 => ?_))
             refine wq rfl rfl rfl (ov_assign rfl rfl) ?_
             refine WL.nil (then_normal (WP.seq ?_))
             refine WP.region_draws (by kernel_rfl) (by kernel_rfl) (fun _ s => s.drew) ?_
             refine QL.quiet (Runs.free rfl) rfl rfl (OV.quiet (ov_fieldAddr Tryz.underlying100 rfl rfl rfl Tryz.sizeOf9 rfl rfl)) ?_
             refine QL.quiet (Runs.free rfl) rfl rfl (OV.quiet (ov_load_box (i := 0) Tryz.isAgg9 rfl rfl rfl rfl)) ?_
             refine QL.quiet (Runs.free rfl) rfl rfl (OV.quiet (ov_load_box (i := 2) Tryz.isAgg45 rfl rfl rfl rfl)) ?_
             obtain ⟨x6, e7, hm⟩ := bind_some hm
             obtain ⟨h27, h28, h29, cs6, h30, h31⟩ := h1.get e7 (by decide)
             obtain rfl : cs6 = [(mkS x6)] := h30
             refine QL.quiet (Runs.free rfl) rfl rfl (OV.quiet (ov_indexAddr Tryz.underlying45 Tryz.sizeOf9 rfl rfl rfl h27 h28 h29)) ?_
             refine QL.quiet (Runs.free rfl) rfl rfl (OV.quiet (ov_load_elem (v := (mkS x6)) Tryz.isAgg9 rfl rfl h31)) ?_
             refine QL.quiet (Runs.free rfl) rfl rfl (OV.quiet (ov_seql rfl rfl rfl)) ?_
             refine QL.quiet (Runs.free rfl) rfl rfl (OV.quiet (ov_assign rfl rfl)) ?_
             refine QL.nil ?_
             refine then_normal (WP.ret ?_)
             refine retQ_ret (v := (.bool (([114, 101, 109, 111, 118, 101] : List UInt8) == x6))) Tryz.results84 (Res.tmp rfl Res.nil) rfl (fun w' s => ⟨_, ?_, s⟩)
             refine WL.nil (then_normal ?_)
             exact ⟨(([114, 101, 109, 111, 118, 101] : List UInt8) == x6), (Sub.cons rfl (Sub.cons rfl (Sub.cons rfl (Sub.cons rfl (Sub.cons rfl (Sub.cons rfl (Sub.cons rfl (Sub.nil _)))))))), fun w' s => (s.select [1, 2, 3] (by decide) rfl), hm⟩
            ·
             replace hm := ite_f hc9 hm
             exact (none_some hm).elim
      ·
       rintro g' S' ⟨c1, hsub2, hS2, hm⟩
       refine WP.sub hsub2 (WP.weaken hS2 ?_)
       replace hm := (congrFun hk3 c1).symm.trans hm
       refine WP.cond rfl (fun hc10 => ?_) (fun hc10 => ?_)
       ·
        replace hm := ite_t hc10 hm
        refine WP.seq (WP.region ?_)
        refine wq rfl rfl rfl (ov_move rfl rfl) ?_
        refine wq rfl rfl rfl (ov_assign rfl rfl) ?_
        refine WL.nil (then_normal (WP.ret (block_ret (then_ret (then_ret (block_ret (then_ret ?_)))))))
        refine retQ_ret (v := (.int .i64 i1)) Tryz.results83 (Res.tmp rfl Res.nil) rfl (fun w' s => ⟨_, ?_, s⟩)
        refine wq rfl rfl rfl (ov_build (r := (.agg #[(.int .i64 i1), (mkS []), (.int .i64 0), (.int .i64 0)])) rfl rfl (fun _ => by kernel_rfl)) ?_
        refine WL.step (Runs.free rfl) rfl rfl (os_alloc (cs := [(.int .i64 0), (mkS []), (.int .i64 0), (.int .i64 0)]) Tryz.zeroValue39 rfl rfl (fun b11 => ?_))
        refine WL.step0 (Runs.free rfl) rfl (os_store (i := 0) (vs := [(.int .i64 i1), (mkS []), (.int .i64 0), (.int .i64 0)]) (cs' := [(.int .i64 i1), (mkS []), (.int .i64 0), (.int .i64 0)]) Tryz.sizeOf39 rfl rfl rfl rfl rfl rfl rfl rfl rfl ?_)
        refine WL.nil (then_normal ?_)
        exact ⟨b11, i1, (Sub.cons rfl (Sub.cons rfl (Sub.cons rfl (Sub.cons rfl (Sub.cons rfl (Sub.cons rfl (Sub.nil _))))))), fun w' s => s, hm⟩
       ·
        replace hm := ite_f hc10 hm
        refine WP.skip (block_normal (then_normal (WP.region ?_)))
        refine wq rfl rfl rfl (ov_add rfl rfl rfl) ?_
        refine wq rfl rfl rfl (ov_move rfl rfl) ?_
        refine WL.nil (then_normal ?_)
        exact ⟨(IntKind.wrap .i64 (i1 + 1)), (Sub.cons rfl (Sub.cons rfl (Sub.cons rfl (Sub.cons rfl (Sub.cons rfl (Sub.nil _)))))), fun w' s => s, hm⟩
     ·
      replace hm := ite_f hc3 hm
      refine WP.exit (then_exit (then_exit (block_here (then_normal ?_))))
      exact ⟨(Sub.cons rfl (Sub.nil _)), fun w' s => s, hm⟩
   ·
    rintro g' S' ⟨hsub3, hS3, hm⟩
    refine WP.sub hsub3 (WP.weaken hS3 ?_)
    replace hm := hk2.symm.trans hm
    refine WP.seq (WP.region ?_)
    refine wq rfl rfl rfl (ov_assign rfl rfl) ?_
    refine WL.nil (then_normal (WP.ret ?_))
    refine retQ_ret (v := (.int .i64 (-1))) Tryz.results83 (Res.tmp rfl Res.nil) rfl (fun w' s => ⟨_, ?_, s⟩)
    refine wq rfl rfl rfl (ov_build (r := (.agg #[(.int .i64 (-1)), (mkS []), (.int .i64 0), (.int .i64 0)])) rfl rfl (fun _ => by kernel_rfl)) ?_
    refine WL.step (Runs.free rfl) rfl rfl (os_alloc (cs := [(.int .i64 0), (mkS []), (.int .i64 0), (.int .i64 0)]) Tryz.zeroValue39 rfl rfl (fun b12 => ?_))
    refine WL.step0 (Runs.free rfl) rfl (os_store (i := 0) (vs := [(.int .i64 (-1)), (mkS []), (.int .i64 0), (.int .i64 0)]) (cs' := [(.int .i64 (-1)), (mkS []), (.int .i64 0), (.int .i64 0)]) Tryz.sizeOf39 rfl rfl rfl rfl rfl rfl rfl rfl rfl ?_)
    refine WL.nil (then_normal ?_)
    exact ⟨b12, (-1), (Sub.cons rfl (Sub.cons rfl (Sub.cons rfl (Sub.cons rfl (Sub.cons rfl (Sub.cons rfl (Sub.nil _))))))), fun w' s => s, hm⟩
  ·
   rintro g' S' ⟨b13, i2, hsub4, hS4, hm⟩
   refine WP.sub hsub4 (WP.weaken hS4 ?_)
   replace hm := (congrFun hk1 i2).symm.trans hm
   refine WP.seq (WP.seq (WP.region ?_))
   refine wq rfl rfl rfl (ov_fieldAddr Tryz.underlying39 rfl rfl rfl Tryz.sizeOf3 rfl rfl) ?_
   refine wq rfl rfl rfl (ov_load_box (i := 0) Tryz.isAgg3 rfl rfl rfl rfl) ?_
   refine wq rfl rfl rfl (ov_lss rfl rfl rfl) ?_
   refine wq rfl rfl rfl (ov_move rfl rfl) ?_
   refine WL.cut_bool 4 25 (x := ((decide (i2 < 0)) || (decide ((r1.length : Int) < 2)))) ?_ ?_
   ·
    rcases Bool.eq_false_or_eq_true (decide (i2 < 0)) with hc11 | hc11
    ·
     skip
     refine WL.idle (Idle.no rfl rfl rfl hc11) rfl rfl ?_
     refine WL.idle (Idle.no rfl rfl rfl hc11) rfl rfl ?_
     refine WL.idle (Idle.no rfl rfl rfl hc11) rfl rfl ?_
     refine wq rfl rfl rfl (ov_pick_true rfl (guard_eq rfl hc11) rfl) ?_
     exact WL.nil ⟨Sub.cons' rfl (congrArg Value.bool (orT hc11)) (Sub.skip rfl (Sub.skip rfl (Sub.skip rfl (Sub.skip rfl (Sub.refl _))))), fun _ s => s⟩
    ·
     skip
     refine WL.quiet (Runs.yes rfl rfl rfl hc11) rfl rfl (OV.quiet (ov_load_box (i := 2) Tryz.isAgg45 rfl rfl rfl rfl)) ?_
     refine WL.quiet (Runs.yes rfl rfl rfl hc11) rfl rfl (OV.quiet (ov_len_slice Tryz.underlying45 rfl rfl)) ?_
     refine WL.quiet (Runs.yes rfl rfl rfl hc11) rfl rfl (OV.quiet (ov_lss rfl rfl rfl)) ?_
     refine wq rfl rfl rfl (ov_pick_false rfl (guard_eq rfl hc11) rfl) ?_
     exact WL.nil ⟨Sub.cons' rfl (congrArg Value.bool (orF hc11)) (Sub.skip rfl (Sub.skip rfl (Sub.skip rfl (Sub.skip rfl (Sub.refl _))))), fun _ s => s⟩
   refine WL.nil (then_normal ?_)
   refine WP.cond rfl (fun hc12 => ?_) (fun hc12 => ?_)
   ·
    replace hm := ite_t hc12 hm
    refine WP.seq (WP.region ?_)
    refine wq rfl rfl rfl (ov_build (r := (.agg #[(.int .i64 0), (mkS []), (.int .i64 0), (.int .i64 0)])) rfl rfl (fun _ => by kernel_rfl)) ?_
    refine WL.step0 (Runs.free rfl) rfl (os_store (i := 3) (vs := [(.int .i64 0), (mkS []), (.int .i64 0), (.int .i64 0)]) (cs' := [(.int .i64 0), (mkS []), (.int .i64 0), (.int .i64 0)]) Tryz.sizeOf39 rfl rfl rfl rfl rfl rfl rfl rfl rfl ?_)
    refine wq rfl rfl rfl (ov_assign rfl rfl) ?_
    refine WL.nil (then_normal (WP.ret (then_ret ?_)))
    obtain rfl := Option.some.inj hm
    refine retQ_ret Tryz.results68 (Res.cell rfl (box_loads (i := 3) Tryz.isAgg39 Tryz.sizeOf39 rfl rfl) (Res.tmp rfl Res.nil)) rfl (fun w' s => ⟨s.below, ?_⟩)
    exact rfl
   ·
    replace hm := ite_f hc12 hm
    refine WP.skip (then_normal (WP.seq (WP.region ?_)))
    refine wq rfl rfl rfl (ov_load_box (i := 2) Tryz.isAgg45 rfl rfl rfl rfl) ?_
    obtain ⟨x7, e8, hm⟩ := bind_some hm
    obtain ⟨h32, h33, h34, cs7, h35, h36⟩ := h1.get e8 (by decide)
    obtain rfl : cs7 = [(mkS x7)] := h35
    refine wq rfl rfl rfl (ov_indexAddr Tryz.underlying45 Tryz.sizeOf9 rfl rfl rfl h32 h33 h34) ?_
    refine wq rfl rfl rfl (ov_load_elem (v := (mkS x7)) Tryz.isAgg9 rfl rfl h36) ?_
    refine wq rfl rfl rfl (ov_fieldAddr Tryz.underlying39 rfl rfl rfl Tryz.sizeOf9 rfl rfl) ?_
    refine WL.step0 (Runs.free rfl) rfl (os_store (i := 0) (vs := [(mkS x7)]) (cs' := [(.int .i64 i2), (mkS x7), (.int .i64 0), (.int .i64 0)]) Tryz.sizeOf9 rfl rfl rfl rfl rfl rfl rfl rfl rfl ?_)
    refine WL.nil (then_normal ?_)
    obtain ⟨k4, hk4, hm⟩ := joinK_some hm
    refine WP.seq_join (fun g' S' => ∃ (i3 : Int), Sub [(0, (mkS p_s)), (2, (pB b1 0)), (4, (pB b2 0)), (5, (pB b4 0)), (6, (pB b13 0)), (1000000007, (.bool false))] g' ∧ (∀ w', S' w' → St w H [.blk b13 39 [(.int .i64 i2), (mkS x7), (.int .i64 i3), (.int .i64 0)], .blk b4 101 [(mkS [112, 97, 114, 116]), (.bool true), (.bool false), (.func (.func 56) #[] #[]), (mkS [99, 121, 99, 108, 101, 115]), (.bool true), (.bool true), (.func (.func 57) #[] #[]), (mkS [102, 97, 117, 108, 116]), (.bool false), (.bool false), (.func (.func 58) #[] #[]), (mkS [114, 101, 112, 97, 105, 114]), (.bool false), (.bool false), (.func (.func 59) #[] #[]), (mkS [114, 101, 112, 108, 97, 99, 101]), (.bool true), (.bool false), (.func (.func 60) #[] #[]), (mkS [114, 101, 109, 111, 118, 101]), (.bool false), (.bool false), (.func (.func 61) #[] #[])], .blk b2 45 [(.slice ao1 r1.length cap1)], .blk b1 39 [(.int .i64 0), (mkS []), (.int .i64 0), (.int .i64 0)]] H1 w') ∧ k4 i3 = some r) ?_ ?_
    ·
     skip
     obtain ⟨k5, hk5, hm⟩ := joinK_some hm
     refine WP.seq_join (fun g' S' => ∃ (c2 : Bool), Sub [(0, (mkS p_s)), (2, (pB b1 0)), (4, (pB b2 0)), (5, (pB b4 0)), (6, (pB b13 0)), (40, (.bool c2)), (1000000007, (.bool false))] g' ∧ (∀ w', S' w' → St w H [.blk b13 39 [(.int .i64 i2), (mkS x7), (.int .i64 0), (.int .i64 0)], .blk b4 101 [(mkS [112, 97, 114, 116]), (.bool true), (.bool false), (.func (.func 56) #[] #[]), (mkS [99, 121, 99, 108, 101, 115]), (.bool true), (.bool true), (.func (.func 57) #[] #[]), (mkS [102, 97, 117, 108, 116]), (.bool false), (.bool false), (.func (.func 58) #[] #[]), (mkS [114, 101, 112, 97, 105, 114]), (.bool false), (.bool false), (.func (.func 59) #[] #[]), (mkS [114, 101, 112, 108, 97, 99, 101]), (.bool true), (.bool false), (.func (.func 60) #[] #[]), (mkS [114, 101, 109, 111, 118, 101]), (.bool false), (.bool false), (.func (.func 61) #[] #[])], .blk b2 45 [(.slice ao1 r1.length cap1)], .blk b1 39 [(.int .i64 0), (mkS []), (.int .i64 0), (.int .i64 0)]] H1 w') ∧ k5 c2 = some r) ?_ ?_
     ·
      skip
      refine WP.region ?_
      refine wq rfl rfl rfl (ov_fieldAddr Tryz.underlying39 rfl rfl rfl Tryz.sizeOf3 rfl rfl) ?_
      refine wq rfl rfl rfl (ov_load_box (i := 0) Tryz.isAgg3 rfl rfl rfl rfl) ?_
      rcases Bool.eq_false_or_eq_true (i2 == 0) with hc13 | hc13
      ·
       replace hm := ite_t hc13 hm
       refine wq rfl rfl rfl (ov_indexAddr_at (j := 0) Tryz.underlying101 Tryz.sizeOf100 rfl rfl rfl (eq_of_beq hc13) rfl) ?_
       refine wq rfl rfl rfl (ov_fieldAddr Tryz.underlying100 rfl rfl rfl Tryz.sizeOf4 rfl rfl) ?_
       refine wq rfl rfl rfl (ov_load_box (i := 1) Tryz.isAgg4 rfl rfl rfl rfl) ?_
       refine wq rfl rfl rfl (ov_move rfl rfl) ?_
       refine WL.quiet (Runs.yes rfl rfl rfl rfl) rfl rfl (OV.quiet (ov_load_box (i := 2) Tryz.isAgg45 rfl rfl rfl rfl)) ?_
       refine WL.quiet (Runs.yes rfl rfl rfl rfl) rfl rfl (OV.quiet (ov_len_slice Tryz.underlying45 rfl rfl)) ?_
       refine WL.quiet (Runs.yes rfl rfl rfl rfl) rfl rfl (OV.quiet (ov_gtr rfl rfl rfl)) ?_
       refine wq rfl rfl rfl (ov_pick_true rfl (guard_eq rfl rfl) rfl) ?_
       refine WL.nil (then_normal ?_)
       exact ⟨(decide ((r1.length : Int) > 2)), (Sub.cons rfl (Sub.cons rfl (Sub.cons rfl (Sub.cons rfl (Sub.cons rfl (Sub.cons rfl (Sub.cons rfl (Sub.nil _)))))))), fun w' s => s, hm⟩
      ·
       replace hm := ite_f hc13 hm
       rcases Bool.eq_false_or_eq_true (i2 == 1) with hc14 | hc14
       ·
        replace hm := ite_t hc14 hm
        refine wq rfl rfl rfl (ov_indexAddr_at (j := 1) Tryz.underlying101 Tryz.sizeOf100 rfl rfl rfl (eq_of_beq hc14) rfl) ?_
        refine wq rfl rfl rfl (ov_fieldAddr Tryz.underlying100 rfl rfl rfl Tryz.sizeOf4 rfl rfl) ?_
        refine wq rfl rfl rfl (ov_load_box (i := 1) Tryz.isAgg4 rfl rfl rfl rfl) ?_
        refine wq rfl rfl rfl (ov_move rfl rfl) ?_
        refine WL.quiet (Runs.yes rfl rfl rfl rfl) rfl rfl (OV.quiet (ov_load_box (i := 2) Tryz.isAgg45 rfl rfl rfl rfl)) ?_
        refine WL.quiet (Runs.yes rfl rfl rfl rfl) rfl rfl (OV.quiet (ov_len_slice Tryz.underlying45 rfl rfl)) ?_
        refine WL.quiet (Runs.yes rfl rfl rfl rfl) rfl rfl (OV.quiet (ov_gtr rfl rfl rfl)) ?_
        refine wq rfl rfl rfl (ov_pick_true rfl (guard_eq rfl rfl) rfl) ?_
        refine WL.nil (then_normal ?_)
        exact ⟨(decide ((r1.length : Int) > 2)), (Sub.cons rfl (Sub.cons rfl (Sub.cons rfl (Sub.cons rfl (Sub.cons rfl (Sub.cons rfl (Sub.cons rfl (Sub.nil _)))))))), fun w' s => s, hm⟩
       ·
        replace hm := ite_f hc14 hm
        rcases Bool.eq_false_or_eq_true (i2 == 2) with hc15 | hc15
        ·
         replace hm := ite_t hc15 hm
         refine wq rfl rfl rfl (ov_indexAddr_at (j := 2) Tryz.underlying101 Tryz.sizeOf100 rfl rfl rfl (eq_of_beq hc15) rfl) ?_
         refine wq rfl rfl rfl (ov_fieldAddr Tryz.underlying100 rfl rfl rfl Tryz.sizeOf4 rfl rfl) ?_
         refine wq rfl rfl rfl (ov_load_box (i := 1) Tryz.isAgg4 rfl rfl rfl rfl) ?_
         refine wq rfl rfl rfl (ov_move rfl rfl) ?_
         refine WL.idle (Idle.no rfl rfl rfl rfl) rfl rfl ?_
         refine WL.idle (Idle.no rfl rfl rfl rfl) rfl rfl ?_
         refine WL.idle (Idle.no rfl rfl rfl rfl) rfl rfl ?_
         refine wq rfl rfl rfl (ov_pick_false rfl (guard_eq rfl rfl) rfl) ?_
         refine WL.nil (then_normal ?_)
         exact ⟨false, (Sub.cons rfl (Sub.cons rfl (Sub.cons rfl (Sub.cons rfl (Sub.cons rfl (Sub.cons rfl (Sub.cons rfl (Sub.nil _)))))))), fun w' s => s, hm⟩
        ·
         replace hm := ite_f hc15 hm
         rcases Bool.eq_false_or_eq_true (i2 == 3) with hc16 | hc16
         ·
          replace hm := ite_t hc16 hm
          refine wq rfl rfl rfl (ov_indexAddr_at (j := 3) Tryz.underlying101 Tryz.sizeOf100 rfl rfl rfl (eq_of_beq hc16) rfl) ?_
          refine wq rfl rfl rfl (ov_fieldAddr Tryz.underlying100 rfl rfl rfl Tryz.sizeOf4 rfl rfl) ?_
          refine wq rfl rfl rfl (ov_load_box (i := 1) Tryz.isAgg4 rfl rfl rfl rfl) ?_
          refine wq rfl rfl rfl (ov_move rfl rfl) ?_
          refine WL.idle (Idle.no rfl rfl rfl rfl) rfl rfl ?_
          refine WL.idle (Idle.no rfl rfl rfl rfl) rfl rfl ?_
          refine WL.idle (Idle.no rfl rfl rfl rfl) rfl rfl ?_
          refine wq rfl rfl rfl (ov_pick_false rfl (guard_eq rfl rfl) rfl) ?_
          refine WL.nil (then_normal ?_)
          exact ⟨false, (Sub.cons rfl (Sub.cons rfl (Sub.cons rfl (Sub.cons rfl (Sub.cons rfl (Sub.cons rfl (Sub.cons rfl (Sub.nil _)))))))), fun w' s => s, hm⟩
         ·
          replace hm := ite_f hc16 hm
          rcases Bool.eq_false_or_eq_true (i2 == 4) with hc17 | hc17
          ·
           replace hm := ite_t hc17 hm
           refine wq rfl rfl rfl (ov_indexAddr_at (j := 4) Tryz.underlying101 Tryz.sizeOf100 rfl rfl rfl (eq_of_beq hc17) rfl) ?_
           refine wq rfl rfl rfl (ov_fieldAddr Tryz.underlying100 rfl rfl rfl Tryz.sizeOf4 rfl rfl) ?_
           refine wq rfl rfl rfl (ov_load_box (i := 1) Tryz.isAgg4 rfl rfl rfl rfl) ?_
           refine wq rfl rfl rfl (ov_move rfl rfl) ?_
           refine WL.quiet (Runs.yes rfl rfl rfl rfl) rfl rfl (OV.quiet (ov_load_box (i := 2) Tryz.isAgg45 rfl rfl rfl rfl)) ?_
           refine WL.quiet (Runs.yes rfl rfl rfl rfl) rfl rfl (OV.quiet (ov_len_slice Tryz.underlying45 rfl rfl)) ?_
           refine WL.quiet (Runs.yes rfl rfl rfl rfl) rfl rfl (OV.quiet (ov_gtr rfl rfl rfl)) ?_
           refine wq rfl rfl rfl (ov_pick_true rfl (guard_eq rfl rfl) rfl) ?_
           refine WL.nil (then_normal ?_)
           exact ⟨(decide ((r1.length : Int) > 2)), (Sub.cons rfl (Sub.cons rfl (Sub.cons rfl (Sub.cons rfl (Sub.cons rfl (Sub.cons rfl (Sub.cons rfl (Sub.nil _)))))))), fun w' s => s, hm⟩
          ·
           replace hm := ite_f hc17 hm
           rcases Bool.eq_false_or_eq_true (i2 == 5) with hc18 | hc18
           ·
            replace hm := ite_t hc18 hm
            refine wq rfl rfl rfl (ov_indexAddr_at (j := 5) Tryz.underlying101 Tryz.sizeOf100 rfl rfl rfl (eq_of_beq hc18) rfl) ?_
            refine wq rfl rfl rfl (ov_fieldAddr Tryz.underlying100 rfl rfl rfl Tryz.sizeOf4 rfl rfl) ?_
            refine wq rfl rfl rfl (ov_load_box (i := 1) Tryz.isAgg4 rfl rfl rfl rfl) ?_
            refine wq rfl rfl rfl (ov_move rfl rfl) ?_
            refine WL.idle (Idle.no rfl rfl rfl rfl) rfl rfl ?_
            refine WL.idle (Idle.no rfl rfl rfl rfl) rfl rfl ?_
            refine WL.idle (Idle.no rfl rfl rfl rfl) rfl rfl ?_
            refine wq rfl rfl rfl (ov_pick_false rfl (guard_eq rfl rfl) rfl) ?_
            refine WL.nil (then_normal ?_)
            exact ⟨false, (Sub.cons rfl (Sub.cons rfl (Sub.cons rfl (Sub.cons rfl (Sub.cons rfl (Sub.cons rfl (Sub.cons rfl (Sub.nil _)))))))), fun w' s => s, hm⟩
           ·
            replace hm := ite_f hc18 hm
            exact (none_some hm).elim
     ·
      rintro g' S' ⟨c2, hsub5, hS5, hm⟩
      refine WP.sub hsub5 (WP.weaken hS5 ?_)
      replace hm := (congrFun hk5 c2).symm.trans hm
      refine WP.cond rfl (fun hc19 => ?_) (fun hc19 => ?_)
      ·
       replace hm := ite_t hc19 hm
       refine WP.region ?_
       refine wq rfl rfl rfl (ov_load_box (i := 2) Tryz.isAgg45 rfl rfl rfl rfl) ?_
       obtain ⟨x8, e9, hm⟩ := bind_some hm
       obtain ⟨h37, h38, h39, cs8, h40, h41⟩ := h1.get e9 (by decide)
       obtain rfl : cs8 = [(mkS x8)] := h40
       refine wq rfl rfl rfl (ov_indexAddr Tryz.underlying45 Tryz.sizeOf9 rfl rfl rfl h37 h38 h39) ?_
       refine wq rfl rfl rfl (ov_load_elem (v := (mkS x8)) Tryz.isAgg9 rfl rfl h41) ?_
       obtain ⟨r2, e10, hm⟩ := bind_some hm
       refine WL.quiet (Runs.free rfl) rfl rfl (oq_con (r := (.tuple #[(.int .i64 r2.1), (.int .i64 r2.2)])) Tryz.call85 rfl rfl (fun w' s => ⟨_, (lexer_Value_con x8  w' H1 s.hold hG r2 e10)⟩)) ?_
       refine wq rfl rfl rfl (ov_move rfl rfl) ?_
       refine wq rfl rfl rfl (ov_extract rfl rfl rfl) ?_
       refine wq rfl rfl rfl (ov_extract rfl rfl rfl) ?_
       refine wq rfl rfl rfl (ov_fieldAddr Tryz.underlying39 rfl rfl rfl Tryz.sizeOf3 rfl rfl) ?_
       refine WL.step0 (Runs.free rfl) rfl (os_store (i := 0) (vs := [(.int .i64 r2.1)]) (cs' := [(.int .i64 i2), (mkS x7), (.int .i64 r2.1), (.int .i64 0)]) Tryz.sizeOf3 rfl rfl rfl rfl rfl rfl rfl rfl rfl ?_)
       refine WL.nil (then_normal ?_)
       exact ⟨r2.1, (Sub.cons rfl (Sub.cons rfl (Sub.cons rfl (Sub.cons rfl (Sub.cons rfl (Sub.cons rfl (Sub.nil _))))))), fun w' s => s, hm⟩
      ·
       replace hm := ite_f hc19 hm
       refine WP.skip (then_normal ?_)
       exact ⟨0, (Sub.cons rfl (Sub.cons rfl (Sub.cons rfl (Sub.cons rfl (Sub.cons rfl (Sub.cons rfl (Sub.nil _))))))), fun w' s => s, hm⟩
    ·
     rintro g' S' ⟨i3, hsub6, hS6, hm⟩
     refine WP.sub hsub6 (WP.weaken hS6 ?_)
     replace hm := (congrFun hk4 i3).symm.trans hm
     obtain ⟨k6, hk6, hm⟩ := joinK_some hm
     refine WP.seq_join (fun g' S' => ∃ (i4 : Int), Sub [(0, (mkS p_s)), (2, (pB b1 0)), (6, (pB b13 0)), (1000000007, (.bool false))] g' ∧ (∀ w', S' w' → St w H [.blk b13 39 [(.int .i64 i2), (mkS x7), (.int .i64 i3), (.int .i64 i4)], .blk b1 39 [(.int .i64 0), (mkS []), (.int .i64 0), (.int .i64 0)]] H1 w') ∧ k6 i4 = some r) ?_ ?_
     ·
      skip
      obtain ⟨k7, hk7, hm⟩ := joinK_some hm
      refine WP.seq_join (fun g' S' => ∃ (c3 : Bool), Sub [(0, (mkS p_s)), (2, (pB b1 0)), (4, (pB b2 0)), (6, (pB b13 0)), (58, (.bool c3)), (1000000007, (.bool false))] g' ∧ (∀ w', S' w' → St w H [.blk b13 39 [(.int .i64 i2), (mkS x7), (.int .i64 i3), (.int .i64 0)], .blk b2 45 [(.slice ao1 r1.length cap1)], .blk b1 39 [(.int .i64 0), (mkS []), (.int .i64 0), (.int .i64 0)]] H1 w') ∧ k7 c3 = some r) ?_ ?_
      ·
       skip
       refine WP.region ?_
       refine wq rfl rfl rfl (ov_fieldAddr Tryz.underlying39 rfl rfl rfl Tryz.sizeOf3 rfl rfl) ?_
       refine wq rfl rfl rfl (ov_load_box (i := 0) Tryz.isAgg3 rfl rfl rfl rfl) ?_
       rcases Bool.eq_false_or_eq_true (i2 == 0) with hc20 | hc20
       ·
        replace hm := ite_t hc20 hm
        refine wq rfl rfl rfl (ov_indexAddr_at (j := 0) Tryz.underlying101 Tryz.sizeOf100 rfl rfl rfl (eq_of_beq hc20) rfl) ?_
        refine wq rfl rfl rfl (ov_fieldAddr Tryz.underlying100 rfl rfl rfl Tryz.sizeOf4 rfl rfl) ?_
        refine wq rfl rfl rfl (ov_load_box (i := 1) Tryz.isAgg4 rfl rfl rfl rfl) ?_
        refine wq rfl rfl rfl (ov_move rfl rfl) ?_
        refine WL.idle (Idle.no rfl rfl rfl rfl) rfl rfl ?_
        refine WL.idle (Idle.no rfl rfl rfl rfl) rfl rfl ?_
        refine WL.idle (Idle.no rfl rfl rfl rfl) rfl rfl ?_
        refine wq rfl rfl rfl (ov_pick_false rfl (guard_eq rfl rfl) rfl) ?_
        refine WL.nil (then_normal ?_)
        exact ⟨false, (Sub.cons rfl (Sub.cons rfl (Sub.cons rfl (Sub.cons rfl (Sub.cons rfl (Sub.cons rfl (Sub.nil _))))))), fun w' s => (s.select [0, 2, 3] (by decide) rfl), hm⟩
       ·
        replace hm := ite_f hc20 hm
        rcases Bool.eq_false_or_eq_true (i2 == 1) with hc21 | hc21
        ·
         replace hm := ite_t hc21 hm
         refine wq rfl rfl rfl (ov_indexAddr_at (j := 1) Tryz.underlying101 Tryz.sizeOf100 rfl rfl rfl (eq_of_beq hc21) rfl) ?_
         refine wq rfl rfl rfl (ov_fieldAddr Tryz.underlying100 rfl rfl rfl Tryz.sizeOf4 rfl rfl) ?_
         refine wq rfl rfl rfl (ov_load_box (i := 1) Tryz.isAgg4 rfl rfl rfl rfl) ?_
         refine wq rfl rfl rfl (ov_move rfl rfl) ?_
         refine WL.quiet (Runs.yes rfl rfl rfl rfl) rfl rfl (OV.quiet (ov_load_box (i := 2) Tryz.isAgg45 rfl rfl rfl rfl)) ?_
         refine WL.quiet (Runs.yes rfl rfl rfl rfl) rfl rfl (OV.quiet (ov_len_slice Tryz.underlying45 rfl rfl)) ?_
         refine WL.quiet (Runs.yes rfl rfl rfl rfl) rfl rfl (OV.quiet (ov_gtr rfl rfl rfl)) ?_
         refine wq rfl rfl rfl (ov_pick_true rfl (guard_eq rfl rfl) rfl) ?_
         refine WL.nil (then_normal ?_)
         exact ⟨(decide ((r1.length : Int) > 3)), (Sub.cons rfl (Sub.cons rfl (Sub.cons rfl (Sub.cons rfl (Sub.cons rfl (Sub.cons rfl (Sub.nil _))))))), fun w' s => (s.select [0, 2, 3] (by decide) rfl), hm⟩
        ·
         replace hm := ite_f hc21 hm
         rcases Bool.eq_false_or_eq_true (i2 == 2) with hc22 | hc22
         ·
          replace hm := ite_t hc22 hm
          refine wq rfl rfl rfl (ov_indexAddr_at (j := 2) Tryz.underlying101 Tryz.sizeOf100 rfl rfl rfl (eq_of_beq hc22) rfl) ?_
          refine wq rfl rfl rfl (ov_fieldAddr Tryz.underlying100 rfl rfl rfl Tryz.sizeOf4 rfl rfl) ?_
          refine wq rfl rfl rfl (ov_load_box (i := 1) Tryz.isAgg4 rfl rfl rfl rfl) ?_
          refine wq rfl rfl rfl (ov_move rfl rfl) ?_
          refine WL.idle (Idle.no rfl rfl rfl rfl) rfl rfl ?_
          refine WL.idle (Idle.no rfl rfl rfl rfl) rfl rfl ?_
          refine WL.idle (Idle.no rfl rfl rfl rfl) rfl rfl ?_
          refine wq rfl rfl rfl (ov_pick_false rfl (guard_eq rfl rfl) rfl) ?_
          refine WL.nil (then_normal ?_)
          exact ⟨false, (Sub.cons rfl (Sub.cons rfl (Sub.cons rfl (Sub.cons rfl (Sub.cons rfl (Sub.cons rfl (Sub.nil _))))))), fun w' s => (s.select [0, 2, 3] (by decide) rfl), hm⟩
         ·
          replace hm := ite_f hc22 hm
          rcases Bool.eq_false_or_eq_true (i2 == 3) with hc23 | hc23
          ·
           replace hm := ite_t hc23 hm
           refine wq rfl rfl rfl (ov_indexAddr_at (j := 3) Tryz.underlying101 Tryz.sizeOf100 rfl rfl rfl (eq_of_beq hc23) rfl) ?_
           refine wq rfl rfl rfl (ov_fieldAddr Tryz.underlying100 rfl rfl rfl Tryz.sizeOf4 rfl rfl) ?_
           refine wq rfl rfl rfl (ov_load_box (i := 1) Tryz.isAgg4 rfl rfl rfl rfl) ?_
           refine wq rfl rfl rfl (ov_move rfl rfl) ?_
           refine WL.idle (Idle.no rfl rfl rfl rfl) rfl rfl ?_
           refine WL.idle (Idle.no rfl rfl rfl rfl) rfl rfl ?_
           refine WL.idle (Idle.no rfl rfl rfl rfl) rfl rfl ?_
           refine wq rfl rfl rfl (ov_pick_false rfl (guard_eq rfl rfl) rfl) ?_
           refine WL.nil (then_normal ?_)
           exact ⟨false, (Sub.cons rfl (Sub.cons rfl (Sub.cons rfl (Sub.cons rfl (Sub.cons rfl (Sub.cons rfl (Sub.nil _))))))), fun w' s => (s.select [0, 2, 3] (by decide) rfl), hm⟩
          ·
           replace hm := ite_f hc23 hm
           rcases Bool.eq_false_or_eq_true (i2 == 4) with hc24 | hc24
           ·
            replace hm := ite_t hc24 hm
            refine wq rfl rfl rfl (ov_indexAddr_at (j := 4) Tryz.underlying101 Tryz.sizeOf100 rfl rfl rfl (eq_of_beq hc24) rfl) ?_
            refine wq rfl rfl rfl (ov_fieldAddr Tryz.underlying100 rfl rfl rfl Tryz.sizeOf4 rfl rfl) ?_
            refine wq rfl rfl rfl (ov_load_box (i := 1) Tryz.isAgg4 rfl rfl rfl rfl) ?_
            refine wq rfl rfl rfl (ov_move rfl rfl) ?_
            refine WL.idle (Idle.no rfl rfl rfl rfl) rfl rfl ?_
            refine WL.idle (Idle.no rfl rfl rfl rfl) rfl rfl ?_
            refine WL.idle (Idle.no rfl rfl rfl rfl) rfl rfl ?_
            refine wq rfl rfl rfl (ov_pick_false rfl (guard_eq rfl rfl) rfl) ?_
            refine WL.nil (then_normal ?_)
            exact ⟨false, (Sub.cons rfl (Sub.cons rfl (Sub.cons rfl (Sub.cons rfl (Sub.cons rfl (Sub.cons rfl (Sub.nil _))))))), fun w' s => (s.select [0, 2, 3] (by decide) rfl), hm⟩
           ·
            replace hm := ite_f hc24 hm
            rcases Bool.eq_false_or_eq_true (i2 == 5) with hc25 | hc25
            ·
             replace hm := ite_t hc25 hm
             refine wq rfl rfl rfl (ov_indexAddr_at (j := 5) Tryz.underlying101 Tryz.sizeOf100 rfl rfl rfl (eq_of_beq hc25) rfl) ?_
             refine wq rfl rfl rfl (ov_fieldAddr Tryz.underlying100 rfl rfl rfl Tryz.sizeOf4 rfl rfl) ?_
             refine wq rfl rfl rfl (ov_load_box (i := 1) Tryz.isAgg4 rfl rfl rfl rfl) ?_
             refine wq rfl rfl rfl (ov_move rfl rfl) ?_
             refine WL.idle (Idle.no rfl rfl rfl rfl) rfl rfl ?_
             refine WL.idle (Idle.no rfl rfl rfl rfl) rfl rfl ?_
             refine WL.idle (Idle.no rfl rfl rfl rfl) rfl rfl ?_
             refine wq rfl rfl rfl (ov_pick_false rfl (guard_eq rfl rfl) rfl) ?_
             refine WL.nil (then_normal ?_)
             exact ⟨false, (Sub.cons rfl (Sub.cons rfl (Sub.cons rfl (Sub.cons rfl (Sub.cons rfl (Sub.cons rfl (Sub.nil _))))))), fun w' s => (s.select [0, 2, 3] (by decide) rfl), hm⟩
            ·
             replace hm := ite_f hc25 hm
             exact (none_some hm).elim
      ·
       rintro g' S' ⟨c3, hsub7, hS7, hm⟩
       refine WP.sub hsub7 (WP.weaken hS7 ?_)
       replace hm := (congrFun hk7 c3).symm.trans hm
       refine WP.cond rfl (fun hc26 => ?_) (fun hc26 => ?_)
       ·
        replace hm := ite_t hc26 hm
        refine WP.region ?_
        refine wq rfl rfl rfl (ov_load_box (i := 1) Tryz.isAgg45 rfl rfl rfl rfl) ?_
        obtain ⟨x9, e11, hm⟩ := bind_some hm
        obtain ⟨h42, h43, h44, cs9, h45, h46⟩ := h1.get e11 (by decide)
        obtain rfl : cs9 = [(mkS x9)] := h45
        refine wq rfl rfl rfl (ov_indexAddr Tryz.underlying45 Tryz.sizeOf9 rfl rfl rfl h42 h43 h44) ?_
        refine wq rfl rfl rfl (ov_load_elem (v := (mkS x9)) Tryz.isAgg9 rfl rfl h46) ?_
        obtain ⟨r3, e12, hm⟩ := bind_some hm
        refine WL.quiet (Runs.free rfl) rfl rfl (oq_con (r := (.tuple #[(.int .i64 r3.1), (.int .i64 r3.2)])) Tryz.call85 rfl rfl (fun w' s => ⟨_, (lexer_Value_con x9  w' H1 s.hold hG r3 e12)⟩)) ?_
        refine wq rfl rfl rfl (ov_move rfl rfl) ?_
        refine wq rfl rfl rfl (ov_extract rfl rfl rfl) ?_
        refine wq rfl rfl rfl (ov_extract rfl rfl rfl) ?_
        refine wq rfl rfl rfl (ov_fieldAddr Tryz.underlying39 rfl rfl rfl Tryz.sizeOf3 rfl rfl) ?_
        refine WL.step0 (Runs.free rfl) rfl (os_store (i := 0) (vs := [(.int .i64 r3.1)]) (cs' := [(.int .i64 i2), (mkS x7), (.int .i64 i3), (.int .i64 r3.1)]) Tryz.sizeOf3 rfl rfl rfl rfl rfl rfl rfl rfl rfl ?_)
        refine WL.nil (then_normal ?_)
        exact ⟨r3.1, (Sub.cons rfl (Sub.cons rfl (Sub.cons rfl (Sub.cons rfl (Sub.nil _))))), fun w' s => (s.select [0, 2] (by decide) rfl), hm⟩
       ·
        replace hm := ite_f hc26 hm
        refine WP.skip (then_normal ?_)
        exact ⟨0, (Sub.cons rfl (Sub.cons rfl (Sub.cons rfl (Sub.cons rfl (Sub.nil _))))), fun w' s => (s.select [0, 2] (by decide) rfl), hm⟩
     ·
      rintro g' S' ⟨i4, hsub8, hS8, hm⟩
      refine WP.sub hsub8 (WP.weaken hS8 ?_)
      replace hm := (congrFun hk6 i4).symm.trans hm
      refine WP.seq (WP.seq (WP.region ?_))
      refine wq rfl rfl rfl (ov_load_whole (i := 0) Tryz.isAgg39 Tryz.sizeOf39 rfl rfl rfl rfl) ?_
      obtain ⟨r4, e13, hm⟩ := bind_some hm
      refine WL.quiet (Runs.free rfl) rfl rfl (oq_con (r := (.int .i64 r4)) Tryz.call20 rfl rfl (fun w' s => ⟨_, (journal_Right_con (Entry.mk i2 x7 i3 i4)  w' H1 s.hold hG r4 e13)⟩)) ?_
      refine wq rfl rfl rfl (ov_neq rfl rfl rfl) ?_
      refine wq rfl rfl rfl (ov_move rfl rfl) ?_
      obtain ⟨c4, e14, hm⟩ := bind_some hm
      refine WL.cut_bool 5 75 (x := c4) ?_ ?_
      ·
       rcases Bool.eq_false_or_eq_true (r4 != 0) with hc27 | hc27
       ·
        skip
        replace hm := ite_t hc27 e14
        refine WL.idle (Idle.no rfl rfl rfl hc27) rfl rfl ?_
        refine WL.idle (Idle.no rfl rfl rfl hc27) rfl rfl ?_
        refine WL.idle (Idle.no rfl rfl rfl hc27) rfl rfl ?_
        refine WL.idle (Idle.no rfl rfl rfl hc27) rfl rfl ?_
        refine wq rfl rfl rfl (ov_pick_true rfl (guard_eq rfl hc27) rfl) ?_
        exact WL.nil ⟨Sub.cons' rfl (congrArg Value.bool (Option.some.inj hm)) (Sub.skip rfl (Sub.skip rfl (Sub.skip rfl (Sub.skip rfl (Sub.skip rfl (Sub.refl _)))))), fun _ s => s⟩
       ·
        skip
        replace hm := ite_f hc27 e14
        refine WL.quiet (Runs.yes rfl rfl rfl hc27) rfl rfl (OV.quiet (ov_load_whole (i := 0) Tryz.isAgg39 Tryz.sizeOf39 rfl rfl rfl rfl)) ?_
        obtain ⟨r5, e15, hm⟩ := bind_some hm
        refine WL.quiet (Runs.yes rfl rfl rfl hc27) rfl rfl (oq_con (r := (mkS r5)) Tryz.call29 rfl rfl (fun w' s => ⟨_, (journal_text_con (Entry.mk i2 x7 i3 i4)  w' H1 s.hold hG r5 e15)⟩)) ?_
        refine WL.quiet (Runs.yes rfl rfl rfl hc27) rfl rfl (OV.quiet (ov_move rfl rfl)) ?_
        refine WL.quiet (Runs.yes rfl rfl rfl hc27) rfl rfl (OV.quiet (ov_sneq rfl rfl rfl)) ?_
        refine wq rfl rfl rfl (ov_pick_false rfl (guard_eq rfl hc27) rfl) ?_
        exact WL.nil ⟨Sub.cons' rfl (congrArg Value.bool (Option.some.inj hm)) (Sub.skip rfl (Sub.skip rfl (Sub.skip rfl (Sub.skip rfl (Sub.skip rfl (Sub.refl _)))))), fun _ s => s⟩
      refine WL.nil (then_normal ?_)
      refine WP.cond rfl (fun hc28 => ?_) (fun hc28 => ?_)
      ·
       replace hm := ite_t hc28 hm
       refine WP.seq (WP.region ?_)
       refine wq rfl rfl rfl (ov_build (r := (.agg #[(.int .i64 0), (mkS []), (.int .i64 0), (.int .i64 0)])) rfl rfl (fun _ => by kernel_rfl)) ?_
       refine WL.step0 (Runs.free rfl) rfl (os_store (i := 1) (vs := [(.int .i64 0), (mkS []), (.int .i64 0), (.int .i64 0)]) (cs' := [(.int .i64 0), (mkS []), (.int .i64 0), (.int .i64 0)]) Tryz.sizeOf39 rfl rfl rfl rfl rfl rfl rfl rfl rfl ?_)
       refine wq rfl rfl rfl (ov_assign rfl rfl) ?_
       refine WL.nil (then_normal (WP.ret (then_ret ?_)))
       obtain rfl := Option.some.inj hm
       refine retQ_ret Tryz.results68 (Res.cell rfl (box_loads (i := 1) Tryz.isAgg39 Tryz.sizeOf39 rfl rfl) (Res.tmp rfl Res.nil)) rfl (fun w' s => ⟨s.below, ?_⟩)
       exact rfl
      ·
       replace hm := ite_f hc28 hm
       refine WP.skip (then_normal (WP.seq (WP.region ?_)))
       refine wq rfl rfl rfl (ov_load_whole (i := 0) Tryz.isAgg39 Tryz.sizeOf39 rfl rfl rfl rfl) ?_
       refine WL.step0 (Runs.free rfl) rfl (os_store (i := 1) (vs := [(.int .i64 i2), (mkS x7), (.int .i64 i3), (.int .i64 i4)]) (cs' := [(.int .i64 i2), (mkS x7), (.int .i64 i3), (.int .i64 i4)]) Tryz.sizeOf39 rfl rfl rfl rfl rfl rfl rfl rfl rfl ?_)
       refine wq rfl rfl rfl (ov_assign rfl rfl) ?_
       refine WL.nil (then_normal (WP.ret ?_))
       obtain rfl := Option.some.inj hm
       refine retQ_ret Tryz.results68 (Res.cell rfl (box_loads (i := 1) Tryz.isAgg39 Tryz.sizeOf39 rfl rfl) (Res.tmp rfl Res.nil)) rfl (fun w' s => ⟨s.below, ?_⟩)
       exact rfl

theorem journal_readAll_con (p_text : (List UInt8)) (w : World) (H : Heap) (hH : Le H (hp w)) (hG : Glob H) (r : (JRead × Int)) (hm : journal_readAll p_text = some r) :
  Con Tryz.prog 35 [(mkS p_text)] w H (fun v H' => ∃ (ao1 : Option Addr) (cap1 : Nat), v = (.tuple #[(.agg #[(.slice ao1 r.1.m.items.length cap1), (.int .i64 r.1.m.cycles), (.int .i64 r.1.mark), (.int .i64 r.1.lines), (.int .i64 r.1.size)]), (.int .i64 r.2)]) ∧ SL H' encItem ao1 r.1.m.items ∧ r.1.m.items.length ≤ cap1) := by
 unfold journal_readAll at hm
 refine con_of hH Tryz.func35 rfl 20 Tryz.ntmps35 rfl ?_
 refine WP.seq (WP.region ?_)
 refine WL.step (Runs.free rfl) rfl rfl (os_alloc (cs := [(.slice none 0 0), (.int .i64 0), (.int .i64 0), (.int .i64 0), (.int .i64 0)]) Tryz.zeroValue88 rfl rfl (fun b1 => ?_))
 refine WL.step (Runs.free rfl) rfl rfl (os_alloc (cs := [(.int .i64 0)]) Tryz.zeroValue30 rfl rfl (fun b2 => ?_))
 refine WL.nil (then_normal (WP.seq (WP.region ?_)))
 refine WL.step (Runs.free rfl) rfl rfl (os_alloc (cs := [(.slice none 0 0), (.int .i64 0), (.int .i64 0), (.int .i64 0), (.int .i64 0)]) Tryz.zeroValue88 rfl rfl (fun b3 => ?_))
 refine WL.nil (then_normal (WP.seq (WP.seq (WP.region ?_))))
 refine wq rfl rfl rfl (ov_move rfl rfl) ?_
 refine WL.step (Runs.free rfl) rfl rfl (os_inline (cap := []) (vs := [(mkS p_text)]) Tryz.call50 rfl rfl rfl Tryz.func50 rfl 4 Tryz.ntmps50 rfl (fun w' s => ?_))
 refine WP.seq (WP.region ?_)
 refine WL.step (Runs.free rfl) rfl rfl (os_box (cs := [(mkS p_text)]) rfl rfl rfl (fun b4 => ?_))
 refine wq rfl rfl rfl (ov_assign rfl rfl) ?_
 refine WL.nil (then_normal (WP.seq (WP.region ?_)))
 refine wq rfl rfl rfl (ov_makeFunc' (first := []) rfl rfl rfl) ?_
 refine wq rfl rfl rfl (ov_assign rfl rfl) ?_
 refine WL.nil (then_normal (WP.ret ?_))
 refine retQ_ret (v := (.func (.func 65) #[] #[(pB b4 0)])) Tryz.results50 (Res.tmp rfl Res.nil) rfl (fun w' s => ⟨_, ?_, s⟩)
 refine WL.nil (then_normal (WP.block ?_))
 refine WP.range (ps := [10, 11]) (cap := [(pB b4 0)]) Tryz.call65 rfl Tryz.func65 rfl 20 Tryz.ntmps65 rfl (fun l1 D1 R1 hr1 => ?_)
 refine WP.block ?_
 refine WP.loop (fun m1 g' S' => ∃ (H1 : Heap) (s1 : (List UInt8)) (l2 : (List Item)) (ao2 : Option Addr) (cap2 : Nat) (i1 : Int) (i2 : Int) (i3 : Int) (i4 : Int), Le H H1 ∧ SL H1 encItem ao2 l2 ∧ l2.length ≤ cap2 ∧ Sub [(0, (.func (.yield l1) #[] #[])), (1, (pB b4 0)), (1000000007, (.bool false))] g' ∧ (∀ w', S' w' → St w H [.obj l1 (R1 .ready none), .obj D1 (.deferred (some [])), .blk b4 9 [(mkS s1)], .blk b3 88 [(.slice ao2 l2.length cap2), (.int .i64 i1), (.int .i64 i2), (.int .i64 i3), (.int .i64 i4)], .blk b2 30 [(.int .i64 0)], .blk b1 88 [(.slice none 0 0), (.int .i64 0), (.int .i64 0), (.int .i64 0), (.int .i64 0)]] H1 w') ∧ journal_readAll_loop1 m1 s1 l2 i1 i2 i3 i4 = some r) ((p_text.length + 1)) ⟨H, p_text, [], none, 0, 0, 0, 0, 0, (Le.refl _), (SL.nil _ _ _), (Nat.le_refl _), (Sub.cons rfl (Sub.cons rfl (Sub.cons rfl (Sub.nil _)))), fun w' s => s, hm⟩ ?_ ?_
 ·
  rintro g' S' ⟨_, _, _, _, _, _, _, _, _, _, _, _, _, _, hm⟩
  exact none_some hm
 ·
  rintro m1 g' S' ⟨H1, s1, l2, ao2, cap2, i1, i2, i3, i4, hle1, h2, hc2, hsub1, hS1, hm⟩
  refine WP.sub hsub1 (WP.weaken hS1 ?_)
  rw [journal_readAll_loop1] at hm
  replace hG := hG.mono hle1
  refine WP.seq (WP.seq (WP.region ?_))
  refine wq rfl rfl rfl (ov_load_box (i := 2) Tryz.isAgg9 rfl rfl rfl rfl) ?_
  refine wq rfl rfl rfl (ov_sneq rfl rfl rfl) ?_
  refine WL.nil (then_normal ?_)
  refine WP.cond rfl (fun hc3 => ?_) (fun hc3 => ?_)
  ·
   replace hm := ite_t hc3 hm
   refine WP.skip (then_normal (WP.block (WP.seq (WP.region ?_))))
   refine wq rfl rfl rfl (ov_load_box (i := 2) Tryz.isAgg9 rfl rfl rfl rfl) ?_
   obtain ⟨r1, e1, hm⟩ := bind_some hm
   refine WL.quiet (Runs.free rfl) rfl rfl (oq_con (r := (.tuple #[(mkS r1.1), (mkS r1.2.1), (.bool r1.2.2)])) Tryz.call66 rfl rfl (fun w' s => ⟨_, (cutAt_con s1 [10]  w' H1 s.hold hG r1 e1)⟩)) ?_
   refine wq rfl rfl rfl (ov_move rfl rfl) ?_
   refine wq rfl rfl rfl (ov_extract rfl rfl rfl) ?_
   refine wq rfl rfl rfl (ov_extract rfl rfl rfl) ?_
   refine wq rfl rfl rfl (ov_extract rfl rfl rfl) ?_
   refine wq rfl rfl rfl (ov_assign rfl rfl) ?_
   refine wq rfl rfl rfl (ov_assign rfl rfl) ?_
   refine wq rfl rfl rfl (ov_assign rfl rfl) ?_
   refine WL.nil (then_normal (WP.seq (WP.seq (WP.region ?_))))
   refine wq rfl rfl rfl (ov_move rfl rfl) ?_
   refine wq rfl rfl rfl (ov_move rfl rfl) ?_
   refine wq rfl rfl rfl (ov_move rfl rfl) ?_
   refine WL.yield (i := 0) (vs := [(mkS r1.1), (.bool r1.2.2)]) (Runs.free rfl) rfl rfl rfl rfl rfl hr1 rfl rfl rfl ?_
   refine WP.seq (WP.region ?_)
   refine wq rfl rfl rfl (ov_assign rfl rfl) ?_
   refine WL.nil (then_normal (WP.region ?_))
   refine wq rfl rfl rfl (ov_assign rfl rfl) ?_
   refine WL.nil (then_normal ?_)
   refine begin_of (i := 0) rfl ?_
   refine WP.block ?_
   obtain ⟨k1, hk1, hm⟩ := joinK_some hm
   refine WP.seq_join (fun g' S' => ∃ (H4 : Heap) (i8 : Int) (l4 : (List Item)) (ao5 : Option Addr) (cap5 : Nat) (i9 : Int) (i10 : Int) (i11 : Int) (i12 : Int), Le H1 H4 ∧ SL H4 encItem ao5 l4 ∧ l4.length ≤ cap5 ∧ Sub [(2, (pB b1 0)), (3, (pB b2 0)), (4, (pB b3 0)), (7, (.int .i64 i8)), (1000000007, (.bool false))] g' ∧ (∀ w', S' w' → St w H [.obj l1 (R1 .busy none), .obj D1 (.deferred (some [])), .blk b4 9 [(mkS s1)], .blk b3 88 [(.slice ao5 l4.length cap5), (.int .i64 i9), (.int .i64 i10), (.int .i64 i11), (.int .i64 i12)], .blk b2 30 [(.int .i64 0)], .blk b1 88 [(.slice none 0 0), (.int .i64 0), (.int .i64 0), (.int .i64 0), (.int .i64 0)]] H4 w') ∧ k1 i8 l4 i9 i10 i11 i12 = some r) ?_ ?_
   ·
    skip
    refine WP.region ?_
    refine wq rfl rfl rfl (ov_move rfl rfl) ?_
    refine wq rfl rfl rfl (ov_move rfl rfl) ?_
    refine WL.step (Runs.free rfl) rfl rfl (os_inline (cap := []) (vs := [(pB b3 0), (mkS r1.1), (.bool r1.2.2)]) Tryz.call51 rfl rfl rfl Tryz.func51 rfl 86 Tryz.ntmps51 rfl (fun w' s => ?_))
    refine WP.seq (WP.region ?_)
    refine wq rfl rfl rfl (ov_assign rfl rfl) ?_
    refine WL.nil (then_normal (WP.seq (WP.block (WP.seq (WP.region ?_)))))
    refine wq rfl rfl rfl (ov_move rfl rfl) ?_
    refine wq rfl rfl rfl (ov_nilCheckB rfl rfl) ?_
    refine wq rfl rfl rfl (ov_fieldAddr Tryz.underlying88 rfl rfl rfl Tryz.sizeOf3 rfl rfl) ?_
    refine wq rfl rfl rfl (ov_load_box (i := 3) Tryz.isAgg3 rfl rfl rfl rfl) ?_
    refine wq rfl rfl rfl (ov_eql rfl rfl rfl) ?_
    refine wq rfl rfl rfl (ov_assign rfl rfl) ?_
    refine WL.nil (then_normal ?_)
    refine WP.cond rfl (fun hc4 => ?_) (fun hc4 => ?_)
    ·
     replace hm := ite_t hc4 hm
     refine WP.seq (WP.region ?_)
     refine wq rfl rfl rfl (ov_assign rfl rfl) ?_
     refine WL.nil (then_normal (WP.ret (block_ret (then_ret ?_))))
     refine retQ_ret (v := (.int .i64 5)) Tryz.results51 (Res.tmp rfl Res.nil) rfl (fun w' s => ⟨_, ?_, s⟩)
     refine wq rfl rfl rfl (ov_assign rfl rfl) ?_
     refine WL.nil (then_normal ?_)
     exact ⟨H1, 5, l2, ao2, cap2, i1, i2, i3, i4, (Le.refl _), h2, hc2, (Sub.cons rfl (Sub.cons rfl (Sub.cons rfl (Sub.cons rfl (Sub.cons rfl (Sub.nil _)))))), fun w' s => s, hm⟩
    ·
     replace hm := ite_f hc4 hm
     refine WP.seq (WP.region ?_)
     refine wq rfl rfl rfl (ov_move rfl rfl) ?_
     refine wq rfl rfl rfl (ov_not rfl rfl) ?_
     refine wq rfl rfl rfl (ov_assign rfl rfl) ?_
     refine WL.nil (then_normal ?_)
     refine WP.cond rfl (fun hc5 => ?_) (fun hc5 => ?_)
     ·
      replace hm := ite_t hc5 hm
      refine WP.seq (WP.region ?_)
      refine wq rfl rfl rfl (ov_assign rfl rfl) ?_
      refine WL.nil (then_normal (WP.ret (block_ret (then_ret ?_))))
      refine retQ_ret (v := (.int .i64 18)) Tryz.results51 (Res.tmp rfl Res.nil) rfl (fun w' s => ⟨_, ?_, s⟩)
      refine wq rfl rfl rfl (ov_assign rfl rfl) ?_
      refine WL.nil (then_normal ?_)
      exact ⟨H1, 18, l2, ao2, cap2, i1, i2, i3, i4, (Le.refl _), h2, hc2, (Sub.cons rfl (Sub.cons rfl (Sub.cons rfl (Sub.cons rfl (Sub.cons rfl (Sub.nil _)))))), fun w' s => s, hm⟩
     ·
      replace hm := ite_f hc5 hm
      refine WP.skip (block_normal (then_normal (WP.seq (WP.region ?_))))
      refine wq rfl rfl rfl (ov_move rfl rfl) ?_
      obtain ⟨r2, e2, hm⟩ := bind_some hm
      refine WL.quiet (Runs.free rfl) rfl rfl (oq_con (r := (.int .i64 r2)) Tryz.call67 rfl rfl (fun w' s => ⟨_, (lastIdx_con r1.1 [32, 59, 32]  w' H1 s.hold hG r2 e2)⟩)) ?_
      refine wq rfl rfl rfl (ov_assign rfl rfl) ?_
      refine WL.nil (then_normal (WP.seq (WP.seq ?_)))
      refine WP.region_draws (by kernel_rfl) (by kernel_rfl) (fun _ s => s.drew) ?_
      refine QL.quiet (Runs.free rfl) rfl rfl (OV.quiet (ov_move rfl rfl)) ?_
      refine QL.quiet (Runs.free rfl) rfl rfl (OV.quiet (ov_lss rfl rfl rfl)) ?_
      refine QL.quiet (Runs.free rfl) rfl rfl (OV.quiet (ov_move rfl rfl)) ?_
      obtain ⟨c1, e3, hm⟩ := bind_some hm
      refine QL.part_bool 15 39 (x := c1) ?_ ?_
      ·
       rcases Bool.eq_false_or_eq_true (decide (r2 < 0)) with hc6 | hc6
       ·
        skip
        replace hm := ite_t hc6 e3
        refine QL.idle (Idle.no rfl rfl rfl hc6) rfl rfl ?_
        refine QL.idle (Idle.no rfl rfl rfl hc6) rfl rfl ?_
        refine QL.idle (Idle.no rfl rfl rfl hc6) rfl rfl ?_
        refine QL.idle (Idle.no rfl rfl rfl hc6) rfl rfl ?_
        refine QL.idle (Idle.no rfl rfl rfl hc6) rfl rfl ?_
        refine QL.idle (Idle.no rfl rfl rfl hc6) rfl rfl ?_
        refine QL.idle (Idle.no rfl rfl rfl hc6) rfl rfl ?_
        refine QL.idle (Idle.no rfl rfl rfl hc6) rfl rfl ?_
        refine QL.idle (Idle.no rfl rfl rfl hc6) rfl rfl ?_
        refine QL.idle (Idle.no rfl rfl rfl hc6) rfl rfl ?_
        refine QL.idle (Idle.no rfl rfl rfl hc6) rfl rfl ?_
        refine QL.idle (Idle.no rfl rfl rfl hc6) rfl rfl ?_
        refine QL.idle (Idle.no rfl rfl rfl hc6) rfl rfl ?_
        refine QL.idle (Idle.no rfl rfl rfl hc6) rfl rfl ?_
        refine QL.quiet (Runs.free rfl) rfl rfl (OV.quiet (ov_pick_true rfl (guard_eq rfl hc6) rfl)) ?_
        exact QL.nil (Sub.cons' rfl (congrArg Value.bool (Option.some.inj hm)) (Sub.skip rfl (Sub.skip rfl (Sub.skip rfl (Sub.skip rfl (Sub.skip rfl (Sub.skip rfl (Sub.skip rfl (Sub.skip rfl (Sub.skip rfl (Sub.skip rfl (Sub.skip rfl (Sub.skip rfl (Sub.skip rfl (Sub.skip rfl (Sub.skip rfl (Sub.refl _)))))))))))))))))
       ·
        skip
        replace hm := ite_f hc6 e3
        refine QL.quiet (Runs.yes rfl rfl rfl hc6) rfl rfl (OV.quiet (ov_move rfl rfl)) ?_
        refine QL.quiet (Runs.yes rfl rfl rfl hc6) rfl rfl (OV.quiet (ov_move rfl rfl)) ?_
        refine QL.quiet (Runs.yes rfl rfl rfl hc6) rfl rfl (OV.quiet (ov_add rfl rfl rfl)) ?_
        obtain ⟨s2, e4, hm⟩ := bind_some hm
        refine QL.quiet (Runs.yes rfl rfl rfl hc6) rfl rfl (OV.quiet (ov_slice_string_from Tryz.underlying9 rfl rfl rfl e4)) ?_
        refine QL.quiet (Runs.yes rfl rfl rfl hc6) rfl rfl (OV.quiet (ov_move rfl rfl)) ?_
        refine QL.quiet (Runs.yes rfl rfl rfl hc6) rfl rfl (OV.quiet (ov_nilCheckB rfl rfl)) ?_
        refine QL.quiet (Runs.yes rfl rfl rfl hc6) rfl rfl (OV.quiet (ov_fieldAddr Tryz.underlying88 rfl rfl rfl Tryz.sizeOf3 rfl rfl)) ?_
        refine QL.quiet (Runs.yes rfl rfl rfl hc6) rfl rfl (OV.quiet (ov_load_box (i := 3) Tryz.isAgg3 rfl rfl rfl rfl)) ?_
        refine QL.quiet (Runs.yes rfl rfl rfl hc6) rfl rfl (OV.quiet (ov_move rfl rfl)) ?_
        refine QL.quiet (Runs.yes rfl rfl rfl hc6) rfl rfl (OV.quiet (ov_move rfl rfl)) ?_
        obtain ⟨s3, e5, hm⟩ := bind_some hm
        refine QL.quiet (Runs.yes rfl rfl rfl hc6) rfl rfl (OV.quiet (ov_slice_string_to Tryz.underlying9 rfl rfl rfl e5)) ?_
        obtain ⟨r3, e6, hm⟩ := bind_some hm
        refine QL.quiet (Runs.yes rfl rfl rfl hc6) rfl rfl (oq_con (r := (.int .i64 r3)) Tryz.call30 rfl rfl (fun w' s => ⟨_, (journal_mark_con i2 s3  w' H1 s.hold hG r3 e6)⟩)) ?_
        obtain ⟨r4, e7, hm⟩ := bind_some hm
        refine QL.quiet (Runs.yes rfl rfl rfl hc6) rfl rfl (oq_con (r := (mkS r4)) Tryz.call32 rfl rfl (fun w' s => ⟨_, (itoa_con r3  w' H1 s.hold hG r4 e7)⟩)) ?_
        refine QL.quiet (Runs.yes rfl rfl rfl hc6) rfl rfl (OV.quiet (ov_sneq rfl rfl rfl)) ?_
        refine QL.quiet (Runs.free rfl) rfl rfl (OV.quiet (ov_pick_false rfl (guard_eq rfl hc6) rfl)) ?_
        exact QL.nil (Sub.cons' rfl (congrArg Value.bool (Option.some.inj hm)) (Sub.skip rfl (Sub.skip rfl (Sub.skip rfl (Sub.skip rfl (Sub.skip rfl (Sub.skip rfl (Sub.skip rfl (Sub.skip rfl (Sub.skip rfl (Sub.skip rfl (Sub.skip rfl (Sub.skip rfl (Sub.skip rfl (Sub.skip rfl (Sub.skip rfl (Sub.refl _)))))))))))))))))
      refine QL.nil ?_
      refine then_normal ?_
      refine WP.cond rfl (fun hc7 => ?_) (fun hc7 => ?_)
      ·
       replace hm := ite_t hc7 hm
       refine WP.seq (WP.region ?_)
       refine wq rfl rfl rfl (ov_assign rfl rfl) ?_
       refine WL.nil (then_normal (WP.ret (then_ret ?_)))
       refine retQ_ret (v := (.int .i64 19)) Tryz.results51 (Res.tmp rfl Res.nil) rfl (fun w' s => ⟨_, ?_, s⟩)
       refine wq rfl rfl rfl (ov_assign rfl rfl) ?_
       refine WL.nil (then_normal ?_)
       exact ⟨H1, 19, l2, ao2, cap2, i1, i2, i3, i4, (Le.refl _), h2, hc2, (Sub.cons rfl (Sub.cons rfl (Sub.cons rfl (Sub.cons rfl (Sub.cons rfl (Sub.nil _)))))), fun w' s => s, hm⟩
      ·
       replace hm := ite_f hc7 hm
       refine WP.skip (then_normal (WP.seq (WP.region ?_)))
       refine wq rfl rfl rfl (ov_move rfl rfl) ?_
       refine wq rfl rfl rfl (ov_move rfl rfl) ?_
       obtain ⟨s4, e8, hm⟩ := bind_some hm
       refine wq rfl rfl rfl (ov_slice_string_to Tryz.underlying9 rfl rfl rfl e8) ?_
       obtain ⟨r5, e9, hm⟩ := bind_some hm
       refine WL.quiet (Runs.free rfl) rfl rfl (oq_con (r := (.tuple #[(.agg #[(.int .i64 r5.1.kind), (mkS r5.1.name), (.int .i64 r5.1.count), (.int .i64 r5.1.strokes)]), (.int .i64 r5.2)])) Tryz.call68 rfl rfl (fun w' s => ⟨_, (journal_Read_con s4  w' H1 s.hold hG r5 e9)⟩)) ?_
       refine wq rfl rfl rfl (ov_move rfl rfl) ?_
       refine wq rfl rfl rfl (ov_extract rfl rfl rfl) ?_
       refine wq rfl rfl rfl (ov_extract rfl rfl rfl) ?_
       refine WL.step (Runs.free rfl) rfl rfl (os_alloc (cs := [(.int .i64 0), (mkS []), (.int .i64 0), (.int .i64 0)]) Tryz.zeroValue39 rfl rfl (fun b5 => ?_))
       refine WL.step0 (Runs.free rfl) rfl (os_store (i := 0) (vs := [(.int .i64 r5.1.kind), (mkS r5.1.name), (.int .i64 r5.1.count), (.int .i64 r5.1.strokes)]) (cs' := [(.int .i64 r5.1.kind), (mkS r5.1.name), (.int .i64 r5.1.count), (.int .i64 r5.1.strokes)]) Tryz.sizeOf39 rfl rfl rfl rfl rfl rfl rfl rfl rfl ?_)
       refine wq rfl rfl rfl (ov_assign rfl rfl) ?_
       refine WL.nil (then_normal (WP.seq (WP.seq (WP.region ?_))))
       refine wq rfl rfl rfl (ov_move rfl rfl) ?_
       refine wq rfl rfl rfl (ov_neq rfl rfl rfl) ?_
       refine WL.nil (then_normal ?_)
       refine WP.cond rfl (fun hc8 => ?_) (fun hc8 => ?_)
       ·
        replace hm := ite_t hc8 hm
        refine WP.seq (WP.region ?_)
        refine wq rfl rfl rfl (ov_assign rfl rfl) ?_
        refine WL.nil (then_normal (WP.ret (then_ret ?_)))
        refine retQ_ret (v := (.int .i64 4)) Tryz.results51 (Res.tmp rfl Res.nil) rfl (fun w' s => ⟨_, ?_, s⟩)
        refine wq rfl rfl rfl (ov_assign rfl rfl) ?_
        refine WL.nil (then_normal ?_)
        exact ⟨H1, 4, l2, ao2, cap2, i1, i2, i3, i4, (Le.refl _), h2, hc2, (Sub.cons rfl (Sub.cons rfl (Sub.cons rfl (Sub.cons rfl (Sub.cons rfl (Sub.nil _)))))), fun w' s => (s.select [1, 2, 3, 4, 5, 6] (by decide) rfl), hm⟩
       ·
        replace hm := ite_f hc8 hm
        refine WP.skip (then_normal ?_)
        obtain ⟨k2, hk2, hm⟩ := joinK_some hm
        refine WP.seq_join (fun g' S' => ∃ (H3 : Heap) (i5 : Int) (b7 : Nat) (l3 : (List Item)) (ao4 : Option Addr) (cap4 : Nat) (i6 : Int), Le H1 H3 ∧ SL H3 encItem ao4 l3 ∧ l3.length ≤ cap4 ∧ Sub [(0, (pB b3 0)), (1, (mkS r1.1)), (7, (.int .i64 r2)), (9, (.int .i64 i5)), (10, (pB b7 0)), (1000000007, (.bool false))] g' ∧ (∀ w', S' w' → St w H [.blk b7 35 [(.slice ao4 l3.length cap4), (.int .i64 i6)], .obj l1 (R1 .busy none), .obj D1 (.deferred (some [])), .blk b4 9 [(mkS s1)], .blk b3 88 [(.slice ao2 l2.length cap2), (.int .i64 i1), (.int .i64 i2), (.int .i64 i3), (.int .i64 i4)], .blk b2 30 [(.int .i64 0)], .blk b1 88 [(.slice none 0 0), (.int .i64 0), (.int .i64 0), (.int .i64 0), (.int .i64 0)]] H3 w') ∧ k2 i5 l3 i6 = some r) ?_ ?_
        ·
         skip
         refine WP.region_any (S₀ := St w H [.blk b5 39 [(.int .i64 r5.1.kind), (mkS r5.1.name), (.int .i64 r5.1.count), (.int .i64 r5.1.strokes)], .obj l1 (R1 .busy none), .obj D1 (.deferred (some [])), .blk b4 9 [(mkS s1)], .blk b3 88 [(.slice ao2 l2.length cap2), (.int .i64 i1), (.int .i64 i2), (.int .i64 i3), (.int .i64 i4)], .blk b2 30 [(.int .i64 0)], .blk b1 88 [(.slice none 0 0), (.int .i64 0), (.int .i64 0), (.int .i64 0), (.int .i64 0)]] H1) 12 rfl (by kernel_rfl) (fun w' s => s) (fun _ s => s.drew) ?_
         refine tq (i := 0) rfl (by kernel_rfl) rfl rfl rfl (ov_move rfl rfl) ?_
         refine tq (i := 1) rfl (by kernel_rfl) rfl rfl rfl (ov_nilCheckB rfl rfl) ?_
         refine tq (i := 2) rfl (by kernel_rfl) rfl rfl rfl (ov_fieldAddr Tryz.underlying88 rfl rfl rfl Tryz.sizeOf35 rfl rfl) ?_
         refine tq (i := 3) rfl (by kernel_rfl) rfl rfl rfl (ov_load_boxes (i := 4) (vs := [(.slice ao2 l2.length cap2), (.int .i64 i1)]) Tryz.isAgg35 Tryz.sizeOf35 rfl rfl rfl rfl (part_of rfl)) ?_
         refine tq (i := 4) rfl (by kernel_rfl) rfl rfl rfl (ov_load_whole (i := 0) Tryz.isAgg39 Tryz.sizeOf39 rfl rfl rfl rfl) ?_
         refine AL.any (rs := [5, 9]) (by kernel_rfl) (by decide) ?_
         refine ALs.cons (i := 5) rfl (Runs.free rfl) rfl rfl ?_ ?_
         ·
          skip
          obtain ⟨r6, e10, hm⟩ := bind_some hm
          refine os_con Tryz.call21 rfl rfl (fun w' s => (journal_done_con (Machine.mk l2 i1) r5.1 ao2 cap2  w' H1 s.hold h2 hc2 hG r6 e10)) (fun rr1 H2 hle2 hR1 => ?_)
          replace h2 := h2.mono hle2
          replace hG := hG.mono hle2
          obtain ⟨ao3, cap3, rfl, h3, hc9⟩ := hR1
          refine ⟨fun w' s => (s.heap hle2), ?_⟩
          refine tq (i := 6) rfl (by kernel_rfl) rfl rfl rfl (ov_move rfl rfl) ?_
          refine tq (i := 7) rfl (by kernel_rfl) rfl rfl rfl (ov_extract rfl rfl rfl) ?_
          refine tq (i := 8) rfl (by kernel_rfl) rfl rfl rfl (ov_extract rfl rfl rfl) ?_
          refine AL.any (rs := [9]) (by kernel_rfl) (by decide) ?_
          refine ALs.cons (i := 9) rfl (Runs.free rfl) rfl rfl ?_ ?_
          ·
           skip
           refine os_alloc (cs := [(.slice none 0 0), (.int .i64 0)]) Tryz.zeroValue35 rfl rfl (fun b6 => ?_)
           refine ⟨fun w' s => ((s.select [1, 2, 3, 4, 5, 6, 7] (by decide) rfl).heap hle2), ?_⟩
           refine AL.any (rs := [10]) (by kernel_rfl) (by decide) ?_
           refine ALs.cons0 (i := 10) rfl (Runs.free rfl) rfl ?_ ?_
           ·
            skip
            refine os_store (i := 0) (vs := [(.slice ao3 r6.1.items.length cap3), (.int .i64 r6.1.cycles)]) (cs' := [(.slice ao3 r6.1.items.length cap3), (.int .i64 r6.1.cycles)]) Tryz.sizeOf35 rfl rfl rfl rfl rfl rfl rfl rfl rfl ?_
            refine ⟨fun w' s => ((s.select [1, 2, 3, 4, 5, 6, 7] (by decide) rfl).heap hle2), ?_⟩
            refine tq (i := 11) rfl (by kernel_rfl) rfl rfl rfl (ov_assign rfl rfl) ?_
            refine AL.done (by kernel_rfl) ?_
            refine then_normal ?_
            exact ⟨H2, r6.2, b6, r6.1.items, ao3, cap3, r6.1.cycles, hle2, h3, hc9, (Sub.cons rfl (Sub.cons rfl (Sub.cons rfl (Sub.cons rfl (Sub.cons rfl (Sub.cons rfl (Sub.nil _))))))), fun w' s => (s.select [0, 2, 3, 4, 5, 6, 7] (by decide) rfl), hm⟩
           exact ALs.nil
          exact ALs.nil
         refine ALs.cons (i := 9) rfl (Runs.free rfl) rfl rfl ?_ ?_
         ·
          skip
          refine os_alloc (cs := [(.slice none 0 0), (.int .i64 0)]) Tryz.zeroValue35 rfl rfl (fun b6 => ?_)
          refine ⟨fun w' s => (s.select [1, 2, 3, 4, 5, 6, 7] (by decide) rfl), ?_⟩
          refine AL.any (rs := [5]) (by kernel_rfl) (by decide) ?_
          refine ALs.cons (i := 5) rfl (Runs.free rfl) rfl rfl ?_ ?_
          ·
           skip
           obtain ⟨r6, e10, hm⟩ := bind_some hm
           refine os_con Tryz.call21 rfl rfl (fun w' s => (journal_done_con (Machine.mk l2 i1) r5.1 ao2 cap2  w' H1 s.hold h2 hc2 hG r6 e10)) (fun rr1 H2 hle2 hR1 => ?_)
           replace h2 := h2.mono hle2
           replace hG := hG.mono hle2
           obtain ⟨ao3, cap3, rfl, h3, hc9⟩ := hR1
           refine ⟨fun w' s => ((s.select [1, 2, 3, 4, 5, 6, 7] (by decide) rfl).heap hle2), ?_⟩
           refine tq (i := 6) rfl (by kernel_rfl) rfl rfl rfl (ov_move rfl rfl) ?_
           refine tq (i := 7) rfl (by kernel_rfl) rfl rfl rfl (ov_extract rfl rfl rfl) ?_
           refine tq (i := 8) rfl (by kernel_rfl) rfl rfl rfl (ov_extract rfl rfl rfl) ?_
           refine AL.any (rs := [10]) (by kernel_rfl) (by decide) ?_
           refine ALs.cons0 (i := 10) rfl (Runs.free rfl) rfl ?_ ?_
           ·
            skip
            refine os_store (i := 0) (vs := [(.slice ao3 r6.1.items.length cap3), (.int .i64 r6.1.cycles)]) (cs' := [(.slice ao3 r6.1.items.length cap3), (.int .i64 r6.1.cycles)]) Tryz.sizeOf35 rfl rfl rfl rfl rfl rfl rfl rfl rfl ?_
            refine ⟨fun w' s => ((s.select [1, 2, 3, 4, 5, 6, 7] (by decide) rfl).heap hle2), ?_⟩
            refine tq (i := 11) rfl (by kernel_rfl) rfl rfl rfl (ov_assign rfl rfl) ?_
            refine AL.done (by kernel_rfl) ?_
            refine then_normal ?_
            exact ⟨H2, r6.2, b6, r6.1.items, ao3, cap3, r6.1.cycles, hle2, h3, hc9, (Sub.cons rfl (Sub.cons rfl (Sub.cons rfl (Sub.cons rfl (Sub.cons rfl (Sub.cons rfl (Sub.nil _))))))), fun w' s => (s.select [0, 2, 3, 4, 5, 6, 7] (by decide) rfl), hm⟩
           exact ALs.nil
          exact ALs.nil
         exact ALs.nil
        ·
         rintro g' S' ⟨H3, i5, b7, l3, ao4, cap4, i6, hle3, h4, hc10, hsub2, hS2, hm⟩
         refine WP.sub hsub2 (WP.weaken hS2 ?_)
         replace hm := (congrFun (congrFun (congrFun hk2 i5) l3) i6).symm.trans hm
         replace h2 := h2.mono hle3
         replace hG := hG.mono hle3
         refine WP.seq (WP.seq (WP.region ?_))
         refine wq rfl rfl rfl (ov_move rfl rfl) ?_
         refine wq rfl rfl rfl (ov_neq rfl rfl rfl) ?_
         refine WL.nil (then_normal ?_)
         refine WP.cond rfl (fun hc11 => ?_) (fun hc11 => ?_)
         ·
          replace hm := ite_t hc11 hm
          refine WP.seq (WP.region ?_)
          refine wq rfl rfl rfl (ov_move rfl rfl) ?_
          refine wq rfl rfl rfl (ov_assign rfl rfl) ?_
          refine WL.nil (then_normal (WP.ret (then_ret ?_)))
          refine retQ_ret (v := (.int .i64 i5)) Tryz.results51 (Res.tmp rfl Res.nil) rfl (fun w' s => ⟨_, ?_, s⟩)
          refine wq rfl rfl rfl (ov_assign rfl rfl) ?_
          refine WL.nil (then_normal ?_)
          exact ⟨H3, i5, l2, ao2, cap2, i1, i2, i3, i4, hle3, h2, hc2, (Sub.cons rfl (Sub.cons rfl (Sub.cons rfl (Sub.cons rfl (Sub.cons rfl (Sub.nil _)))))), fun w' s => (s.select [1, 2, 3, 4, 5, 6] (by decide) rfl), hm⟩
         ·
          replace hm := ite_f hc11 hm
          refine WP.skip (then_normal ?_)
          obtain ⟨k3, hk3, hm⟩ := joinK_some hm
          refine WP.seq_join (fun g' S' => ∃ (i7 : Int), Sub [(1000000007, (.bool false))] g' ∧ (∀ w', S' w' → St w H [.obj l1 (R1 .busy none), .obj D1 (.deferred (some [])), .blk b4 9 [(mkS s1)], .blk b3 88 [(.slice ao4 l3.length cap4), (.int .i64 i6), (.int .i64 i7), (.int .i64 (IntKind.wrap .i64 (i3 + 1))), (.int .i64 (IntKind.wrap .i64 ((IntKind.wrap .i64 (i4 + (r1.1.length : Int))) + 1)))], .blk b2 30 [(.int .i64 0)], .blk b1 88 [(.slice none 0 0), (.int .i64 0), (.int .i64 0), (.int .i64 0), (.int .i64 0)]] H3 w') ∧ k3 i7 = some r) ?_ ?_
          ·
           skip
           refine WP.region_any (S₀ := St w H [.blk b7 35 [(.slice ao4 l3.length cap4), (.int .i64 i6)], .obj l1 (R1 .busy none), .obj D1 (.deferred (some [])), .blk b4 9 [(mkS s1)], .blk b2 30 [(.int .i64 0)], .blk b1 88 [(.slice none 0 0), (.int .i64 0), (.int .i64 0), (.int .i64 0), (.int .i64 0)]] H3) 26 rfl (by kernel_rfl) (fun w' s => (s.select [0, 1, 2, 3, 5, 6] (by decide) rfl)) (fun _ s => s.drew) ?_
           refine tq (i := 0) rfl (by kernel_rfl) rfl rfl rfl (ov_move rfl rfl) ?_
           refine tq (i := 1) rfl (by kernel_rfl) rfl rfl rfl (ov_load_whole (i := 0) Tryz.isAgg35 Tryz.sizeOf35 rfl rfl rfl rfl) ?_
           refine tq (i := 2) rfl (by kernel_rfl) rfl rfl rfl (ov_move rfl rfl) ?_
           refine tq (i := 3) rfl (by kernel_rfl) rfl rfl rfl (ov_nilCheckB rfl rfl) ?_
           refine tq (i := 4) rfl (by kernel_rfl) rfl rfl rfl (ov_fieldAddr Tryz.underlying88 rfl rfl rfl Tryz.sizeOf3 rfl rfl) ?_
           refine tq (i := 6) rfl (by kernel_rfl) rfl rfl rfl (ov_move rfl rfl) ?_
           refine tq (i := 7) rfl (by kernel_rfl) rfl rfl rfl (ov_move rfl rfl) ?_
           obtain ⟨s5, e11, hm⟩ := bind_some hm
           refine tq (i := 8) rfl (by kernel_rfl) rfl rfl rfl (ov_slice_string_to Tryz.underlying9 rfl rfl rfl e11) ?_
           refine tq (i := 10) rfl (by kernel_rfl) rfl rfl rfl (ov_move rfl rfl) ?_
           refine tq (i := 11) rfl (by kernel_rfl) rfl rfl rfl (ov_nilCheckB rfl rfl) ?_
           refine tq (i := 12) rfl (by kernel_rfl) rfl rfl rfl (ov_fieldAddr Tryz.underlying88 rfl rfl rfl Tryz.sizeOf3 rfl rfl) ?_
           refine tq (i := 15) rfl (by kernel_rfl) rfl rfl rfl (ov_move rfl rfl) ?_
           refine tq (i := 16) rfl (by kernel_rfl) rfl rfl rfl (ov_nilCheckB rfl rfl) ?_
           refine tq (i := 17) rfl (by kernel_rfl) rfl rfl rfl (ov_fieldAddr Tryz.underlying88 rfl rfl rfl Tryz.sizeOf3 rfl rfl) ?_
           refine tq (i := 19) rfl (by kernel_rfl) rfl rfl rfl (ov_move rfl rfl) ?_
           refine tq (i := 20) rfl (by kernel_rfl) rfl rfl rfl (ov_len_string Tryz.underlying9 rfl rfl) ?_
           refine AL.any (rs := [5, 13, 18]) (by kernel_rfl) (by decide) ?_
           refine ALs.cons (i := 5) rfl (Runs.free rfl) rfl rfl ?_ ?_
           ·
            skip
            refine OQ.step (OV.quiet (ov_load_box (i := 4) Tryz.isAgg3 rfl rfl rfl rfl)) ?_
            refine ⟨fun w' s => (s.select [0, 1, 2, 3, 5, 6] (by decide) rfl), ?_⟩
            refine AL.any (rs := [9, 13, 18]) (by kernel_rfl) (by decide) ?_
            refine ALs.cons (i := 9) rfl (Runs.free rfl) rfl rfl ?_ ?_
            ·
             skip
             obtain ⟨r7, e12, hm⟩ := bind_some hm
             refine OQ.step (oq_con (r := (.int .i64 r7)) Tryz.call30 rfl rfl (fun w' s => ⟨_, (journal_mark_con i2 s5  w' H3 s.hold hG r7 e12)⟩)) ?_
             refine ⟨fun w' s => (s.select [0, 1, 2, 3, 5, 6] (by decide) rfl), ?_⟩
             refine AL.any (rs := [13, 18]) (by kernel_rfl) (by decide) ?_
             refine ALs.cons (i := 13) rfl (Runs.free rfl) rfl rfl ?_ ?_
             ·
              skip
              refine OQ.step (OV.quiet (ov_load_box (i := 4) Tryz.isAgg3 rfl rfl rfl rfl)) ?_
              refine ⟨fun w' s => (s.select [0, 1, 2, 3, 5, 6] (by decide) rfl), ?_⟩
              refine tq (i := 14) rfl (by kernel_rfl) rfl rfl rfl (ov_add rfl rfl rfl) ?_
              refine AL.any (rs := [18]) (by kernel_rfl) (by decide) ?_
              refine ALs.cons (i := 18) rfl (Runs.free rfl) rfl rfl ?_ ?_
              ·
               skip
               refine OQ.step (OV.quiet (ov_load_box (i := 4) Tryz.isAgg3 rfl rfl rfl rfl)) ?_
               refine ⟨fun w' s => (s.select [0, 1, 2, 3, 5, 6] (by decide) rfl), ?_⟩
               refine tq (i := 21) rfl (by kernel_rfl) rfl rfl rfl (ov_add rfl rfl rfl) ?_
               refine tq (i := 22) rfl (by kernel_rfl) rfl rfl rfl (ov_add rfl rfl rfl) ?_
               refine tq (i := 23) rfl (by kernel_rfl) rfl rfl rfl (ov_build (r := (.agg #[(.slice ao4 l3.length cap4), (.int .i64 i6), (.int .i64 r7), (.int .i64 (IntKind.wrap .i64 (i3 + 1))), (.int .i64 (IntKind.wrap .i64 ((IntKind.wrap .i64 (i4 + (r1.1.length : Int))) + 1)))])) rfl rfl (fun _ => by kernel_rfl)) ?_
               refine tq (i := 24) rfl (by kernel_rfl) rfl rfl rfl (ov_nilCheckB rfl rfl) ?_
               refine AL.any (rs := [25]) (by kernel_rfl) (by decide) ?_
               refine ALs.cons0 (i := 25) rfl (Runs.free rfl) rfl ?_ ?_
               ·
                skip
                refine os_store (i := 4) (vs := [(.slice ao4 l3.length cap4), (.int .i64 i6), (.int .i64 r7), (.int .i64 (IntKind.wrap .i64 (i3 + 1))), (.int .i64 (IntKind.wrap .i64 ((IntKind.wrap .i64 (i4 + (r1.1.length : Int))) + 1)))]) (cs' := [(.slice ao4 l3.length cap4), (.int .i64 i6), (.int .i64 r7), (.int .i64 (IntKind.wrap .i64 (i3 + 1))), (.int .i64 (IntKind.wrap .i64 ((IntKind.wrap .i64 (i4 + (r1.1.length : Int))) + 1)))]) Tryz.sizeOf88 rfl rfl rfl rfl rfl rfl rfl rfl rfl ?_
                refine ⟨fun w' s => (s.select [0, 1, 2, 3, 5, 6] (by decide) rfl), ?_⟩
                refine AL.done (by kernel_rfl) ?_
                refine then_normal ?_
                exact ⟨r7, (Sub.cons rfl (Sub.nil _)), fun w' s => (s.select [1, 2, 3, 4, 5, 6] (by decide) rfl), hm⟩
               exact ALs.nil
              exact ALs.nil
             refine ALs.cons (i := 18) rfl (Runs.free rfl) rfl rfl ?_ ?_
             ·
              skip
              refine OQ.step (OV.quiet (ov_load_box (i := 4) Tryz.isAgg3 rfl rfl rfl rfl)) ?_
              refine ⟨fun w' s => (s.select [0, 1, 2, 3, 5, 6] (by decide) rfl), ?_⟩
              refine tq (i := 21) rfl (by kernel_rfl) rfl rfl rfl (ov_add rfl rfl rfl) ?_
              refine tq (i := 22) rfl (by kernel_rfl) rfl rfl rfl (ov_add rfl rfl rfl) ?_
              refine AL.any (rs := [13]) (by kernel_rfl) (by decide) ?_
              refine ALs.cons (i := 13) rfl (Runs.free rfl) rfl rfl ?_ ?_
              ·
               skip
               refine OQ.step (OV.quiet (ov_load_box (i := 4) Tryz.isAgg3 rfl rfl rfl rfl)) ?_
               refine ⟨fun w' s => (s.select [0, 1, 2, 3, 5, 6] (by decide) rfl), ?_⟩
               refine tq (i := 14) rfl (by kernel_rfl) rfl rfl rfl (ov_add rfl rfl rfl) ?_
               refine tq (i := 23) rfl (by kernel_rfl) rfl rfl rfl (ov_build (r := (.agg #[(.slice ao4 l3.length cap4), (.int .i64 i6), (.int .i64 r7), (.int .i64 (IntKind.wrap .i64 (i3 + 1))), (.int .i64 (IntKind.wrap .i64 ((IntKind.wrap .i64 (i4 + (r1.1.length : Int))) + 1)))])) rfl rfl (fun _ => by kernel_rfl)) ?_
               refine tq (i := 24) rfl (by kernel_rfl) rfl rfl rfl (ov_nilCheckB rfl rfl) ?_
               refine AL.any (rs := [25]) (by kernel_rfl) (by decide) ?_
               refine ALs.cons0 (i := 25) rfl (Runs.free rfl) rfl ?_ ?_
               ·
                skip
                refine os_store (i := 4) (vs := [(.slice ao4 l3.length cap4), (.int .i64 i6), (.int .i64 r7), (.int .i64 (IntKind.wrap .i64 (i3 + 1))), (.int .i64 (IntKind.wrap .i64 ((IntKind.wrap .i64 (i4 + (r1.1.length : Int))) + 1)))]) (cs' := [(.slice ao4 l3.length cap4), (.int .i64 i6), (.int .i64 r7), (.int .i64 (IntKind.wrap .i64 (i3 + 1))), (.int .i64 (IntKind.wrap .i64 ((IntKind.wrap .i64 (i4 + (r1.1.length : Int))) + 1)))]) Tryz.sizeOf88 rfl rfl rfl rfl rfl rfl rfl rfl rfl ?_
                refine ⟨fun w' s => (s.select [0, 1, 2, 3, 5, 6] (by decide) rfl), ?_⟩
                refine AL.done (by kernel_rfl) ?_
                refine then_normal ?_
                exact ⟨r7, (Sub.cons rfl (Sub.nil _)), fun w' s => (s.select [1, 2, 3, 4, 5, 6] (by decide) rfl), hm⟩
               exact ALs.nil
              exact ALs.nil
             exact ALs.nil
            refine ALs.cons (i := 13) rfl (Runs.free rfl) rfl rfl ?_ ?_
            ·
             skip
             refine OQ.step (OV.quiet (ov_load_box (i := 4) Tryz.isAgg3 rfl rfl rfl rfl)) ?_
             refine ⟨fun w' s => (s.select [0, 1, 2, 3, 5, 6] (by decide) rfl), ?_⟩
             refine tq (i := 14) rfl (by kernel_rfl) rfl rfl rfl (ov_add rfl rfl rfl) ?_
             refine AL.any (rs := [9, 18]) (by kernel_rfl) (by decide) ?_
             refine ALs.cons (i := 9) rfl (Runs.free rfl) rfl rfl ?_ ?_
             ·
              skip
              obtain ⟨r7, e12, hm⟩ := bind_some hm
              refine OQ.step (oq_con (r := (.int .i64 r7)) Tryz.call30 rfl rfl (fun w' s => ⟨_, (journal_mark_con i2 s5  w' H3 s.hold hG r7 e12)⟩)) ?_
              refine ⟨fun w' s => (s.select [0, 1, 2, 3, 5, 6] (by decide) rfl), ?_⟩
              refine AL.any (rs := [18]) (by kernel_rfl) (by decide) ?_
              refine ALs.cons (i := 18) rfl (Runs.free rfl) rfl rfl ?_ ?_
              ·
               skip
               refine OQ.step (OV.quiet (ov_load_box (i := 4) Tryz.isAgg3 rfl rfl rfl rfl)) ?_
               refine ⟨fun w' s => (s.select [0, 1, 2, 3, 5, 6] (by decide) rfl), ?_⟩
               refine tq (i := 21) rfl (by kernel_rfl) rfl rfl rfl (ov_add rfl rfl rfl) ?_
               refine tq (i := 22) rfl (by kernel_rfl) rfl rfl rfl (ov_add rfl rfl rfl) ?_
               refine tq (i := 23) rfl (by kernel_rfl) rfl rfl rfl (ov_build (r := (.agg #[(.slice ao4 l3.length cap4), (.int .i64 i6), (.int .i64 r7), (.int .i64 (IntKind.wrap .i64 (i3 + 1))), (.int .i64 (IntKind.wrap .i64 ((IntKind.wrap .i64 (i4 + (r1.1.length : Int))) + 1)))])) rfl rfl (fun _ => by kernel_rfl)) ?_
               refine tq (i := 24) rfl (by kernel_rfl) rfl rfl rfl (ov_nilCheckB rfl rfl) ?_
               refine AL.any (rs := [25]) (by kernel_rfl) (by decide) ?_
               refine ALs.cons0 (i := 25) rfl (Runs.free rfl) rfl ?_ ?_
               ·
                skip
                refine os_store (i := 4) (vs := [(.slice ao4 l3.length cap4), (.int .i64 i6), (.int .i64 r7), (.int .i64 (IntKind.wrap .i64 (i3 + 1))), (.int .i64 (IntKind.wrap .i64 ((IntKind.wrap .i64 (i4 + (r1.1.length : Int))) + 1)))]) (cs' := [(.slice ao4 l3.length cap4), (.int .i64 i6), (.int .i64 r7), (.int .i64 (IntKind.wrap .i64 (i3 + 1))), (.int .i64 (IntKind.wrap .i64 ((IntKind.wrap .i64 (i4 + (r1.1.length : Int))) + 1)))]) Tryz.sizeOf88 rfl rfl rfl rfl rfl rfl rfl rfl rfl ?_
                refine ⟨fun w' s => (s.select [0, 1, 2, 3, 5, 6] (by decide) rfl), ?_⟩
                refine AL.done (by kernel_rfl) ?_
                refine then_normal ?_
                exact ⟨r7, (Sub.cons rfl (Sub.nil _)), fun w' s => (s.select [1, 2, 3, 4, 5, 6] (by decide) rfl), hm⟩
               exact ALs.nil
              exact ALs.nil
             refine ALs.cons (i := 18) rfl (Runs.free rfl) rfl rfl ?_ ?_
             ·
              skip
              refine OQ.step (OV.quiet (ov_load_box (i := 4) Tryz.isAgg3 rfl rfl rfl rfl)) ?_
              refine ⟨fun w' s => (s.select [0, 1, 2, 3, 5, 6] (by decide) rfl), ?_⟩
              refine tq (i := 21) rfl (by kernel_rfl) rfl rfl rfl (ov_add rfl rfl rfl) ?_
              refine tq (i := 22) rfl (by kernel_rfl) rfl rfl rfl (ov_add rfl rfl rfl) ?_
              refine AL.any (rs := [9]) (by kernel_rfl) (by decide) ?_
              refine ALs.cons (i := 9) rfl (Runs.free rfl) rfl rfl ?_ ?_
              ·
               skip
               obtain ⟨r7, e12, hm⟩ := bind_some hm
               refine OQ.step (oq_con (r := (.int .i64 r7)) Tryz.call30 rfl rfl (fun w' s => ⟨_, (journal_mark_con i2 s5  w' H3 s.hold hG r7 e12)⟩)) ?_
               refine ⟨fun w' s => (s.select [0, 1, 2, 3, 5, 6] (by decide) rfl), ?_⟩
               refine tq (i := 23) rfl (by kernel_rfl) rfl rfl rfl (ov_build (r := (.agg #[(.slice ao4 l3.length cap4), (.int .i64 i6), (.int .i64 r7), (.int .i64 (IntKind.wrap .i64 (i3 + 1))), (.int .i64 (IntKind.wrap .i64 ((IntKind.wrap .i64 (i4 + (r1.1.length : Int))) + 1)))])) rfl rfl (fun _ => by kernel_rfl)) ?_
               refine tq (i := 24) rfl (by kernel_rfl) rfl rfl rfl (ov_nilCheckB rfl rfl) ?_
               refine AL.any (rs := [25]) (by kernel_rfl) (by decide) ?_
               refine ALs.cons0 (i := 25) rfl (Runs.free rfl) rfl ?_ ?_
               ·
                skip
                refine os_store (i := 4) (vs := [(.slice ao4 l3.length cap4), (.int .i64 i6), (.int .i64 r7), (.int .i64 (IntKind.wrap .i64 (i3 + 1))), (.int .i64 (IntKind.wrap .i64 ((IntKind.wrap .i64 (i4 + (r1.1.length : Int))) + 1)))]) (cs' := [(.slice ao4 l3.length cap4), (.int .i64 i6), (.int .i64 r7), (.int .i64 (IntKind.wrap .i64 (i3 + 1))), (.int .i64 (IntKind.wrap .i64 ((IntKind.wrap .i64 (i4 + (r1.1.length : Int))) + 1)))]) Tryz.sizeOf88 rfl rfl rfl rfl rfl rfl rfl rfl rfl ?_
                refine ⟨fun w' s => (s.select [0, 1, 2, 3, 5, 6] (by decide) rfl), ?_⟩
                refine AL.done (by kernel_rfl) ?_
                refine then_normal ?_
                exact ⟨r7, (Sub.cons rfl (Sub.nil _)), fun w' s => (s.select [1, 2, 3, 4, 5, 6] (by decide) rfl), hm⟩
               exact ALs.nil
              exact ALs.nil
             exact ALs.nil
            refine ALs.cons (i := 18) rfl (Runs.free rfl) rfl rfl ?_ ?_
            ·
             skip
             refine OQ.step (OV.quiet (ov_load_box (i := 4) Tryz.isAgg3 rfl rfl rfl rfl)) ?_
             refine ⟨fun w' s => (s.select [0, 1, 2, 3, 5, 6] (by decide) rfl), ?_⟩
             refine tq (i := 21) rfl (by kernel_rfl) rfl rfl rfl (ov_add rfl rfl rfl) ?_
             refine tq (i := 22) rfl (by kernel_rfl) rfl rfl rfl (ov_add rfl rfl rfl) ?_
             refine AL.any (rs := [9, 13]) (by kernel_rfl) (by decide) ?_
             refine ALs.cons (i := 9) rfl (Runs.free rfl) rfl rfl ?_ ?_
             ·
              skip
              obtain ⟨r7, e12, hm⟩ := bind_some hm
              refine OQ.step (oq_con (r := (.int .i64 r7)) Tryz.call30 rfl rfl (fun w' s => ⟨_, (journal_mark_con i2 s5  w' H3 s.hold hG r7 e12)⟩)) ?_
              refine ⟨fun w' s => (s.select [0, 1, 2, 3, 5, 6] (by decide) rfl), ?_⟩
              refine AL.any (rs := [13]) (by kernel_rfl) (by decide) ?_
              refine ALs.cons (i := 13) rfl (Runs.free rfl) rfl rfl ?_ ?_
              ·
               skip
               refine OQ.step (OV.quiet (ov_load_box (i := 4) Tryz.isAgg3 rfl rfl rfl rfl)) ?_
               refine ⟨fun w' s => (s.select [0, 1, 2, 3, 5, 6] (by decide) rfl), ?_⟩
               refine tq (i := 14) rfl (by kernel_rfl) rfl rfl rfl (ov_add rfl rfl rfl) ?_
               refine tq (i := 23) rfl (by kernel_rfl) rfl rfl rfl (ov_build (r := (.agg #[(.slice ao4 l3.length cap4), (.int .i64 i6), (.int .i64 r7), (.int .i64 (IntKind.wrap .i64 (i3 + 1))), (.int .i64 (IntKind.wrap .i64 ((IntKind.wrap .i64 (i4 + (r1.1.length : Int))) + 1)))])) rfl rfl (fun _ => by kernel_rfl)) ?_
               refine tq (i := 24) rfl (by kernel_rfl) rfl rfl rfl (ov_nilCheckB rfl rfl) ?_
               refine AL.any (rs := [25]) (by kernel_rfl) (by decide) ?_
               refine ALs.cons0 (i := 25) rfl (Runs.free rfl) rfl ?_ ?_
               ·
                skip
                refine os_store (i := 4) (vs := [(.slice ao4 l3.length cap4), (.int .i64 i6), (.int .i64 r7), (.int .i64 (IntKind.wrap .i64 (i3 + 1))), (.int .i64 (IntKind.wrap .i64 ((IntKind.wrap .i64 (i4 + (r1.1.length : Int))) + 1)))]) (cs' := [(.slice ao4 l3.length cap4), (.int .i64 i6), (.int .i64 r7), (.int .i64 (IntKind.wrap .i64 (i3 + 1))), (.int .i64 (IntKind.wrap .i64 ((IntKind.wrap .i64 (i4 + (r1.1.length : Int))) + 1)))]) Tryz.sizeOf88 rfl rfl rfl rfl rfl rfl rfl rfl rfl ?_
                refine ⟨fun w' s => (s.select [0, 1, 2, 3, 5, 6] (by decide) rfl), ?_⟩
                refine AL.done (by kernel_rfl) ?_
                refine then_normal ?_
                exact ⟨r7, (Sub.cons rfl (Sub.nil _)), fun w' s => (s.select [1, 2, 3, 4, 5, 6] (by decide) rfl), hm⟩
               exact ALs.nil
              exact ALs.nil
             refine ALs.cons (i := 13) rfl (Runs.free rfl) rfl rfl ?_ ?_
             ·
              skip
              refine OQ.step (OV.quiet (ov_load_box (i := 4) Tryz.isAgg3 rfl rfl rfl rfl)) ?_
              refine ⟨fun w' s => (s.select [0, 1, 2, 3, 5, 6] (by decide) rfl), ?_⟩
              refine tq (i := 14) rfl (by kernel_rfl) rfl rfl rfl (ov_add rfl rfl rfl) ?_
              refine AL.any (rs := [9]) (by kernel_rfl) (by decide) ?_
              refine ALs.cons (i := 9) rfl (Runs.free rfl) rfl rfl ?_ ?_
              ·
               skip
               obtain ⟨r7, e12, hm⟩ := bind_some hm
               refine OQ.step (oq_con (r := (.int .i64 r7)) Tryz.call30 rfl rfl (fun w' s => ⟨_, (journal_mark_con i2 s5  w' H3 s.hold hG r7 e12)⟩)) ?_
               refine ⟨fun w' s => (s.select [0, 1, 2, 3, 5, 6] (by decide) rfl), ?_⟩
               refine tq (i := 23) rfl (by kernel_rfl) rfl rfl rfl (ov_build (r := (.agg #[(.slice ao4 l3.length cap4), (.int .i64 i6), (.int .i64 r7), (.int .i64 (IntKind.wrap .i64 (i3 + 1))), (.int .i64 (IntKind.wrap .i64 ((IntKind.wrap .i64 (i4 + (r1.1.length : Int))) + 1)))])) rfl rfl (fun _ => by kernel_rfl)) ?_
               refine tq (i := 24) rfl (by kernel_rfl) rfl rfl rfl (ov_nilCheckB rfl rfl) ?_
               refine AL.any (rs := [25]) (by kernel_rfl) (by decide) ?_
               refine ALs.cons0 (i := 25) rfl (Runs.free rfl) rfl ?_ ?_
               ·
                skip
                refine os_store (i := 4) (vs := [(.slice ao4 l3.length cap4), (.int .i64 i6), (.int .i64 r7), (.int .i64 (IntKind.wrap .i64 (i3 + 1))), (.int .i64 (IntKind.wrap .i64 ((IntKind.wrap .i64 (i4 + (r1.1.length : Int))) + 1)))]) (cs' := [(.slice ao4 l3.length cap4), (.int .i64 i6), (.int .i64 r7), (.int .i64 (IntKind.wrap .i64 (i3 + 1))), (.int .i64 (IntKind.wrap .i64 ((IntKind.wrap .i64 (i4 + (r1.1.length : Int))) + 1)))]) Tryz.sizeOf88 rfl rfl rfl rfl rfl rfl rfl rfl rfl ?_
                refine ⟨fun w' s => (s.select [0, 1, 2, 3, 5, 6] (by decide) rfl), ?_⟩
                refine AL.done (by kernel_rfl) ?_
                refine then_normal ?_
                exact ⟨r7, (Sub.cons rfl (Sub.nil _)), fun w' s => (s.select [1, 2, 3, 4, 5, 6] (by decide) rfl), hm⟩
               exact ALs.nil
              exact ALs.nil
             exact ALs.nil
            exact ALs.nil
           refine ALs.cons (i := 13) rfl (Runs.free rfl) rfl rfl ?_ ?_
           ·
            skip
            refine OQ.step (OV.quiet (ov_load_box (i := 4) Tryz.isAgg3 rfl rfl rfl rfl)) ?_
            refine ⟨fun w' s => (s.select [0, 1, 2, 3, 5, 6] (by decide) rfl), ?_⟩
            refine tq (i := 14) rfl (by kernel_rfl) rfl rfl rfl (ov_add rfl rfl rfl) ?_
            refine AL.any (rs := [5, 18]) (by kernel_rfl) (by decide) ?_
            refine ALs.cons (i := 5) rfl (Runs.free rfl) rfl rfl ?_ ?_
            ·
             skip
             refine OQ.step (OV.quiet (ov_load_box (i := 4) Tryz.isAgg3 rfl rfl rfl rfl)) ?_
             refine ⟨fun w' s => (s.select [0, 1, 2, 3, 5, 6] (by decide) rfl), ?_⟩
             refine AL.any (rs := [9, 18]) (by kernel_rfl) (by decide) ?_
             refine ALs.cons (i := 9) rfl (Runs.free rfl) rfl rfl ?_ ?_
             ·
              skip
              obtain ⟨r7, e12, hm⟩ := bind_some hm
              refine OQ.step (oq_con (r := (.int .i64 r7)) Tryz.call30 rfl rfl (fun w' s => ⟨_, (journal_mark_con i2 s5  w' H3 s.hold hG r7 e12)⟩)) ?_
              refine ⟨fun w' s => (s.select [0, 1, 2, 3, 5, 6] (by decide) rfl), ?_⟩
              refine AL.any (rs := [18]) (by kernel_rfl) (by decide) ?_
              refine ALs.cons (i := 18) rfl (Runs.free rfl) rfl rfl ?_ ?_
              ·
               skip
               refine OQ.step (OV.quiet (ov_load_box (i := 4) Tryz.isAgg3 rfl rfl rfl rfl)) ?_
               refine ⟨fun w' s => (s.select [0, 1, 2, 3, 5, 6] (by decide) rfl), ?_⟩
               refine tq (i := 21) rfl (by kernel_rfl) rfl rfl rfl (ov_add rfl rfl rfl) ?_
               refine tq (i := 22) rfl (by kernel_rfl) rfl rfl rfl (ov_add rfl rfl rfl) ?_
               refine tq (i := 23) rfl (by kernel_rfl) rfl rfl rfl (ov_build (r := (.agg #[(.slice ao4 l3.length cap4), (.int .i64 i6), (.int .i64 r7), (.int .i64 (IntKind.wrap .i64 (i3 + 1))), (.int .i64 (IntKind.wrap .i64 ((IntKind.wrap .i64 (i4 + (r1.1.length : Int))) + 1)))])) rfl rfl (fun _ => by kernel_rfl)) ?_
               refine tq (i := 24) rfl (by kernel_rfl) rfl rfl rfl (ov_nilCheckB rfl rfl) ?_
               refine AL.any (rs := [25]) (by kernel_rfl) (by decide) ?_
               refine ALs.cons0 (i := 25) rfl (Runs.free rfl) rfl ?_ ?_
               ·
                skip
                refine os_store (i := 4) (vs := [(.slice ao4 l3.length cap4), (.int .i64 i6), (.int .i64 r7), (.int .i64 (IntKind.wrap .i64 (i3 + 1))), (.int .i64 (IntKind.wrap .i64 ((IntKind.wrap .i64 (i4 + (r1.1.length : Int))) + 1)))]) (cs' := [(.slice ao4 l3.length cap4), (.int .i64 i6), (.int .i64 r7), (.int .i64 (IntKind.wrap .i64 (i3 + 1))), (.int .i64 (IntKind.wrap .i64 ((IntKind.wrap .i64 (i4 + (r1.1.length : Int))) + 1)))]) Tryz.sizeOf88 rfl rfl rfl rfl rfl rfl rfl rfl rfl ?_
                refine ⟨fun w' s => (s.select [0, 1, 2, 3, 5, 6] (by decide) rfl), ?_⟩
                refine AL.done (by kernel_rfl) ?_
                refine then_normal ?_
                exact ⟨r7, (Sub.cons rfl (Sub.nil _)), fun w' s => (s.select [1, 2, 3, 4, 5, 6] (by decide) rfl), hm⟩
               exact ALs.nil
              exact ALs.nil
             refine ALs.cons (i := 18) rfl (Runs.free rfl) rfl rfl ?_ ?_
             ·
              skip
              refine OQ.step (OV.quiet (ov_load_box (i := 4) Tryz.isAgg3 rfl rfl rfl rfl)) ?_
              refine ⟨fun w' s => (s.select [0, 1, 2, 3, 5, 6] (by decide) rfl), ?_⟩
              refine tq (i := 21) rfl (by kernel_rfl) rfl rfl rfl (ov_add rfl rfl rfl) ?_
              refine tq (i := 22) rfl (by kernel_rfl) rfl rfl rfl (ov_add rfl rfl rfl) ?_
              refine AL.any (rs := [9]) (by kernel_rfl) (by decide) ?_
              refine ALs.cons (i := 9) rfl (Runs.free rfl) rfl rfl ?_ ?_
              ·
               skip
               obtain ⟨r7, e12, hm⟩ := bind_some hm
               refine OQ.step (oq_con (r := (.int .i64 r7)) Tryz.call30 rfl rfl (fun w' s => ⟨_, (journal_mark_con i2 s5  w' H3 s.hold hG r7 e12)⟩)) ?_
               refine ⟨fun w' s => (s.select [0, 1, 2, 3, 5, 6] (by decide) rfl), ?_⟩
               refine tq (i := 23) rfl (by kernel_rfl) rfl rfl rfl (ov_build (r := (.agg #[(.slice ao4 l3.length cap4), (.int .i64 i6), (.int .i64 r7), (.int .i64 (IntKind.wrap .i64 (i3 + 1))), (.int .i64 (IntKind.wrap .i64 ((IntKind.wrap .i64 (i4 + (r1.1.length : Int))) + 1)))])) rfl rfl (fun _ => by kernel_rfl)) ?_
               refine tq (i := 24) rfl (by kernel_rfl) rfl rfl rfl (ov_nilCheckB rfl rfl) ?_
               refine AL.any (rs := [25]) (by kernel_rfl) (by decide) ?_
               refine ALs.cons0 (i := 25) rfl (Runs.free rfl) rfl ?_ ?_
               ·
                skip
                refine os_store (i := 4) (vs := [(.slice ao4 l3.length cap4), (.int .i64 i6), (.int .i64 r7), (.int .i64 (IntKind.wrap .i64 (i3 + 1))), (.int .i64 (IntKind.wrap .i64 ((IntKind.wrap .i64 (i4 + (r1.1.length : Int))) + 1)))]) (cs' := [(.slice ao4 l3.length cap4), (.int .i64 i6), (.int .i64 r7), (.int .i64 (IntKind.wrap .i64 (i3 + 1))), (.int .i64 (IntKind.wrap .i64 ((IntKind.wrap .i64 (i4 + (r1.1.length : Int))) + 1)))]) Tryz.sizeOf88 rfl rfl rfl rfl rfl rfl rfl rfl rfl ?_
                refine ⟨fun w' s => (s.select [0, 1, 2, 3, 5, 6] (by decide) rfl), ?_⟩
                refine AL.done (by kernel_rfl) ?_
                refine then_normal ?_
                exact ⟨r7, (Sub.cons rfl (Sub.nil _)), fun w' s => (s.select [1, 2, 3, 4, 5, 6] (by decide) rfl), hm⟩
               exact ALs.nil
              exact ALs.nil
             exact ALs.nil
            refine ALs.cons (i := 18) rfl (Runs.free rfl) rfl rfl ?_ ?_
            ·
             skip
             refine OQ.step (OV.quiet (ov_load_box (i := 4) Tryz.isAgg3 rfl rfl rfl rfl)) ?_
             refine ⟨fun w' s => (s.select [0, 1, 2, 3, 5, 6] (by decide) rfl), ?_⟩
             refine tq (i := 21) rfl (by kernel_rfl) rfl rfl rfl (ov_add rfl rfl rfl) ?_
             refine tq (i := 22) rfl (by kernel_rfl) rfl rfl rfl (ov_add rfl rfl rfl) ?_
             refine AL.any (rs := [5]) (by kernel_rfl) (by decide) ?_
             refine ALs.cons (i := 5) rfl (Runs.free rfl) rfl rfl ?_ ?_
             ·
              skip
              refine OQ.step (OV.quiet (ov_load_box (i := 4) Tryz.isAgg3 rfl rfl rfl rfl)) ?_
              refine ⟨fun w' s => (s.select [0, 1, 2, 3, 5, 6] (by decide) rfl), ?_⟩
              refine AL.any (rs := [9]) (by kernel_rfl) (by decide) ?_
              refine ALs.cons (i := 9) rfl (Runs.free rfl) rfl rfl ?_ ?_
              ·
               skip
               obtain ⟨r7, e12, hm⟩ := bind_some hm
               refine OQ.step (oq_con (r := (.int .i64 r7)) Tryz.call30 rfl rfl (fun w' s => ⟨_, (journal_mark_con i2 s5  w' H3 s.hold hG r7 e12)⟩)) ?_
               refine ⟨fun w' s => (s.select [0, 1, 2, 3, 5, 6] (by decide) rfl), ?_⟩
               refine tq (i := 23) rfl (by kernel_rfl) rfl rfl rfl (ov_build (r := (.agg #[(.slice ao4 l3.length cap4), (.int .i64 i6), (.int .i64 r7), (.int .i64 (IntKind.wrap .i64 (i3 + 1))), (.int .i64 (IntKind.wrap .i64 ((IntKind.wrap .i64 (i4 + (r1.1.length : Int))) + 1)))])) rfl rfl (fun _ => by kernel_rfl)) ?_
               refine tq (i := 24) rfl (by kernel_rfl) rfl rfl rfl (ov_nilCheckB rfl rfl) ?_
               refine AL.any (rs := [25]) (by kernel_rfl) (by decide) ?_
               refine ALs.cons0 (i := 25) rfl (Runs.free rfl) rfl ?_ ?_
               ·
                skip
                refine os_store (i := 4) (vs := [(.slice ao4 l3.length cap4), (.int .i64 i6), (.int .i64 r7), (.int .i64 (IntKind.wrap .i64 (i3 + 1))), (.int .i64 (IntKind.wrap .i64 ((IntKind.wrap .i64 (i4 + (r1.1.length : Int))) + 1)))]) (cs' := [(.slice ao4 l3.length cap4), (.int .i64 i6), (.int .i64 r7), (.int .i64 (IntKind.wrap .i64 (i3 + 1))), (.int .i64 (IntKind.wrap .i64 ((IntKind.wrap .i64 (i4 + (r1.1.length : Int))) + 1)))]) Tryz.sizeOf88 rfl rfl rfl rfl rfl rfl rfl rfl rfl ?_
                refine ⟨fun w' s => (s.select [0, 1, 2, 3, 5, 6] (by decide) rfl), ?_⟩
                refine AL.done (by kernel_rfl) ?_
                refine then_normal ?_
                exact ⟨r7, (Sub.cons rfl (Sub.nil _)), fun w' s => (s.select [1, 2, 3, 4, 5, 6] (by decide) rfl), hm⟩
               exact ALs.nil
              exact ALs.nil
             exact ALs.nil
            exact ALs.nil
           refine ALs.cons (i := 18) rfl (Runs.free rfl) rfl rfl ?_ ?_
           ·
            skip
            refine OQ.step (OV.quiet (ov_load_box (i := 4) Tryz.isAgg3 rfl rfl rfl rfl)) ?_
            refine ⟨fun w' s => (s.select [0, 1, 2, 3, 5, 6] (by decide) rfl), ?_⟩
            refine tq (i := 21) rfl (by kernel_rfl) rfl rfl rfl (ov_add rfl rfl rfl) ?_
            refine tq (i := 22) rfl (by kernel_rfl) rfl rfl rfl (ov_add rfl rfl rfl) ?_
            refine AL.any (rs := [5, 13]) (by kernel_rfl) (by decide) ?_
            refine ALs.cons (i := 5) rfl (Runs.free rfl) rfl rfl ?_ ?_
            ·
             skip
             refine OQ.step (OV.quiet (ov_load_box (i := 4) Tryz.isAgg3 rfl rfl rfl rfl)) ?_
             refine ⟨fun w' s => (s.select [0, 1, 2, 3, 5, 6] (by decide) rfl), ?_⟩
             refine AL.any (rs := [9, 13]) (by kernel_rfl) (by decide) ?_
             refine ALs.cons (i := 9) rfl (Runs.free rfl) rfl rfl ?_ ?_
             ·
              skip
              obtain ⟨r7, e12, hm⟩ := bind_some hm
              refine OQ.step (oq_con (r := (.int .i64 r7)) Tryz.call30 rfl rfl (fun w' s => ⟨_, (journal_mark_con i2 s5  w' H3 s.hold hG r7 e12)⟩)) ?_
              refine ⟨fun w' s => (s.select [0, 1, 2, 3, 5, 6] (by decide) rfl), ?_⟩
              refine AL.any (rs := [13]) (by kernel_rfl) (by decide) ?_
              refine ALs.cons (i := 13) rfl (Runs.free rfl) rfl rfl ?_ ?_
              ·
               skip
               refine OQ.step (OV.quiet (ov_load_box (i := 4) Tryz.isAgg3 rfl rfl rfl rfl)) ?_
               refine ⟨fun w' s => (s.select [0, 1, 2, 3, 5, 6] (by decide) rfl), ?_⟩
               refine tq (i := 14) rfl (by kernel_rfl) rfl rfl rfl (ov_add rfl rfl rfl) ?_
               refine tq (i := 23) rfl (by kernel_rfl) rfl rfl rfl (ov_build (r := (.agg #[(.slice ao4 l3.length cap4), (.int .i64 i6), (.int .i64 r7), (.int .i64 (IntKind.wrap .i64 (i3 + 1))), (.int .i64 (IntKind.wrap .i64 ((IntKind.wrap .i64 (i4 + (r1.1.length : Int))) + 1)))])) rfl rfl (fun _ => by kernel_rfl)) ?_
               refine tq (i := 24) rfl (by kernel_rfl) rfl rfl rfl (ov_nilCheckB rfl rfl) ?_
               refine AL.any (rs := [25]) (by kernel_rfl) (by decide) ?_
               refine ALs.cons0 (i := 25) rfl (Runs.free rfl) rfl ?_ ?_
               ·
                skip
                refine os_store (i := 4) (vs := [(.slice ao4 l3.length cap4), (.int .i64 i6), (.int .i64 r7), (.int .i64 (IntKind.wrap .i64 (i3 + 1))), (.int .i64 (IntKind.wrap .i64 ((IntKind.wrap .i64 (i4 + (r1.1.length : Int))) + 1)))]) (cs' := [(.slice ao4 l3.length cap4), (.int .i64 i6), (.int .i64 r7), (.int .i64 (IntKind.wrap .i64 (i3 + 1))), (.int .i64 (IntKind.wrap .i64 ((IntKind.wrap .i64 (i4 + (r1.1.length : Int))) + 1)))]) Tryz.sizeOf88 rfl rfl rfl rfl rfl rfl rfl rfl rfl ?_
                refine ⟨fun w' s => (s.select [0, 1, 2, 3, 5, 6] (by decide) rfl), ?_⟩
                refine AL.done (by kernel_rfl) ?_
                refine then_normal ?_
                exact ⟨r7, (Sub.cons rfl (Sub.nil _)), fun w' s => (s.select [1, 2, 3, 4, 5, 6] (by decide) rfl), hm⟩
               exact ALs.nil
              exact ALs.nil
             refine ALs.cons (i := 13) rfl (Runs.free rfl) rfl rfl ?_ ?_
             ·
              skip
              refine OQ.step (OV.quiet (ov_load_box (i := 4) Tryz.isAgg3 rfl rfl rfl rfl)) ?_
              refine ⟨fun w' s => (s.select [0, 1, 2, 3, 5, 6] (by decide) rfl), ?_⟩
              refine tq (i := 14) rfl (by kernel_rfl) rfl rfl rfl (ov_add rfl rfl rfl) ?_
              refine AL.any (rs := [9]) (by kernel_rfl) (by decide) ?_
              refine ALs.cons (i := 9) rfl (Runs.free rfl) rfl rfl ?_ ?_
              ·
               skip
               obtain ⟨r7, e12, hm⟩ := bind_some hm
               refine OQ.step (oq_con (r := (.int .i64 r7)) Tryz.call30 rfl rfl (fun w' s => ⟨_, (journal_mark_con i2 s5  w' H3 s.hold hG r7 e12)⟩)) ?_
               refine ⟨fun w' s => (s.select [0, 1, 2, 3, 5, 6] (by decide) rfl), ?_⟩
               refine tq (i := 23) rfl (by kernel_rfl) rfl rfl rfl (ov_build (r := (.agg #[(.slice ao4 l3.length cap4), (.int .i64 i6), (.int .i64 r7), (.int .i64 (IntKind.wrap .i64 (i3 + 1))), (.int .i64 (IntKind.wrap .i64 ((IntKind.wrap .i64 (i4 + (r1.1.length : Int))) + 1)))])) rfl rfl (fun _ => by kernel_rfl)) ?_
               refine tq (i := 24) rfl (by kernel_rfl) rfl rfl rfl (ov_nilCheckB rfl rfl) ?_
               refine AL.any (rs := [25]) (by kernel_rfl) (by decide) ?_
               refine ALs.cons0 (i := 25) rfl (Runs.free rfl) rfl ?_ ?_
               ·
                skip
                refine os_store (i := 4) (vs := [(.slice ao4 l3.length cap4), (.int .i64 i6), (.int .i64 r7), (.int .i64 (IntKind.wrap .i64 (i3 + 1))), (.int .i64 (IntKind.wrap .i64 ((IntKind.wrap .i64 (i4 + (r1.1.length : Int))) + 1)))]) (cs' := [(.slice ao4 l3.length cap4), (.int .i64 i6), (.int .i64 r7), (.int .i64 (IntKind.wrap .i64 (i3 + 1))), (.int .i64 (IntKind.wrap .i64 ((IntKind.wrap .i64 (i4 + (r1.1.length : Int))) + 1)))]) Tryz.sizeOf88 rfl rfl rfl rfl rfl rfl rfl rfl rfl ?_
                refine ⟨fun w' s => (s.select [0, 1, 2, 3, 5, 6] (by decide) rfl), ?_⟩
                refine AL.done (by kernel_rfl) ?_
                refine then_normal ?_
                exact ⟨r7, (Sub.cons rfl (Sub.nil _)), fun w' s => (s.select [1, 2, 3, 4, 5, 6] (by decide) rfl), hm⟩
               exact ALs.nil
              exact ALs.nil
             exact ALs.nil
            refine ALs.cons (i := 13) rfl (Runs.free rfl) rfl rfl ?_ ?_
            ·
             skip
             refine OQ.step (OV.quiet (ov_load_box (i := 4) Tryz.isAgg3 rfl rfl rfl rfl)) ?_
             refine ⟨fun w' s => (s.select [0, 1, 2, 3, 5, 6] (by decide) rfl), ?_⟩
             refine tq (i := 14) rfl (by kernel_rfl) rfl rfl rfl (ov_add rfl rfl rfl) ?_
             refine AL.any (rs := [5]) (by kernel_rfl) (by decide) ?_
             refine ALs.cons (i := 5) rfl (Runs.free rfl) rfl rfl ?_ ?_
             ·
              skip
              refine OQ.step (OV.quiet (ov_load_box (i := 4) Tryz.isAgg3 rfl rfl rfl rfl)) ?_
              refine ⟨fun w' s => (s.select [0, 1, 2, 3, 5, 6] (by decide) rfl), ?_⟩
              refine AL.any (rs := [9]) (by kernel_rfl) (by decide) ?_
              refine ALs.cons (i := 9) rfl (Runs.free rfl) rfl rfl ?_ ?_
              ·
               skip
               obtain ⟨r7, e12, hm⟩ := bind_some hm
               refine OQ.step (oq_con (r := (.int .i64 r7)) Tryz.call30 rfl rfl (fun w' s => ⟨_, (journal_mark_con i2 s5  w' H3 s.hold hG r7 e12)⟩)) ?_
               refine ⟨fun w' s => (s.select [0, 1, 2, 3, 5, 6] (by decide) rfl), ?_⟩
               refine tq (i := 23) rfl (by kernel_rfl) rfl rfl rfl (ov_build (r := (.agg #[(.slice ao4 l3.length cap4), (.int .i64 i6), (.int .i64 r7), (.int .i64 (IntKind.wrap .i64 (i3 + 1))), (.int .i64 (IntKind.wrap .i64 ((IntKind.wrap .i64 (i4 + (r1.1.length : Int))) + 1)))])) rfl rfl (fun _ => by kernel_rfl)) ?_
               refine tq (i := 24) rfl (by kernel_rfl) rfl rfl rfl (ov_nilCheckB rfl rfl) ?_
               refine AL.any (rs := [25]) (by kernel_rfl) (by decide) ?_
               refine ALs.cons0 (i := 25) rfl (Runs.free rfl) rfl ?_ ?_
               ·
                skip
                refine os_store (i := 4) (vs := [(.slice ao4 l3.length cap4), (.int .i64 i6), (.int .i64 r7), (.int .i64 (IntKind.wrap .i64 (i3 + 1))), (.int .i64 (IntKind.wrap .i64 ((IntKind.wrap .i64 (i4 + (r1.1.length : Int))) + 1)))]) (cs' := [(.slice ao4 l3.length cap4), (.int .i64 i6), (.int .i64 r7), (.int .i64 (IntKind.wrap .i64 (i3 + 1))), (.int .i64 (IntKind.wrap .i64 ((IntKind.wrap .i64 (i4 + (r1.1.length : Int))) + 1)))]) Tryz.sizeOf88 rfl rfl rfl rfl rfl rfl rfl rfl rfl ?_
                refine ⟨fun w' s => (s.select [0, 1, 2, 3, 5, 6] (by decide) rfl), ?_⟩
                refine AL.done (by kernel_rfl) ?_
                refine then_normal ?_
                exact ⟨r7, (Sub.cons rfl (Sub.nil _)), fun w' s => (s.select [1, 2, 3, 4, 5, 6] (by decide) rfl), hm⟩
               exact ALs.nil
              exact ALs.nil
             exact ALs.nil
            exact ALs.nil
           exact ALs.nil
          ·
           rintro g' S' ⟨i7, hsub3, hS3, hm⟩
           refine WP.sub hsub3 (WP.weaken hS3 ?_)
           replace hm := (congrFun hk3 i7).symm.trans hm
           refine WP.seq (WP.region ?_)
           refine wq rfl rfl rfl (ov_assign rfl rfl) ?_
           refine WL.nil (then_normal (WP.ret ?_))
           refine retQ_ret (v := (.int .i64 0)) Tryz.results51 (Res.tmp rfl Res.nil) rfl (fun w' s => ⟨_, ?_, s⟩)
           refine wq rfl rfl rfl (ov_assign rfl rfl) ?_
           refine WL.nil (then_normal ?_)
           exact ⟨H3, 0, l3, ao4, cap4, i6, i7, (IntKind.wrap .i64 (i3 + 1)), (IntKind.wrap .i64 ((IntKind.wrap .i64 (i4 + (r1.1.length : Int))) + 1)), hle3, h4, hc10, (Sub.cons rfl (Sub.cons rfl (Sub.cons rfl (Sub.cons rfl (Sub.cons rfl (Sub.nil _)))))), fun w' s => s, hm⟩
   ·
    rintro g' S' ⟨H4, i8, l4, ao5, cap5, i9, i10, i11, i12, hle4, h5, hc12, hsub4, hS4, hm⟩
    refine WP.sub hsub4 (WP.weaken hS4 ?_)
    replace hm := (congrFun (congrFun (congrFun (congrFun (congrFun (congrFun hk1 i8) l4) i9) i10) i11) i12).symm.trans hm
    replace hG := hG.mono hle4
    refine WP.seq (WP.region ?_)
    refine wq rfl rfl rfl (ov_move rfl rfl) ?_
    refine wq rfl rfl rfl (ov_neq rfl rfl rfl) ?_
    refine WL.nil (then_normal ?_)
    refine WP.cond rfl (fun hc13 => ?_) (fun hc13 => ?_)
    ·
     replace hm := ite_t hc13 hm
     refine WP.seq (WP.region ?_)
     refine wq rfl rfl rfl (ov_load_whole (i := 3) Tryz.isAgg88 Tryz.sizeOf88 rfl rfl rfl rfl) ?_
     refine wq rfl rfl rfl (ov_move rfl rfl) ?_
     refine WL.step0 (Runs.free rfl) rfl (os_store (i := 5) (vs := [(.slice ao5 l4.length cap5), (.int .i64 i9), (.int .i64 i10), (.int .i64 i11), (.int .i64 i12)]) (cs' := [(.slice ao5 l4.length cap5), (.int .i64 i9), (.int .i64 i10), (.int .i64 i11), (.int .i64 i12)]) Tryz.sizeOf88 rfl rfl rfl rfl rfl rfl rfl rfl rfl ?_)
     refine WL.step0 (Runs.free rfl) rfl (os_store (i := 4) (vs := [(.int .i64 i8)]) (cs' := [(.int .i64 i8)]) Tryz.sizeOf30 rfl rfl rfl rfl rfl rfl rfl rfl rfl ?_)
     refine WL.nil (then_normal (WP.ret (block_ret ?_)))
     refine round_ret (i := 0) rfl ?_
     refine wq rfl rfl rfl (ov_not rfl rfl) ?_
     refine WL.nil (then_normal (WP.cond_true rfl (WP.ret (then_ret (block_ret (then_ret (block_ret ?_)))))))
     refine retQ_ret (v := (.tuple #[])) Tryz.results65 Res.nil rfl (fun w' s => ⟨St w H [.obj l1 (R1 .done (some .ret)), .obj D1 (.deferred (some [])), .blk b4 9 [(mkS s1)], .blk b3 88 [(.slice ao5 l4.length cap5), (.int .i64 i9), (.int .i64 i10), (.int .i64 i11), (.int .i64 i12)], .blk b2 30 [(.int .i64 i8)], .blk b1 88 [(.slice ao5 l4.length cap5), (.int .i64 i9), (.int .i64 i10), (.int .i64 i11), (.int .i64 i12)]] H4, ?_, s⟩)
     refine after_ret ?_
     refine block_ret (then_ret ?_)
     obtain rfl := Option.some.inj hm
     refine retQ_retM (i := 0) rfl Tryz.results35 (Res.cell rfl (box_loads (i := 3) Tryz.isAgg88 Tryz.sizeOf88 rfl rfl) (Res.cell rfl (box_load (i := 2) Tryz.isAgg30 rfl) Res.nil)) rfl (fun w' s => ⟨s.below, ?_⟩)
     exact ⟨ao5, cap5, rfl, h5.mono s.le_newer, hc12⟩
    ·
     replace hm := ite_f hc13 hm
     refine WP.skip (block_normal ?_)
     refine round_normal (i := 0) rfl ?_
     refine wq rfl rfl rfl (ov_not rfl rfl) ?_
     refine WL.nil (then_normal (WP.cond_false rfl (WP.skip (then_normal (WP.region ?_)))))
     refine wq rfl rfl rfl (ov_move rfl rfl) ?_
     refine WL.step0 (Runs.free rfl) rfl (os_store (i := 2) (vs := [(mkS r1.2.1)]) (cs' := [(mkS r1.2.1)]) Tryz.sizeOf9 rfl rfl rfl rfl rfl rfl rfl rfl rfl ?_)
     refine WL.nil (block_normal (then_normal ?_))
     exact ⟨H4, r1.2.1, l4, ao5, cap5, i9, i10, i11, i12, (hle1.trans hle4), h5, hc12, (Sub.cons rfl (Sub.cons rfl (Sub.cons rfl (Sub.nil _)))), fun w' s => s, hm⟩
  ·
   replace hm := ite_f hc3 hm
   refine WP.exit (then_exit (then_exit (block_here ?_)))
   refine retQ_end (v := (.tuple #[])) Tryz.results65 Res.nil rfl (fun w' s => ⟨St w H [.obj l1 (R1 .ready none), .obj D1 (.deferred (some [])), .blk b4 9 [(mkS s1)], .blk b3 88 [(.slice ao2 l2.length cap2), (.int .i64 i1), (.int .i64 i2), (.int .i64 i3), (.int .i64 i4)], .blk b2 30 [(.int .i64 0)], .blk b1 88 [(.slice none 0 0), (.int .i64 0), (.int .i64 0), (.int .i64 0), (.int .i64 0)]] H1, ?_, s⟩)
   refine after_normal ?_
   refine block_normal (then_normal (WP.seq (WP.region ?_)))
   refine wq rfl rfl rfl (ov_load_whole (i := 2) Tryz.isAgg88 Tryz.sizeOf88 rfl rfl rfl rfl) ?_
   refine WL.step0 (Runs.free rfl) rfl (os_store (i := 4) (vs := [(.slice ao2 l2.length cap2), (.int .i64 i1), (.int .i64 i2), (.int .i64 i3), (.int .i64 i4)]) (cs' := [(.slice ao2 l2.length cap2), (.int .i64 i1), (.int .i64 i2), (.int .i64 i3), (.int .i64 i4)]) Tryz.sizeOf88 rfl rfl rfl rfl rfl rfl rfl rfl rfl ?_)
   refine WL.step0 (Runs.free rfl) rfl (os_store (i := 3) (vs := [(.int .i64 0)]) (cs' := [(.int .i64 0)]) Tryz.sizeOf30 rfl rfl rfl rfl rfl rfl rfl rfl rfl ?_)
   refine WL.nil (then_normal (WP.ret ?_))
   obtain rfl := Option.some.inj hm
   refine retQ_retM (i := 0) rfl Tryz.results35 (Res.cell rfl (box_loads (i := 3) Tryz.isAgg88 Tryz.sizeOf88 rfl rfl) (Res.cell rfl (box_load (i := 2) Tryz.isAgg30 rfl) Res.nil)) rfl (fun w' s => ⟨s.below, ?_⟩)
   exact ⟨ao2, cap2, rfl, h2.mono s.le_newer, hc2⟩

theorem journal_Load_con (p_text : (List UInt8)) (w : World) (H : Heap) (hH : Le H (hp w)) (hG : Glob H) (r : (Machine × Int × Int)) (hm : journal_Load p_text = some r) :
  Con Tryz.prog 16 [(mkS p_text)] w H (fun v H' => ∃ (ao1 : Option Addr) (cap1 : Nat), v = (.tuple #[(.agg #[(.slice ao1 r.1.items.length cap1), (.int .i64 r.1.cycles)]), (.int .i64 r.2.1), (.int .i64 r.2.2)]) ∧ SL H' encItem ao1 r.1.items ∧ r.1.items.length ≤ cap1) := by
 unfold journal_Load at hm
 refine con_of hH Tryz.func16 rfl 26 Tryz.ntmps16 rfl ?_
 refine WP.seq (WP.region ?_)
 refine WL.step (Runs.free rfl) rfl rfl (os_alloc (cs := [(.slice none 0 0), (.int .i64 0)]) Tryz.zeroValue35 rfl rfl (fun b1 => ?_))
 refine wq rfl rfl rfl (ov_assign rfl rfl) ?_
 refine wq rfl rfl rfl (ov_assign rfl rfl) ?_
 refine WL.nil (then_normal (WP.seq (WP.seq (WP.region ?_))))
 refine wq rfl rfl rfl (ov_move rfl rfl) ?_
 refine wq rfl rfl rfl (ov_len_string Tryz.underlying9 rfl rfl) ?_
 refine wq rfl rfl rfl (ov_gtr rfl rfl rfl) ?_
 refine WL.nil (then_normal ?_)
 refine WP.cond rfl (fun hc2 => ?_) (fun hc2 => ?_)
 ·
  replace hm := ite_t hc2 hm
  refine WP.seq (WP.region ?_)
  refine wq rfl rfl rfl (ov_build (r := (.agg #[(.slice none 0 0), (.int .i64 0)])) rfl rfl (fun _ => by kernel_rfl)) ?_
  refine WL.step0 (Runs.free rfl) rfl (os_store (i := 0) (vs := [(.slice none 0 0), (.int .i64 0)]) (cs' := [(.slice none 0 0), (.int .i64 0)]) Tryz.sizeOf35 rfl rfl rfl rfl rfl rfl rfl rfl rfl ?_)
  refine wq rfl rfl rfl (ov_assign rfl rfl) ?_
  refine wq rfl rfl rfl (ov_assign rfl rfl) ?_
  refine WL.nil (then_normal (WP.ret (then_ret ?_)))
  obtain rfl := Option.some.inj hm
  refine retQ_ret Tryz.results16 (Res.cell rfl (box_loads (i := 0) Tryz.isAgg35 Tryz.sizeOf35 rfl rfl) (Res.tmp rfl (Res.tmp rfl Res.nil))) rfl (fun w' s => ⟨s.below, ?_⟩)
  exact ⟨none, 0, rfl, SL.nil _ _ _, Nat.le_refl _⟩
 ·
  replace hm := ite_f hc2 hm
  refine WP.skip (then_normal (WP.seq (WP.region ?_)))
  refine wq rfl rfl rfl (ov_move rfl rfl) ?_
  obtain ⟨r1, e1, hm⟩ := bind_some hm
  refine WL.step (Runs.free rfl) rfl rfl (os_con Tryz.call35 rfl rfl (fun w' s => (journal_readAll_con p_text  w' H s.hold hG r1 e1)) (fun rr1 H1 hle1 hR1 => ?_))
  replace hG := hG.mono hle1
  obtain ⟨ao2, cap2, rfl, h2, hc3⟩ := hR1
  refine wq rfl rfl rfl (ov_move rfl rfl) ?_
  refine wq rfl rfl rfl (ov_extract rfl rfl rfl) ?_
  refine wq rfl rfl rfl (ov_extract rfl rfl rfl) ?_
  refine WL.step (Runs.free rfl) rfl rfl (os_alloc (cs := [(.slice none 0 0), (.int .i64 0), (.int .i64 0), (.int .i64 0), (.int .i64 0)]) Tryz.zeroValue88 rfl rfl (fun b2 => ?_))
  refine WL.step0 (Runs.free rfl) rfl (os_store (i := 0) (vs := [(.slice ao2 r1.1.m.items.length cap2), (.int .i64 r1.1.m.cycles), (.int .i64 r1.1.mark), (.int .i64 r1.1.lines), (.int .i64 r1.1.size)]) (cs' := [(.slice ao2 r1.1.m.items.length cap2), (.int .i64 r1.1.m.cycles), (.int .i64 r1.1.mark), (.int .i64 r1.1.lines), (.int .i64 r1.1.size)]) Tryz.sizeOf88 rfl rfl rfl rfl rfl rfl rfl rfl rfl ?_)
  refine wq rfl rfl rfl (ov_assign rfl rfl) ?_
  refine WL.nil (then_normal (WP.seq (WP.seq (WP.region ?_))))
  refine wq rfl rfl rfl (ov_move rfl rfl) ?_
  refine wq rfl rfl rfl (ov_neq rfl rfl rfl) ?_
  refine WL.nil (then_normal ?_)
  refine WP.cond rfl (fun hc4 => ?_) (fun hc4 => ?_)
  ·
   replace hm := ite_t hc4 hm
   refine WP.seq ?_
   refine WP.region_any (S₀ := St w H [.blk b2 88 [(.slice ao2 r1.1.m.items.length cap2), (.int .i64 r1.1.m.cycles), (.int .i64 r1.1.mark), (.int .i64 r1.1.lines), (.int .i64 r1.1.size)], .blk b1 35 [(.slice none 0 0), (.int .i64 0)]] H1) 7 rfl (by kernel_rfl) (fun w' s => s) (fun _ s => s.drew) ?_
   refine tq (i := 0) rfl (by kernel_rfl) rfl rfl rfl (ov_build (r := (.agg #[(.slice none 0 0), (.int .i64 0)])) rfl rfl (fun _ => by kernel_rfl)) ?_
   refine tq (i := 1) rfl (by kernel_rfl) rfl rfl rfl (ov_fieldAddr Tryz.underlying88 rfl rfl rfl Tryz.sizeOf3 rfl rfl) ?_
   refine tq (i := 2) rfl (by kernel_rfl) rfl rfl rfl (ov_load_box (i := 0) Tryz.isAgg3 rfl rfl rfl rfl) ?_
   refine tq (i := 3) rfl (by kernel_rfl) rfl rfl rfl (ov_move rfl rfl) ?_
   refine AL.any (rs := [4]) (by kernel_rfl) (by decide) ?_
   refine ALs.cons0 (i := 4) rfl (Runs.free rfl) rfl ?_ ?_
   ·
    skip
    refine os_store (i := 1) (vs := [(.slice none 0 0), (.int .i64 0)]) (cs' := [(.slice none 0 0), (.int .i64 0)]) Tryz.sizeOf35 rfl rfl rfl rfl rfl rfl rfl rfl rfl ?_
    refine ⟨fun w' s => s, ?_⟩
    refine tq (i := 5) rfl (by kernel_rfl) rfl rfl rfl (ov_assign rfl rfl) ?_
    refine tq (i := 6) rfl (by kernel_rfl) rfl rfl rfl (ov_assign rfl rfl) ?_
    refine AL.done (by kernel_rfl) ?_
    refine then_normal (WP.ret (then_ret ?_))
    obtain rfl := Option.some.inj hm
    refine retQ_ret Tryz.results16 (Res.cell rfl (box_loads (i := 1) Tryz.isAgg35 Tryz.sizeOf35 rfl rfl) (Res.tmp rfl (Res.tmp rfl Res.nil))) rfl (fun w' s => ⟨s.below, ?_⟩)
    exact ⟨none, 0, rfl, SL.nil _ _ _, Nat.le_refl _⟩
   exact ALs.nil
  ·
   replace hm := ite_f hc4 hm
   refine WP.skip (then_normal (WP.seq ?_))
   refine WP.region_any (S₀ := St w H [.blk b2 88 [(.slice ao2 r1.1.m.items.length cap2), (.int .i64 r1.1.m.cycles), (.int .i64 r1.1.mark), (.int .i64 r1.1.lines), (.int .i64 r1.1.size)]] H1) 7 rfl (by kernel_rfl) (fun w' s => (s.select [0] (by decide) rfl)) (fun _ s => s.drew) ?_
   refine tq (i := 0) rfl (by kernel_rfl) rfl rfl rfl (ov_fieldAddr Tryz.underlying88 rfl rfl rfl Tryz.sizeOf35 rfl rfl) ?_
   refine tq (i := 1) rfl (by kernel_rfl) rfl rfl rfl (ov_load_boxes (i := 0) (vs := [(.slice ao2 r1.1.m.items.length cap2), (.int .i64 r1.1.m.cycles)]) Tryz.isAgg35 Tryz.sizeOf35 rfl rfl rfl rfl (part_of rfl)) ?_
   refine tq (i := 2) rfl (by kernel_rfl) rfl rfl rfl (ov_fieldAddr Tryz.underlying88 rfl rfl rfl Tryz.sizeOf3 rfl rfl) ?_
   refine tq (i := 3) rfl (by kernel_rfl) rfl rfl rfl (ov_load_box (i := 0) Tryz.isAgg3 rfl rfl rfl rfl) ?_
   refine AL.any (rs := [4]) (by kernel_rfl) (by decide) ?_
   refine ALs.cons0 (i := 4) rfl (Runs.free rfl) rfl ?_ ?_
   ·
    skip
    refine os_store (i := 1) (vs := [(.slice ao2 r1.1.m.items.length cap2), (.int .i64 r1.1.m.cycles)]) (cs' := [(.slice ao2 r1.1.m.items.length cap2), (.int .i64 r1.1.m.cycles)]) Tryz.sizeOf35 rfl rfl rfl rfl rfl rfl rfl rfl rfl ?_
    refine ⟨fun w' s => (s.select [0] (by decide) rfl), ?_⟩
    refine tq (i := 5) rfl (by kernel_rfl) rfl rfl rfl (ov_assign rfl rfl) ?_
    refine tq (i := 6) rfl (by kernel_rfl) rfl rfl rfl (ov_assign rfl rfl) ?_
    refine AL.done (by kernel_rfl) ?_
    refine then_normal (WP.ret ?_)
    obtain rfl := Option.some.inj hm
    refine retQ_ret Tryz.results16 (Res.cell rfl (box_loads (i := 1) Tryz.isAgg35 Tryz.sizeOf35 rfl rfl) (Res.tmp rfl (Res.tmp rfl Res.nil))) rfl (fun w' s => ⟨s.below, ?_⟩)
    exact ⟨ao2, cap2, rfl, h2.mono s.le_newer, hc3⟩
   exact ALs.nil

theorem top_runLog_con  (w : World) (H : Heap) (hH : Le H (hp w)) (hG : Glob H) (r : Bool) (hm : top_runLog  = some r) :
  Con Tryz.prog 6 [] w H (fun v _ => v = (.bool r)) := by
 unfold top_runLog at hm
 refine con_of hH Tryz.func6 rfl 38 Tryz.ntmps6 rfl ?_
 refine WP.seq (WP.region ?_)
 refine wq rfl rfl rfl (ov_assign rfl rfl) ?_
 refine WL.nil (then_normal (WP.seq (WP.region ?_)))
 obtain ⟨r1, e1, hm⟩ := bind_some hm
 refine WL.step (Runs.free rfl) rfl rfl (os_con Tryz.call15 rfl rfl (fun w' s => (law58_Four_con   w' H s.hold hG r1 e1)) (fun rr1 H1 hle1 hR1 => ?_))
 replace hG := hG.mono hle1
 obtain ⟨ao1, cap1, rfl, h1, hc1⟩ := hR1
 obtain ⟨r2, e2, hm⟩ := bind_some hm
 refine WL.quiet (Runs.free rfl) rfl rfl (oq_con (r := (.tuple #[(mkS r2.1), (.int .i64 r2.2)])) Tryz.call14 rfl rfl (fun w' s => ⟨_, (journal_Log_con r1 ao1 cap1  w' H1 s.hold h1 hc1 hG r2 e2)⟩)) ?_
 refine wq rfl rfl rfl (ov_move rfl rfl) ?_
 refine wq rfl rfl rfl (ov_extract rfl rfl rfl) ?_
 refine wq rfl rfl rfl (ov_extract rfl rfl rfl) ?_
 refine wq rfl rfl rfl (ov_assign rfl rfl) ?_
 refine wq rfl rfl rfl (ov_assign rfl rfl) ?_
 refine WL.nil (then_normal (WP.seq (WP.region ?_)))
 refine wq rfl rfl rfl (ov_move rfl rfl) ?_
 obtain ⟨r3, e3, hm⟩ := bind_some hm
 refine WL.step (Runs.free rfl) rfl rfl (os_con Tryz.call16 rfl rfl (fun w' s => (journal_Load_con r2.1  w' H1 s.hold hG r3 e3)) (fun rr2 H2 hle2 hR2 => ?_))
 replace h1 := h1.mono hle2
 replace hG := hG.mono hle2
 obtain ⟨ao2, cap2, rfl, h2, hc2⟩ := hR2
 refine wq rfl rfl rfl (ov_move rfl rfl) ?_
 refine wq rfl rfl rfl (ov_extract rfl rfl rfl) ?_
 refine wq rfl rfl rfl (ov_extract rfl rfl rfl) ?_
 refine wq rfl rfl rfl (ov_extract rfl rfl rfl) ?_
 refine WL.step (Runs.free rfl) rfl rfl (os_alloc (cs := [(.slice none 0 0), (.int .i64 0)]) Tryz.zeroValue35 rfl rfl (fun b1 => ?_))
 refine WL.step0 (Runs.free rfl) rfl (os_store (i := 0) (vs := [(.slice ao2 r3.1.items.length cap2), (.int .i64 r3.1.cycles)]) (cs' := [(.slice ao2 r3.1.items.length cap2), (.int .i64 r3.1.cycles)]) Tryz.sizeOf35 rfl rfl rfl rfl rfl rfl rfl rfl rfl ?_)
 refine wq rfl rfl rfl (ov_assign rfl rfl) ?_
 refine wq rfl rfl rfl (ov_assign rfl rfl) ?_
 refine WL.nil (then_normal (WP.seq (WP.region ?_)))
 refine wq rfl rfl rfl (ov_load_whole (i := 0) Tryz.isAgg35 Tryz.sizeOf35 rfl rfl rfl rfl) ?_
 obtain ⟨r4, e4, hm⟩ := bind_some hm
 refine WL.quiet (Runs.free rfl) rfl rfl (oq_con (r := (.tuple #[(.int .i64 r4.1), (.int .i64 r4.2)])) Tryz.call9 rfl rfl (fun w' s => ⟨_, (journal_Left_con r3.1 [65] 20 ao2 cap2  w' H2 s.hold h2 hc2 hG r4 e4)⟩)) ?_
 refine wq rfl rfl rfl (ov_move rfl rfl) ?_
 refine wq rfl rfl rfl (ov_extract rfl rfl rfl) ?_
 refine wq rfl rfl rfl (ov_extract rfl rfl rfl) ?_
 refine wq rfl rfl rfl (ov_assign rfl rfl) ?_
 refine wq rfl rfl rfl (ov_assign rfl rfl) ?_
 refine WL.nil (then_normal (WP.seq (WP.region ?_)))
 refine wq rfl rfl rfl (ov_move rfl rfl) ?_
 refine wq rfl rfl rfl (ov_move rfl rfl) ?_
 refine wq rfl rfl rfl (ov_add rfl rfl rfl) ?_
 refine wq rfl rfl rfl (ov_move rfl rfl) ?_
 refine wq rfl rfl rfl (ov_add rfl rfl rfl) ?_
 refine wq rfl rfl rfl (ov_eql rfl rfl rfl) ?_
 refine wq rfl rfl rfl (ov_move rfl rfl) ?_
 refine WL.cut_bool 3 33 (x := (((IntKind.wrap .i64 ((IntKind.wrap .i64 (r2.2 + r3.2.2)) + r4.2)) == 0) && (r3.2.1 == 4))) ?_ ?_
 ·
  rcases Bool.eq_false_or_eq_true ((IntKind.wrap .i64 ((IntKind.wrap .i64 (r2.2 + r3.2.2)) + r4.2)) == 0) with hc3 | hc3
  ·
   skip
   refine WL.quiet (Runs.yes rfl rfl rfl hc3) rfl rfl (OV.quiet (ov_move rfl rfl)) ?_
   refine WL.quiet (Runs.yes rfl rfl rfl hc3) rfl rfl (OV.quiet (ov_eql rfl rfl rfl)) ?_
   refine wq rfl rfl rfl (ov_pick_true rfl (guard_eq rfl hc3) rfl) ?_
   exact WL.nil ⟨Sub.cons' rfl (congrArg Value.bool (andT hc3)) (Sub.skip rfl (Sub.skip rfl (Sub.skip rfl (Sub.refl _)))), fun _ s => s⟩
  ·
   skip
   refine WL.idle (Idle.no rfl rfl rfl hc3) rfl rfl ?_
   refine WL.idle (Idle.no rfl rfl rfl hc3) rfl rfl ?_
   refine wq rfl rfl rfl (ov_pick_false rfl (guard_eq rfl hc3) rfl) ?_
   exact WL.nil ⟨Sub.cons' rfl (congrArg Value.bool (andF hc3)) (Sub.skip rfl (Sub.skip rfl (Sub.skip rfl (Sub.refl _)))), fun _ s => s⟩
 refine wq rfl rfl rfl (ov_move rfl rfl) ?_
 refine WL.cut_bool 3 37 (x := ((((IntKind.wrap .i64 ((IntKind.wrap .i64 (r2.2 + r3.2.2)) + r4.2)) == 0) && (r3.2.1 == 4)) && (r4.1 == 2))) ?_ ?_
 ·
  rcases Bool.eq_false_or_eq_true (((IntKind.wrap .i64 ((IntKind.wrap .i64 (r2.2 + r3.2.2)) + r4.2)) == 0) && (r3.2.1 == 4)) with hc4 | hc4
  ·
   skip
   refine WL.quiet (Runs.yes rfl rfl rfl hc4) rfl rfl (OV.quiet (ov_move rfl rfl)) ?_
   refine WL.quiet (Runs.yes rfl rfl rfl hc4) rfl rfl (OV.quiet (ov_eql rfl rfl rfl)) ?_
   refine wq rfl rfl rfl (ov_pick_true rfl (guard_eq rfl hc4) rfl) ?_
   exact WL.nil ⟨Sub.cons' rfl (congrArg Value.bool (andT hc4)) (Sub.skip rfl (Sub.skip rfl (Sub.skip rfl (Sub.refl _)))), fun _ s => s⟩
  ·
   skip
   refine WL.idle (Idle.no rfl rfl rfl hc4) rfl rfl ?_
   refine WL.idle (Idle.no rfl rfl rfl hc4) rfl rfl ?_
   refine wq rfl rfl rfl (ov_pick_false rfl (guard_eq rfl hc4) rfl) ?_
   exact WL.nil ⟨Sub.cons' rfl (congrArg Value.bool (andF hc4)) (Sub.skip rfl (Sub.skip rfl (Sub.skip rfl (Sub.refl _)))), fun _ s => s⟩
 refine wq rfl rfl rfl (ov_assign rfl rfl) ?_
 refine WL.nil (then_normal (WP.ret ?_))
 obtain rfl := Option.some.inj hm
 refine retQ_ret Tryz.results6 (Res.tmp rfl Res.nil) rfl (fun w' s => ⟨s.below, ?_⟩)
 exact rfl

theorem journal_Due_con (p_m : Machine) (ao1 : Option Addr) (cap1 : Nat) (w : World) (H : Heap) (hH : Le H (hp w)) (h1 : SL H encItem ao1 p_m.items) (hc1 : p_m.items.length ≤ cap1) (hG : Glob H) (r : ((List (List UInt8)) × Int)) (hm : journal_Due p_m = some r) :
  Con Tryz.prog 11 [(.agg #[(.slice ao1 p_m.items.length cap1), (.int .i64 p_m.cycles)])] w H (fun v H' => ∃ (ao2 : Option Addr) (cap2 : Nat), v = (.tuple #[(.slice ao2 r.1.length cap2), (.int .i64 r.2)]) ∧ SL H' encStr ao2 r.1 ∧ r.1.length ≤ cap2) := by
 unfold journal_Due at hm
 refine con_of hH Tryz.func11 rfl 36 Tryz.ntmps11 rfl ?_
 refine WP.seq (WP.region ?_)
 refine WL.step (Runs.free rfl) rfl rfl (os_box (cs := [(.slice ao1 p_m.items.length cap1), (.int .i64 p_m.cycles)]) rfl rfl rfl (fun b1 => ?_))
 refine wq rfl rfl rfl (ov_assign rfl rfl) ?_
 refine wq rfl rfl rfl (ov_assign rfl rfl) ?_
 refine WL.nil (then_normal (WP.seq (WP.seq (WP.region ?_))))
 refine wq rfl rfl rfl (ov_load_whole (i := 0) Tryz.isAgg35 Tryz.sizeOf35 rfl rfl rfl rfl) ?_
 obtain ⟨r1, e1, hm⟩ := bind_some hm
 refine WL.quiet (Runs.free rfl) rfl rfl (oq_con (r := (.int .i64 r1)) Tryz.call22 rfl rfl (fun w' s => ⟨_, (journal_Check_con p_m ao1 cap1  w' H s.hold h1 hc1 hG r1 e1)⟩)) ?_
 refine wq rfl rfl rfl (ov_assign rfl rfl) ?_
 refine WL.nil (then_normal (WP.seq (WP.region ?_)))
 refine wq rfl rfl rfl (ov_move rfl rfl) ?_
 refine wq rfl rfl rfl (ov_neq rfl rfl rfl) ?_
 refine WL.nil (then_normal ?_)
 refine WP.cond rfl (fun hc3 => ?_) (fun hc3 => ?_)
 ·
  replace hm := ite_t hc3 hm
  refine WP.seq (WP.region ?_)
  refine wq rfl rfl rfl (ov_move rfl rfl) ?_
  refine wq rfl rfl rfl (ov_assign rfl rfl) ?_
  refine wq rfl rfl rfl (ov_assign rfl rfl) ?_
  refine WL.nil (then_normal (WP.ret (then_ret ?_)))
  obtain rfl := Option.some.inj hm
  refine retQ_ret Tryz.results11 (Res.tmp rfl (Res.tmp rfl Res.nil)) rfl (fun w' s => ⟨s.below, ?_⟩)
  exact ⟨none, 0, rfl, SL.nil _ _ _, Nat.le_refl _⟩
 ·
  replace hm := ite_f hc3 hm
  refine WP.skip (then_normal (WP.seq (WP.region ?_)))
  refine wq rfl rfl rfl (ov_assign rfl rfl) ?_
  refine WL.nil (then_normal ?_)
  obtain ⟨k1, hk1, hm⟩ := joinK_some hm
  refine WP.seq_join (fun g' S' => ∃ (l4 : (List (List UInt8))) (ao6 : Option Addr) (cap6 : Nat) (xs3 : List Value), RL H encStr l4 xs3 ∧ Sub [(5, (.slice ao6 l4.length cap6)), (1000000007, (.bool false))] g' ∧ (∀ w', S' w' → St w H [.row 9 (encStr).size l4.length (.slice ao6 l4.length cap6) xs3] H w') ∧ k1 l4 = some r) ?_ ?_
  ·
   skip
   refine WP.seq (WP.region ?_)
   refine wq rfl rfl rfl (ov_fieldAddr Tryz.underlying35 rfl rfl rfl Tryz.sizeOf33 rfl rfl) ?_
   refine wq rfl rfl rfl (ov_load_box (i := 0) Tryz.isAgg33 rfl rfl rfl rfl) ?_
   refine wq rfl rfl rfl (ov_len_slice Tryz.underlying33 rfl rfl) ?_
   refine wq rfl rfl rfl (ov_move rfl rfl) ?_
   refine WL.nil (then_normal (WP.block ?_))
   have rl1 := RL.nil (α := (List UInt8)) H encStr
   refine WP.weaken (fun _ s => s.nilrow 9 (encStr).size) ?_
   refine WP.loop (fun m1 g' S' => ∃ (i1 : Int) (l1 : (List (List UInt8))) (ao3 : Option Addr) (cap3 : Nat) (xs1 : List Value), RL H encStr l1 xs1 ∧ Sub [(5, (.slice ao3 l1.length cap3)), (14, (.slice ao1 p_m.items.length cap1)), (15, (.int .i64 (p_m.items.length : Int))), (16, (.int .i64 i1)), (1000000007, (.bool false))] g' ∧ (∀ w', S' w' → St w H [.row 9 (encStr).size l1.length (.slice ao3 l1.length cap3) xs1] H w') ∧ journal_Due_loop1 p_m k1 m1 i1 l1 = some r) ((Int.toNat ((p_m.items.length : Int) - 0) + 1)) ⟨0, ([] : List (List UInt8)), none, 0, [], rl1, (Sub.cons rfl (Sub.cons rfl (Sub.cons rfl (Sub.cons rfl (Sub.cons rfl (Sub.nil _)))))), fun w' s => (s.select [0] (by decide) rfl), hm⟩ ?_ ?_
   ·
    rintro g' S' ⟨_, _, _, _, _, _, _, _, hm⟩
    exact none_some hm
   ·
    rintro m1 g' S' ⟨i1, l1, ao3, cap3, xs1, rl2, hsub1, hS1, hm⟩
    refine WP.sub hsub1 (WP.weaken hS1 ?_)
    rw [journal_Due_loop1] at hm
    refine WP.seq (WP.region ?_)
    refine wq rfl rfl rfl (ov_lss rfl rfl rfl) ?_
    refine WL.nil (then_normal (WP.seq ?_))
    refine WP.cond rfl (fun hc4 => ?_) (fun hc4 => ?_)
    ·
     replace hm := ite_t hc4 hm
     refine WP.skip (then_normal ?_)
     obtain ⟨k2, hk2, hm⟩ := joinK_some hm
     refine WP.seq_join (fun g' S' => ∃ (l3 : (List (List UInt8))) (ao5 : Option Addr) (cap5 : Nat) (xs2 : List Value), RL H encStr l3 xs2 ∧ Sub [(5, (.slice ao5 l3.length cap5)), (14, (.slice ao1 p_m.items.length cap1)), (15, (.int .i64 (p_m.items.length : Int))), (16, (.int .i64 i1)), (1000000007, (.bool false))] g' ∧ (∀ w', S' w' → St w H [.row 9 (encStr).size l3.length (.slice ao5 l3.length cap5) xs2] H w') ∧ k2 l3 = some r) ?_ ?_
     ·
      skip
      refine WP.block (WP.seq (WP.region ?_))
      obtain ⟨x1, e2, hm⟩ := bind_some hm
      obtain ⟨h3, h4, h5, cs1, h6, h7⟩ := h1.get e2 (by decide)
      obtain rfl : cs1 = [(mkS x1.name), (.int .i64 x1.life), (.int .i64 x1.used), (.int .i64 x1.faults), (.bool x1.faulty), (.int .i64 x1.since), (.int .i64 x1.cycles)] := h6
      refine wq rfl rfl rfl (ov_indexAddr Tryz.underlying33 Tryz.sizeOf68 rfl rfl rfl h3 h4 h5) ?_
      refine wq rfl rfl rfl (ov_load_elems (vs := [(mkS x1.name), (.int .i64 x1.life), (.int .i64 x1.used), (.int .i64 x1.faults), (.bool x1.faulty), (.int .i64 x1.since), (.int .i64 x1.cycles)]) Tryz.isAgg68 Tryz.sizeOf68 rfl rfl rfl h7 h5) ?_
      refine WL.step (Runs.free rfl) rfl rfl (os_alloc (cs := [(mkS []), (.int .i64 0), (.int .i64 0), (.int .i64 0), (.bool false), (.int .i64 0), (.int .i64 0)]) Tryz.zeroValue68 rfl rfl (fun b2 => ?_))
      refine WL.step0 (Runs.free rfl) rfl (os_store (i := 0) (vs := [(mkS x1.name), (.int .i64 x1.life), (.int .i64 x1.used), (.int .i64 x1.faults), (.bool x1.faulty), (.int .i64 x1.since), (.int .i64 x1.cycles)]) (cs' := [(mkS x1.name), (.int .i64 x1.life), (.int .i64 x1.used), (.int .i64 x1.faults), (.bool x1.faulty), (.int .i64 x1.since), (.int .i64 x1.cycles)]) Tryz.sizeOf68 rfl rfl rfl rfl rfl rfl rfl rfl rfl ?_)
      refine WL.nil (then_normal (WP.seq (WP.region ?_)))
      refine wq rfl rfl rfl (ov_fieldAddr Tryz.underlying68 rfl rfl rfl Tryz.sizeOf4 rfl rfl) ?_
      refine wq rfl rfl rfl (ov_load_box (i := 0) Tryz.isAgg4 rfl rfl rfl rfl) ?_
      refine wq rfl rfl rfl (ov_move rfl rfl) ?_
      refine WL.cut_bool 6 28 (x := (x1.faulty || (decide (x1.used ≥ x1.life)))) ?_ ?_
      ·
       rcases Bool.eq_false_or_eq_true x1.faulty with hc5 | hc5
       ·
        skip
        refine WL.idle (Idle.no rfl rfl rfl hc5) rfl rfl ?_
        refine WL.idle (Idle.no rfl rfl rfl hc5) rfl rfl ?_
        refine WL.idle (Idle.no rfl rfl rfl hc5) rfl rfl ?_
        refine WL.idle (Idle.no rfl rfl rfl hc5) rfl rfl ?_
        refine WL.idle (Idle.no rfl rfl rfl hc5) rfl rfl ?_
        refine wq rfl rfl rfl (ov_pick_true rfl (guard_eq rfl hc5) rfl) ?_
        exact WL.nil ⟨Sub.cons' rfl (congrArg Value.bool (orT hc5)) (Sub.skip rfl (Sub.skip rfl (Sub.skip rfl (Sub.skip rfl (Sub.skip rfl (Sub.skip rfl (Sub.refl _))))))), fun _ s => s⟩
       ·
        skip
        refine WL.quiet (Runs.yes rfl rfl rfl hc5) rfl rfl (OV.quiet (ov_fieldAddr Tryz.underlying68 rfl rfl rfl Tryz.sizeOf3 rfl rfl)) ?_
        refine WL.quiet (Runs.yes rfl rfl rfl hc5) rfl rfl (OV.quiet (ov_load_box (i := 0) Tryz.isAgg3 rfl rfl rfl rfl)) ?_
        refine WL.quiet (Runs.yes rfl rfl rfl hc5) rfl rfl (OV.quiet (ov_fieldAddr Tryz.underlying68 rfl rfl rfl Tryz.sizeOf3 rfl rfl)) ?_
        refine WL.quiet (Runs.yes rfl rfl rfl hc5) rfl rfl (OV.quiet (ov_load_box (i := 0) Tryz.isAgg3 rfl rfl rfl rfl)) ?_
        refine WL.quiet (Runs.yes rfl rfl rfl hc5) rfl rfl (OV.quiet (ov_geq rfl rfl rfl)) ?_
        refine wq rfl rfl rfl (ov_pick_false rfl (guard_eq rfl hc5) rfl) ?_
        exact WL.nil ⟨Sub.cons' rfl (congrArg Value.bool (orF hc5)) (Sub.skip rfl (Sub.skip rfl (Sub.skip rfl (Sub.skip rfl (Sub.skip rfl (Sub.skip rfl (Sub.refl _))))))), fun _ s => s⟩
      refine WL.nil (then_normal ?_)
      refine WP.cond rfl (fun hc6 => ?_) (fun hc6 => ?_)
      ·
       replace hm := ite_t hc6 hm
       refine WP.region ?_
       refine wq rfl rfl rfl (ov_move rfl rfl) ?_
       refine wq rfl rfl rfl (ov_fieldAddr Tryz.underlying68 rfl rfl rfl Tryz.sizeOf9 rfl rfl) ?_
       refine wq rfl rfl rfl (ov_load_box (i := 0) Tryz.isAgg9 rfl rfl rfl rfl) ?_
       have rl3 : RL H encStr ([x1.name] : List (List UInt8)) [(mkS x1.name)] := RL.cons (cs := [(mkS x1.name)]) (xs := []) rfl (RL.nil _ _)
       refine WL.step (Runs.free rfl) rfl rfl (os_buildSlice (cs := [(mkS x1.name)]) (E := 9) (sz := 1) rfl rfl (fun _ => by kernel_rfl) rfl (by decide) (fun b3 => ?_))
       obtain ⟨l2, e3, hm⟩ := bind_some hm
       refine WL.step (Runs.free rfl) rfl rfl (os_app (i := 2) (j := 0) (En := encStr) (xs := xs1) (ys := [(mkS x1.name)]) Tryz.underlying45 (by kernel_rfl : (Tryz.prog.info? 9).map (fun i => (i.zero, i.size, i.bytes)) = some (some (mkS []), (encStr).size, 16)) rfl (by decide) rfl rfl rfl rfl rfl rfl rl2 rl3 e3 (fun ao4 cap4 rl4 => ?_))
       refine wq rfl rfl rfl (ov_assign rfl rfl) ?_
       refine WL.nil (block_normal (then_normal ?_))
       exact ⟨(l1 ++ ([x1.name] : List (List UInt8))), ao4, cap4, (xs1 ++ [(mkS x1.name)]), rl4, (Sub.cons rfl (Sub.cons rfl (Sub.cons rfl (Sub.cons rfl (Sub.cons rfl (Sub.nil _)))))), fun w' s => (s.select [2] (by decide) rfl), hm⟩
      ·
       replace hm := ite_f hc6 hm
       refine WP.skip (block_normal (then_normal ?_))
       exact ⟨l1, ao3, cap3, xs1, rl2, (Sub.cons rfl (Sub.cons rfl (Sub.cons rfl (Sub.cons rfl (Sub.cons rfl (Sub.nil _)))))), fun w' s => (s.select [1] (by decide) rfl), hm⟩
     ·
      rintro g' S' ⟨l3, ao5, cap5, xs2, rl5, hsub2, hS2, hm⟩
      refine WP.sub hsub2 (WP.weaken hS2 ?_)
      replace hm := (congrFun hk2 l3).symm.trans hm
      refine WP.region ?_
      refine wq rfl rfl rfl (ov_add rfl rfl rfl) ?_
      refine wq rfl rfl rfl (ov_move rfl rfl) ?_
      refine WL.nil (then_normal ?_)
      exact ⟨(IntKind.wrap .i64 (i1 + 1)), l3, ao5, cap5, xs2, rl5, (Sub.cons rfl (Sub.cons rfl (Sub.cons rfl (Sub.cons rfl (Sub.cons rfl (Sub.nil _)))))), fun w' s => s, hm⟩
    ·
     replace hm := ite_f hc4 hm
     refine WP.exit (then_exit (then_exit (block_here (then_normal ?_))))
     exact ⟨l1, ao3, cap3, xs1, rl2, (Sub.cons rfl (Sub.cons rfl (Sub.nil _))), fun w' s => s, hm⟩
  ·
   rintro g' S' ⟨l4, ao6, cap6, xs3, rl6, hsub3, hS3, hm⟩
   refine WP.sub hsub3 (WP.weaken hS3 ?_)
   replace hm := (congrFun hk1 l4).symm.trans hm
   refine WP.seq (WP.region ?_)
   refine wq rfl rfl rfl (ov_move rfl rfl) ?_
   refine wq rfl rfl rfl (ov_assign rfl rfl) ?_
   refine wq rfl rfl rfl (ov_assign rfl rfl) ?_
   refine WL.nil (then_normal (WP.ret ?_))
   obtain rfl := Option.some.inj hm
   refine retQ_ret Tryz.results11 (Res.tmp rfl (Res.tmp rfl Res.nil)) rfl (fun w' s => ⟨s.below, ?_⟩)
   obtain ⟨h8, hc7⟩ := s.ret_row (i := 0) rfl rl6
   exact ⟨ao6, cap6, rfl, h8, hc7⟩

end Go.Proofs.YtcgmhlakihjbkaaGreatDoor.W
