/- The walks. Written by our own program gen.py; Lean checks it. -/
import Derived.Test.YtpigfknmlmeihaaGreatDoorPlain
import Derived.Test.YtpigfknmlmeihaaGreatDoorEqs
import Derived.Test.YtpigfknmlmeihaaGreatDoorProg
import Derived.Test.YtpigfknmlmeihaaGreatDoorExt
import Derived.Test.YtpigfknmlmeihaaGreatDoorClone
import Derived.Test.YtpigfknmlmeihaaGreatDoorInsert
import Derived.Test.YtpigfknmlmeihaaGreatDoorBuild
import Derived.Test.YtpigfknmlmeihaaGreatDoorWalk0
import Derived.Test.YtpigfknmlmeihaaGreatDoorWalk1
import Derived.Test.YtpigfknmlmeihaaGreatDoorWalk2
import Derived.Test.YtpigfknmlmeihaaGreatDoorWalk4
set_option linter.unusedVariables false
set_option maxRecDepth 100000
set_option maxHeartbeats 4000000
namespace Go.Proofs.YtpigfknmlmeihaaGreatDoor.W
open Go Go.RowKit
theorem lexer_Number_con (p_s : (List UInt8)) (w : World) (H : Heap) (hH : Le H (hp w)) (hG : Glob H) (r : Int) (hm : lexer_Number p_s = some r) :
  Con Tryz.prog 75 [(mkS p_s)] w H (fun v _ => v = (.int .i64 r)) := by
 unfold lexer_Number at hm
 refine con_of hH Tryz.func75 rfl 27 Tryz.ntmps75 rfl ?_
 refine WP.seq (WP.region ?_)
 refine wq rfl rfl rfl (ov_assign rfl rfl) ?_
 refine WL.nil (then_normal (WP.seq (WP.block (WP.seq (WP.region ?_)))))
 refine wq rfl rfl rfl (ov_move rfl rfl) ?_
 refine wq rfl rfl rfl (ov_seql rfl rfl rfl) ?_
 refine wq rfl rfl rfl (ov_move rfl rfl) ?_
 obtain ⟨c1, e1, hm⟩ := bind_some hm
 refine WL.cut_bool 7 13 (x := c1) ?_ ?_
 ·
  rcases Bool.eq_false_or_eq_true (p_s == []) with hc1 | hc1
  ·
   skip
   replace hm := ite_t hc1 e1
   refine WL.idle (Idle.no rfl rfl rfl hc1) rfl rfl ?_
   refine WL.idle (Idle.no rfl rfl rfl hc1) rfl rfl ?_
   refine WL.idle (Idle.no rfl rfl rfl hc1) rfl rfl ?_
   refine WL.idle (Idle.no rfl rfl rfl hc1) rfl rfl ?_
   refine WL.idle (Idle.no rfl rfl rfl hc1) rfl rfl ?_
   refine WL.idle (Idle.no rfl rfl rfl hc1) rfl rfl ?_
   refine wq rfl rfl rfl (ov_pick_true rfl (guard_eq rfl hc1) rfl) ?_
   exact WL.nil ⟨Sub.cons' rfl (congrArg Value.bool (Option.some.inj hm)) (Sub.skip rfl (Sub.skip rfl (Sub.skip rfl (Sub.skip rfl (Sub.skip rfl (Sub.skip rfl (Sub.skip rfl (Sub.refl _)))))))), fun _ s => s⟩
  ·
   skip
   replace hm := ite_f hc1 e1
   refine WL.quiet (Runs.yes rfl rfl rfl hc1) rfl rfl (OV.quiet (ov_move rfl rfl)) ?_
   have rl1 : RL H (encInt .i64) ([2] : List Int) [(.int .i64 2)] := RL.cons (cs := [(.int .i64 2)]) (xs := []) rfl (RL.nil _ _)
   refine WL.step (Runs.yes rfl rfl rfl hc1) rfl rfl (os_buildSlice (cs := [(.int .i64 2)]) (E := 3) (sz := 1) rfl rfl (fun _ => by kernel_rfl) rfl (by decide) (fun b1 => ?_))
   refine WL.held rl1 (fun H1 hc2 hle1 h1 => ?_)
   replace hG := hG.mono hle1
   obtain ⟨r1, e2, hm⟩ := bind_some hm
   refine WL.quiet (Runs.yes rfl rfl rfl hc1) rfl rfl (oq_con (r := (.int .i64 r1)) Tryz.call96 rfl rfl (fun w' s => ⟨_, (lexer_run_con p_s ([2] : List Int) (some ⟨b1, 0, none⟩) 1  w' H1 s.hold h1 hc2 hG r1 e2)⟩)) ?_
   refine WL.quiet (Runs.yes rfl rfl rfl hc1) rfl rfl (OV.quiet (ov_move rfl rfl)) ?_
   refine WL.quiet (Runs.yes rfl rfl rfl hc1) rfl rfl (OV.quiet (ov_len_string Tryz.underlying9 rfl rfl)) ?_
   refine WL.quiet (Runs.yes rfl rfl rfl hc1) rfl rfl (OV.quiet (ov_neq rfl rfl rfl)) ?_
   refine wq rfl rfl rfl (ov_pick_false rfl (guard_eq rfl hc1) rfl) ?_
   exact WL.nil ⟨Sub.cons' rfl (congrArg Value.bool (Option.some.inj hm)) (Sub.skip rfl (Sub.skip rfl (Sub.skip rfl (Sub.skip rfl (Sub.skip rfl (Sub.skip rfl (Sub.skip rfl (Sub.refl _)))))))), fun _ s => (s.heap hle1)⟩
 refine wq rfl rfl rfl (ov_move rfl rfl) ?_
 obtain ⟨c2, e3, hm⟩ := bind_some hm
 refine WL.cut_bool 8 22 (x := c2) ?_ ?_
 ·
  rcases Bool.eq_false_or_eq_true c1 with hc3 | hc3
  ·
   skip
   replace hm := ite_t hc3 e3
   refine WL.idle (Idle.no rfl rfl rfl hc3) rfl rfl ?_
   refine WL.idle (Idle.no rfl rfl rfl hc3) rfl rfl ?_
   refine WL.idle (Idle.no rfl rfl rfl hc3) rfl rfl ?_
   refine WL.idle (Idle.no rfl rfl rfl hc3) rfl rfl ?_
   refine WL.idle (Idle.undef rfl rfl rfl) rfl rfl ?_
   refine WL.idle (Idle.undef rfl rfl rfl) rfl rfl ?_
   refine WL.idle (Idle.no rfl rfl rfl hc3) rfl rfl ?_
   refine wq rfl rfl rfl (ov_pick_true rfl (guard_eq rfl hc3) rfl) ?_
   exact WL.nil ⟨Sub.cons' rfl (congrArg Value.bool (Option.some.inj hm)) (Sub.skip rfl (Sub.skip rfl (Sub.skip rfl (Sub.skip rfl (Sub.skip rfl (Sub.skip rfl (Sub.skip rfl (Sub.skip rfl (Sub.refl _))))))))), fun _ s => s⟩
  ·
   skip
   replace hm := ite_f hc3 e3
   refine WL.quiet (Runs.yes rfl rfl rfl hc3) rfl rfl (OV.quiet (ov_move rfl rfl)) ?_
   obtain ⟨b2, e4, hm⟩ := bind_some hm
   refine WL.quiet (Runs.yes rfl rfl rfl hc3) rfl rfl (OV.quiet (ov_index_string Tryz.underlying9 rfl rfl rfl e4)) ?_
   refine WL.quiet (Runs.yes rfl rfl rfl hc3) rfl rfl (OV.quiet (ov_eql rfl rfl rfl)) ?_
   refine WL.quiet (Runs.yes rfl rfl rfl hc3) rfl rfl (OV.quiet (ov_move rfl rfl)) ?_
   refine WL.cut_bool 3 21 (x := (((b2.toNat : Int) == 48) && (!(p_s == [48])))) ?_ ?_
   ·
    rcases Bool.eq_false_or_eq_true ((b2.toNat : Int) == 48) with hc4 | hc4
    ·
     skip
     refine WL.quiet (Runs.yes rfl rfl rfl hc4) rfl rfl (OV.quiet (ov_move rfl rfl)) ?_
     refine WL.quiet (Runs.yes rfl rfl rfl hc4) rfl rfl (OV.quiet (ov_sneq rfl rfl rfl)) ?_
     refine WL.quiet (Runs.yes rfl rfl rfl hc3) rfl rfl (OV.quiet (ov_pick_true rfl (guard_eq rfl hc4) rfl)) ?_
     exact WL.nil ⟨Sub.cons' rfl (congrArg Value.bool (andT hc4)) (Sub.skip rfl (Sub.skip rfl (Sub.skip rfl (Sub.refl _)))), fun _ s => s⟩
    ·
     skip
     refine WL.idle (Idle.no rfl rfl rfl hc4) rfl rfl ?_
     refine WL.idle (Idle.no rfl rfl rfl hc4) rfl rfl ?_
     refine WL.quiet (Runs.yes rfl rfl rfl hc3) rfl rfl (OV.quiet (ov_pick_false rfl (guard_eq rfl hc4) rfl)) ?_
     exact WL.nil ⟨Sub.cons' rfl (congrArg Value.bool (andF hc4)) (Sub.skip rfl (Sub.skip rfl (Sub.skip rfl (Sub.refl _)))), fun _ s => s⟩
   refine wq rfl rfl rfl (ov_pick_false rfl (guard_eq rfl hc3) rfl) ?_
   exact WL.nil ⟨Sub.cons' rfl (congrArg Value.bool (Option.some.inj hm)) (Sub.skip rfl (Sub.skip rfl (Sub.skip rfl (Sub.skip rfl (Sub.skip rfl (Sub.skip rfl (Sub.refl _))))))), fun _ s => s⟩
 refine wq rfl rfl rfl (ov_assign rfl rfl) ?_
 refine WL.nil (then_normal ?_)
 refine WP.cond rfl (fun hc5 => ?_) (fun hc5 => ?_)
 ·
  replace hm := ite_t hc5 hm
  refine WP.seq (WP.region ?_)
  refine wq rfl rfl rfl (ov_assign rfl rfl) ?_
  refine WL.nil (then_normal (WP.ret (block_ret (then_ret ?_))))
  obtain rfl := Option.some.inj hm
  refine retQ_ret Tryz.results75 (Res.tmp rfl Res.nil) rfl (fun w' s => ⟨s.below, ?_⟩)
  exact rfl
 ·
  replace hm := ite_f hc5 hm
  refine WP.seq (WP.region ?_)
  refine wq rfl rfl rfl (ov_move rfl rfl) ?_
  refine wq rfl rfl rfl (ov_len_string Tryz.underlying9 rfl rfl) ?_
  refine wq rfl rfl rfl (ov_gtr rfl rfl rfl) ?_
  refine wq rfl rfl rfl (ov_assign rfl rfl) ?_
  refine WL.nil (then_normal ?_)
  refine WP.cond rfl (fun hc6 => ?_) (fun hc6 => ?_)
  ·
   replace hm := ite_t hc6 hm
   refine WP.seq (WP.region ?_)
   refine wq rfl rfl rfl (ov_assign rfl rfl) ?_
   refine WL.nil (then_normal (WP.ret (block_ret (then_ret ?_))))
   obtain rfl := Option.some.inj hm
   refine retQ_ret Tryz.results75 (Res.tmp rfl Res.nil) rfl (fun w' s => ⟨s.below, ?_⟩)
   exact rfl
  ·
   replace hm := ite_f hc6 hm
   refine WP.skip (block_normal (then_normal (WP.seq (WP.region ?_))))
   refine wq rfl rfl rfl (ov_assign rfl rfl) ?_
   refine WL.nil (then_normal (WP.ret ?_))
   obtain rfl := Option.some.inj hm
   refine retQ_ret Tryz.results75 (Res.tmp rfl Res.nil) rfl (fun w' s => ⟨s.below, ?_⟩)
   exact rfl

theorem lexer_Value_con (p_s : (List UInt8)) (w : World) (H : Heap) (hH : Le H (hp w)) (hG : Glob H) (r : (Int × Int)) (hm : lexer_Value p_s = some r) :
  Con Tryz.prog 40 [(mkS p_s)] w H (fun v _ => v = (.tuple #[(.int .i64 r.1), (.int .i64 r.2)])) := by
 unfold lexer_Value at hm
 refine con_of hH Tryz.func40 rfl 30 Tryz.ntmps40 rfl ?_
 refine WP.seq (WP.region ?_)
 refine wq rfl rfl rfl (ov_assign rfl rfl) ?_
 refine wq rfl rfl rfl (ov_assign rfl rfl) ?_
 refine WL.nil (then_normal (WP.seq (WP.region ?_)))
 refine wq rfl rfl rfl (ov_move rfl rfl) ?_
 obtain ⟨r1, e1, hm⟩ := bind_some hm
 refine WL.quiet (Runs.free rfl) rfl rfl (oq_con (r := (.tuple #[(mkS r1.1), (.bool r1.2)])) Tryz.call74 rfl rfl (fun w' s => ⟨_, (strings_CutPrefix_con p_s [45]  w' H s.hold hG r1 e1)⟩)) ?_
 refine wq rfl rfl rfl (ov_move rfl rfl) ?_
 refine wq rfl rfl rfl (ov_extract rfl rfl rfl) ?_
 refine wq rfl rfl rfl (ov_extract rfl rfl rfl) ?_
 refine wq rfl rfl rfl (ov_assign rfl rfl) ?_
 refine wq rfl rfl rfl (ov_assign rfl rfl) ?_
 refine WL.nil (then_normal (WP.seq (WP.seq (WP.region ?_))))
 refine wq rfl rfl rfl (ov_move rfl rfl) ?_
 obtain ⟨r2, e2, hm⟩ := bind_some hm
 refine WL.quiet (Runs.free rfl) rfl rfl (oq_con (r := (.int .i64 r2)) Tryz.call75 rfl rfl (fun w' s => ⟨_, (lexer_Number_con r1.1  w' H s.hold hG r2 e2)⟩)) ?_
 refine wq rfl rfl rfl (ov_assign rfl rfl) ?_
 refine WL.nil (then_normal (WP.seq (WP.region ?_)))
 refine wq rfl rfl rfl (ov_move rfl rfl) ?_
 refine wq rfl rfl rfl (ov_neq rfl rfl rfl) ?_
 refine WL.nil (then_normal ?_)
 refine WP.cond rfl (fun hc1 => ?_) (fun hc1 => ?_)
 ·
  replace hm := ite_t hc1 hm
  refine WP.seq (WP.region ?_)
  refine wq rfl rfl rfl (ov_move rfl rfl) ?_
  refine wq rfl rfl rfl (ov_assign rfl rfl) ?_
  refine wq rfl rfl rfl (ov_assign rfl rfl) ?_
  refine WL.nil (then_normal (WP.ret (then_ret ?_)))
  obtain rfl := Option.some.inj hm
  refine retQ_ret Tryz.results40 (Res.tmp rfl (Res.tmp rfl Res.nil)) rfl (fun w' s => ⟨s.below, ?_⟩)
  exact rfl
 ·
  replace hm := ite_f hc1 hm
  refine WP.skip (then_normal (WP.seq (WP.seq (WP.region ?_))))
  refine wq rfl rfl rfl (ov_move rfl rfl) ?_
  refine wq rfl rfl rfl (ov_move rfl rfl) ?_
  refine WL.cut_bool 3 23 (x := (r1.2 && (r1.1 == [48]))) ?_ ?_
  ·
   rcases Bool.eq_false_or_eq_true r1.2 with hc2 | hc2
   ·
    skip
    refine WL.quiet (Runs.yes rfl rfl rfl hc2) rfl rfl (OV.quiet (ov_move rfl rfl)) ?_
    refine WL.quiet (Runs.yes rfl rfl rfl hc2) rfl rfl (OV.quiet (ov_seql rfl rfl rfl)) ?_
    refine wq rfl rfl rfl (ov_pick_true rfl (guard_eq rfl hc2) rfl) ?_
    exact WL.nil ⟨Sub.cons' rfl (congrArg Value.bool (andT hc2)) (Sub.skip rfl (Sub.skip rfl (Sub.skip rfl (Sub.refl _)))), fun _ s => s⟩
   ·
    skip
    refine WL.idle (Idle.no rfl rfl rfl hc2) rfl rfl ?_
    refine WL.idle (Idle.no rfl rfl rfl hc2) rfl rfl ?_
    refine wq rfl rfl rfl (ov_pick_false rfl (guard_eq rfl hc2) rfl) ?_
    exact WL.nil ⟨Sub.cons' rfl (congrArg Value.bool (andF hc2)) (Sub.skip rfl (Sub.skip rfl (Sub.skip rfl (Sub.refl _)))), fun _ s => s⟩
  refine WL.nil (then_normal ?_)
  refine WP.cond rfl (fun hc3 => ?_) (fun hc3 => ?_)
  ·
   replace hm := ite_t hc3 hm
   refine WP.seq (WP.region ?_)
   refine wq rfl rfl rfl (ov_assign rfl rfl) ?_
   refine wq rfl rfl rfl (ov_assign rfl rfl) ?_
   refine WL.nil (then_normal (WP.ret (then_ret ?_)))
   obtain rfl := Option.some.inj hm
   refine retQ_ret Tryz.results40 (Res.tmp rfl (Res.tmp rfl Res.nil)) rfl (fun w' s => ⟨s.below, ?_⟩)
   exact rfl
  ·
   replace hm := ite_f hc3 hm
   refine WP.skip (then_normal (WP.seq (WP.region ?_)))
   refine wq rfl rfl rfl (ov_move rfl rfl) ?_
   obtain ⟨r3, e3, hm⟩ := bind_some hm
   refine WL.quiet (Runs.free rfl) rfl rfl (oq_con (r := (.tuple #[(.int .i64 r3.1), .nilIface])) Tryz.call76 rfl rfl (fun w' s => ⟨_, (strconv_Atoi_con p_s  w' H s.hold hG r3 e3)⟩)) ?_
   refine wq rfl rfl rfl (ov_move rfl rfl) ?_
   refine wq rfl rfl rfl (ov_extract rfl rfl rfl) ?_
   refine wq rfl rfl rfl (ov_extract rfl rfl rfl) ?_
   refine wq rfl rfl rfl (ov_assign rfl rfl) ?_
   refine wq rfl rfl rfl (ov_assign rfl rfl) ?_
   refine WL.nil (then_normal (WP.seq (WP.region ?_)))
   refine wq rfl rfl rfl (ov_move rfl rfl) ?_
   refine wq rfl rfl rfl (ov_assign rfl rfl) ?_
   refine wq rfl rfl rfl (ov_assign rfl rfl) ?_
   refine WL.nil (then_normal (WP.ret ?_))
   obtain rfl := Option.some.inj hm
   refine retQ_ret Tryz.results40 (Res.tmp rfl (Res.tmp rfl Res.nil)) rfl (fun w' s => ⟨s.below, ?_⟩)
   exact rfl

theorem journal_Read_con (p_s : (List UInt8)) (w : World) (H : Heap) (hH : Le H (hp w)) (hG : Glob H) (r : (Entry × Int)) (hm : journal_Read p_s = some r) :
  Con Tryz.prog 11 [(mkS p_s)] w H (fun v _ => v = (.tuple #[(.agg #[(.int .i64 r.1.kind), (mkS r.1.name), (.int .i64 r.1.count), (.int .i64 r.1.strokes)]), (.int .i64 r.2)])) := by
 unfold journal_Read at hm
 refine con_of hH Tryz.func11 rfl 78 Tryz.ntmps11 rfl ?_
 refine WP.seq (WP.region ?_)
 refine WL.step (Runs.free rfl) rfl rfl (os_alloc (cs := [(.int .i64 0), (mkS []), (.int .i64 0), (.int .i64 0)]) Tryz.zeroValue23 rfl rfl (fun b1 => ?_))
 refine wq rfl rfl rfl (ov_assign rfl rfl) ?_
 refine WL.nil (then_normal (WP.seq (WP.seq (WP.region ?_))))
 refine wq rfl rfl rfl (ov_move rfl rfl) ?_
 refine wq rfl rfl rfl (ov_len_string Tryz.underlying9 rfl rfl) ?_
 refine wq rfl rfl rfl (ov_gtr rfl rfl rfl) ?_
 refine WL.nil (then_normal ?_)
 refine WP.cond rfl (fun hc1 => ?_) (fun hc1 => ?_)
 ·
  replace hm := ite_t hc1 hm
  refine WP.seq (WP.region ?_)
  refine wq rfl rfl rfl (ov_build (r := (.agg #[(.int .i64 0), (mkS []), (.int .i64 0), (.int .i64 0)])) rfl rfl (fun _ => by kernel_rfl)) ?_
  refine WL.step0 (Runs.free rfl) rfl (os_store (i := 0) (vs := [(.int .i64 0), (mkS []), (.int .i64 0), (.int .i64 0)]) (cs' := [(.int .i64 0), (mkS []), (.int .i64 0), (.int .i64 0)]) Tryz.sizeOf23 rfl rfl rfl rfl rfl rfl rfl rfl rfl ?_)
  refine wq rfl rfl rfl (ov_assign rfl rfl) ?_
  refine WL.nil (then_normal (WP.ret (then_ret ?_)))
  obtain rfl := Option.some.inj hm
  refine retQ_ret Tryz.results11 (Res.cell rfl (box_loads (i := 0) Tryz.isAgg23 Tryz.sizeOf23 rfl rfl) (Res.tmp rfl Res.nil)) rfl (fun w' s => ⟨s.below, ?_⟩)
  exact rfl
 ·
  replace hm := ite_f hc1 hm
  refine WP.skip (then_normal (WP.seq (WP.region ?_)))
  refine wq rfl rfl rfl (ov_move rfl rfl) ?_
  obtain ⟨r1, e1, hm⟩ := bind_some hm
  refine WL.step (Runs.free rfl) rfl rfl (os_con Tryz.call36 rfl rfl (fun w' s => (splitS_con p_s [32]  w' H s.hold hG r1 e1)) (fun rr1 H1 hle1 hR1 => ?_))
  replace hG := hG.mono hle1
  obtain ⟨ao1, cap1, rfl, h1, hc2⟩ := hR1
  refine WL.step (Runs.free rfl) rfl rfl (os_alloc (cs := [(.slice none 0 0)]) Tryz.zeroValue64 rfl rfl (fun b2 => ?_))
  refine WL.step0 (Runs.free rfl) rfl (os_store (i := 0) (vs := [(.slice ao1 r1.length cap1)]) (cs' := [(.slice ao1 r1.length cap1)]) Tryz.sizeOf64 rfl rfl rfl rfl rfl rfl rfl rfl rfl ?_)
  refine WL.nil (then_normal (WP.seq (WP.region ?_)))
  refine WL.step (Runs.free rfl) rfl rfl (os_inline (cap := []) (vs := []) Tryz.call37 rfl rfl rfl Tryz.func37 rfl 8 Tryz.ntmps37 rfl (fun w' s => ?_))
  refine WP.seq (WP.region ?_)
  refine WL.step (Runs.free rfl) rfl rfl (os_alloc (cs := [(mkS []), (.bool false), (.bool false), .nilFunc, (mkS []), (.bool false), (.bool false), .nilFunc, (mkS []), (.bool false), (.bool false), .nilFunc, (mkS []), (.bool false), (.bool false), .nilFunc, (mkS []), (.bool false), (.bool false), .nilFunc, (mkS []), (.bool false), (.bool false), .nilFunc]) Tryz.zeroValue81 rfl rfl (fun b3 => ?_))
  refine WL.nil (then_normal (WP.seq (WP.region ?_)))
  refine wq rfl rfl rfl (ov_build (r := (.agg #[(mkS [112, 97, 114, 116]), (.bool true), (.bool false), (.func (.func 68) #[] #[])])) rfl rfl (fun _ => by kernel_rfl)) ?_
  refine wq rfl rfl rfl (ov_build (r := (.agg #[(mkS [99, 121, 99, 108, 101, 115]), (.bool true), (.bool true), (.func (.func 69) #[] #[])])) rfl rfl (fun _ => by kernel_rfl)) ?_
  refine wq rfl rfl rfl (ov_build (r := (.agg #[(mkS [102, 97, 117, 108, 116]), (.bool false), (.bool false), (.func (.func 70) #[] #[])])) rfl rfl (fun _ => by kernel_rfl)) ?_
  refine wq rfl rfl rfl (ov_build (r := (.agg #[(mkS [114, 101, 112, 97, 105, 114]), (.bool false), (.bool false), (.func (.func 71) #[] #[])])) rfl rfl (fun _ => by kernel_rfl)) ?_
  refine wq rfl rfl rfl (ov_build (r := (.agg #[(mkS [114, 101, 112, 108, 97, 99, 101]), (.bool true), (.bool false), (.func (.func 72) #[] #[])])) rfl rfl (fun _ => by kernel_rfl)) ?_
  refine wq rfl rfl rfl (ov_build (r := (.agg #[(mkS [114, 101, 109, 111, 118, 101]), (.bool false), (.bool false), (.func (.func 73) #[] #[])])) rfl rfl (fun _ => by kernel_rfl)) ?_
  refine wq rfl rfl rfl (ov_build (r := (.agg #[(mkS [112, 97, 114, 116]), (.bool true), (.bool false), (.func (.func 68) #[] #[]), (mkS [99, 121, 99, 108, 101, 115]), (.bool true), (.bool true), (.func (.func 69) #[] #[]), (mkS [102, 97, 117, 108, 116]), (.bool false), (.bool false), (.func (.func 70) #[] #[]), (mkS [114, 101, 112, 97, 105, 114]), (.bool false), (.bool false), (.func (.func 71) #[] #[]), (mkS [114, 101, 112, 108, 97, 99, 101]), (.bool true), (.bool false), (.func (.func 72) #[] #[]), (mkS [114, 101, 109, 111, 118, 101]), (.bool false), (.bool false), (.func (.func 73) #[] #[])])) rfl rfl (fun _ => by kernel_rfl)) ?_
  refine WL.step0 (Runs.free rfl) rfl (os_store (i := 0) (vs := [(mkS [112, 97, 114, 116]), (.bool true), (.bool false), (.func (.func 68) #[] #[]), (mkS [99, 121, 99, 108, 101, 115]), (.bool true), (.bool true), (.func (.func 69) #[] #[]), (mkS [102, 97, 117, 108, 116]), (.bool false), (.bool false), (.func (.func 70) #[] #[]), (mkS [114, 101, 112, 97, 105, 114]), (.bool false), (.bool false), (.func (.func 71) #[] #[]), (mkS [114, 101, 112, 108, 97, 99, 101]), (.bool true), (.bool false), (.func (.func 72) #[] #[]), (mkS [114, 101, 109, 111, 118, 101]), (.bool false), (.bool false), (.func (.func 73) #[] #[])]) (cs' := [(mkS [112, 97, 114, 116]), (.bool true), (.bool false), (.func (.func 68) #[] #[]), (mkS [99, 121, 99, 108, 101, 115]), (.bool true), (.bool true), (.func (.func 69) #[] #[]), (mkS [102, 97, 117, 108, 116]), (.bool false), (.bool false), (.func (.func 70) #[] #[]), (mkS [114, 101, 112, 97, 105, 114]), (.bool false), (.bool false), (.func (.func 71) #[] #[]), (mkS [114, 101, 112, 108, 97, 99, 101]), (.bool true), (.bool false), (.func (.func 72) #[] #[]), (mkS [114, 101, 109, 111, 118, 101]), (.bool false), (.bool false), (.func (.func 73) #[] #[])]) Tryz.sizeOf81 rfl rfl rfl rfl rfl rfl rfl rfl rfl ?_)
  refine WL.nil (then_normal (WP.ret ?_))
  refine retQ_ret (v := (.agg #[(mkS [112, 97, 114, 116]), (.bool true), (.bool false), (.func (.func 68) #[] #[]), (mkS [99, 121, 99, 108, 101, 115]), (.bool true), (.bool true), (.func (.func 69) #[] #[]), (mkS [102, 97, 117, 108, 116]), (.bool false), (.bool false), (.func (.func 70) #[] #[]), (mkS [114, 101, 112, 97, 105, 114]), (.bool false), (.bool false), (.func (.func 71) #[] #[]), (mkS [114, 101, 112, 108, 97, 99, 101]), (.bool true), (.bool false), (.func (.func 72) #[] #[]), (mkS [114, 101, 109, 111, 118, 101]), (.bool false), (.bool false), (.func (.func 73) #[] #[])])) Tryz.results37 (Res.cell rfl (box_loads (i := 0) Tryz.isAgg81 Tryz.sizeOf81 rfl rfl) Res.nil) rfl (fun w' s => ⟨_, ?_, s⟩)
  refine WL.step (Runs.free rfl) rfl rfl (os_alloc (cs := [(mkS []), (.bool false), (.bool false), .nilFunc, (mkS []), (.bool false), (.bool false), .nilFunc, (mkS []), (.bool false), (.bool false), .nilFunc, (mkS []), (.bool false), (.bool false), .nilFunc, (mkS []), (.bool false), (.bool false), .nilFunc, (mkS []), (.bool false), (.bool false), .nilFunc]) Tryz.zeroValue81 rfl rfl (fun b4 => ?_))
  refine WL.step0 (Runs.free rfl) rfl (os_store (i := 0) (vs := [(mkS [112, 97, 114, 116]), (.bool true), (.bool false), (.func (.func 68) #[] #[]), (mkS [99, 121, 99, 108, 101, 115]), (.bool true), (.bool true), (.func (.func 69) #[] #[]), (mkS [102, 97, 117, 108, 116]), (.bool false), (.bool false), (.func (.func 70) #[] #[]), (mkS [114, 101, 112, 97, 105, 114]), (.bool false), (.bool false), (.func (.func 71) #[] #[]), (mkS [114, 101, 112, 108, 97, 99, 101]), (.bool true), (.bool false), (.func (.func 72) #[] #[]), (mkS [114, 101, 109, 111, 118, 101]), (.bool false), (.bool false), (.func (.func 73) #[] #[])]) (cs' := [(mkS [112, 97, 114, 116]), (.bool true), (.bool false), (.func (.func 68) #[] #[]), (mkS [99, 121, 99, 108, 101, 115]), (.bool true), (.bool true), (.func (.func 69) #[] #[]), (mkS [102, 97, 117, 108, 116]), (.bool false), (.bool false), (.func (.func 70) #[] #[]), (mkS [114, 101, 112, 97, 105, 114]), (.bool false), (.bool false), (.func (.func 71) #[] #[]), (mkS [114, 101, 112, 108, 97, 99, 101]), (.bool true), (.bool false), (.func (.func 72) #[] #[]), (mkS [114, 101, 109, 111, 118, 101]), (.bool false), (.bool false), (.func (.func 73) #[] #[])]) Tryz.sizeOf81 rfl rfl rfl rfl rfl rfl rfl rfl rfl ?_)
  refine WL.nil (then_normal ?_)
  obtain ⟨k1, hk1, hm⟩ := joinK_some hm
  refine WP.seq_join (fun g' S' => ∃ (b13 : Nat) (i2 : Int), Sub [(0, (mkS p_s)), (2, (pB b1 0)), (4, (pB b2 0)), (5, (pB b4 0)), (6, (pB b13 0)), (1000000007, (.bool false))] g' ∧ (∀ w', S' w' → St w H [.blk b13 23 [(.int .i64 i2), (mkS []), (.int .i64 0), (.int .i64 0)], .blk b4 81 [(mkS [112, 97, 114, 116]), (.bool true), (.bool false), (.func (.func 68) #[] #[]), (mkS [99, 121, 99, 108, 101, 115]), (.bool true), (.bool true), (.func (.func 69) #[] #[]), (mkS [102, 97, 117, 108, 116]), (.bool false), (.bool false), (.func (.func 70) #[] #[]), (mkS [114, 101, 112, 97, 105, 114]), (.bool false), (.bool false), (.func (.func 71) #[] #[]), (mkS [114, 101, 112, 108, 97, 99, 101]), (.bool true), (.bool false), (.func (.func 72) #[] #[]), (mkS [114, 101, 109, 111, 118, 101]), (.bool false), (.bool false), (.func (.func 73) #[] #[])], .blk b2 64 [(.slice ao1 r1.length cap1)], .blk b1 23 [(.int .i64 0), (mkS []), (.int .i64 0), (.int .i64 0)]] H1 w') ∧ k1 i2 = some r) ?_ ?_
  ·
   skip
   refine WP.region ?_
   refine wq rfl rfl rfl (ov_slice_arr Tryz.underlying81 Tryz.sizeOf80 rfl rfl rfl) ?_
   refine wq rfl rfl rfl (ov_makeFunc' (first := []) rfl rfl rfl) ?_
   refine WL.step (Runs.free rfl) rfl rfl (os_inline (cap := []) (vs := [(.slice (some ⟨b4, 0, none⟩) 6 6), (.func (.func 39) #[] #[(pB b2 0)])]) Tryz.call38 rfl rfl rfl Tryz.func38 rfl 19 Tryz.ntmps38 rfl (fun w' s => ?_))
   refine WP.seq (WP.region ?_)
   refine wq rfl rfl rfl (ov_assign rfl rfl) ?_
   refine WL.nil (then_normal ?_)
   obtain ⟨k2, hk2, hm⟩ := joinK_some hm
   refine WP.seq_join (fun g' S' => Sub [(1000000007, (.bool false))] g' ∧ (∀ w', S' w' → St w H [.blk b4 81 [(mkS [112, 97, 114, 116]), (.bool true), (.bool false), (.func (.func 68) #[] #[]), (mkS [99, 121, 99, 108, 101, 115]), (.bool true), (.bool true), (.func (.func 69) #[] #[]), (mkS [102, 97, 117, 108, 116]), (.bool false), (.bool false), (.func (.func 70) #[] #[]), (mkS [114, 101, 112, 97, 105, 114]), (.bool false), (.bool false), (.func (.func 71) #[] #[]), (mkS [114, 101, 112, 108, 97, 99, 101]), (.bool true), (.bool false), (.func (.func 72) #[] #[]), (mkS [114, 101, 109, 111, 118, 101]), (.bool false), (.bool false), (.func (.func 73) #[] #[])], .blk b2 64 [(.slice ao1 r1.length cap1)], .blk b1 23 [(.int .i64 0), (mkS []), (.int .i64 0), (.int .i64 0)]] H1 w') ∧ k2 = some r) ?_ ?_
   ·
    skip
    refine WP.seq (WP.region ?_)
    refine wq rfl rfl rfl (ov_move rfl rfl) ?_
    refine wq rfl rfl rfl (ov_len_slice Tryz.underlying84 rfl rfl) ?_
    refine wq rfl rfl rfl (ov_move rfl rfl) ?_
    refine WL.nil (then_normal (WP.block ?_))
    refine WP.loop (fun m1 g' S' => ∃ (i1 : Int), Sub [(0, (.slice (some ⟨b4, 0, none⟩) 6 6)), (1, (.func (.func 39) #[] #[(pB b2 0)])), (7, (.int .i64 6)), (8, (.int .i64 i1)), (1000000007, (.bool false))] g' ∧ (∀ w', S' w' → St w H [.blk b4 81 [(mkS [112, 97, 114, 116]), (.bool true), (.bool false), (.func (.func 68) #[] #[]), (mkS [99, 121, 99, 108, 101, 115]), (.bool true), (.bool true), (.func (.func 69) #[] #[]), (mkS [102, 97, 117, 108, 116]), (.bool false), (.bool false), (.func (.func 70) #[] #[]), (mkS [114, 101, 112, 97, 105, 114]), (.bool false), (.bool false), (.func (.func 71) #[] #[]), (mkS [114, 101, 112, 108, 97, 99, 101]), (.bool true), (.bool false), (.func (.func 72) #[] #[]), (mkS [114, 101, 109, 111, 118, 101]), (.bool false), (.bool false), (.func (.func 73) #[] #[])], .blk b2 64 [(.slice ao1 r1.length cap1)], .blk b1 23 [(.int .i64 0), (mkS []), (.int .i64 0), (.int .i64 0)]] H1 w') ∧ journal_Read_loop1 r1 k1 k2 m1 i1 = some r) ((Int.toNat (6 - 0) + 1)) ⟨0, (Sub.cons rfl (Sub.cons rfl (Sub.cons rfl (Sub.cons rfl (Sub.cons rfl (Sub.nil _)))))), fun w' s => (s.select [0, 2, 3] (by decide) rfl), hm⟩ ?_ ?_
    ·
     rintro g' S' ⟨_, _, _, hm⟩
     exact none_some hm
    ·
     rintro m1 g' S' ⟨i1, hsub1, hS1, hm⟩
     refine WP.sub hsub1 (WP.weaken hS1 ?_)
     rw [journal_Read_loop1] at hm
     refine WP.seq (WP.region ?_)
     refine wq rfl rfl rfl (ov_lss rfl rfl rfl) ?_
     refine WL.nil (then_normal (WP.seq ?_))
     refine WP.cond rfl (fun hc3 => ?_) (fun hc3 => ?_)
     ·
      replace hm := ite_t hc3 hm
      refine WP.skip (then_normal (WP.seq (WP.block (WP.seq (WP.region ?_)))))
      refine wq rfl rfl rfl (ov_move rfl rfl) ?_
      refine wq rfl rfl rfl (ov_assign rfl rfl) ?_
      refine WL.nil (then_normal ?_)
      obtain ⟨k3, hk3, hm⟩ := joinK_some hm
      refine WP.seq_join (fun g' S' => ∃ (c1 : Bool), Sub [(0, (.slice (some ⟨b4, 0, none⟩) 6 6)), (1, (.func (.func 39) #[] #[(pB b2 0)])), (5, (.int .i64 i1)), (7, (.int .i64 6)), (8, (.int .i64 i1)), (16, (.bool c1)), (1000000007, (.bool false))] g' ∧ (∀ w', S' w' → St w H [.blk b4 81 [(mkS [112, 97, 114, 116]), (.bool true), (.bool false), (.func (.func 68) #[] #[]), (mkS [99, 121, 99, 108, 101, 115]), (.bool true), (.bool true), (.func (.func 69) #[] #[]), (mkS [102, 97, 117, 108, 116]), (.bool false), (.bool false), (.func (.func 70) #[] #[]), (mkS [114, 101, 112, 97, 105, 114]), (.bool false), (.bool false), (.func (.func 71) #[] #[]), (mkS [114, 101, 112, 108, 97, 99, 101]), (.bool true), (.bool false), (.func (.func 72) #[] #[]), (mkS [114, 101, 109, 111, 118, 101]), (.bool false), (.bool false), (.func (.func 73) #[] #[])], .blk b2 64 [(.slice ao1 r1.length cap1)], .blk b1 23 [(.int .i64 0), (mkS []), (.int .i64 0), (.int .i64 0)]] H1 w') ∧ k3 c1 = some r) ?_ ?_
      ·
       skip
       refine WP.region ?_
       refine wq rfl rfl rfl (ov_move rfl rfl) ?_
       refine wq rfl rfl rfl (ov_move rfl rfl) ?_
       refine wq rfl rfl rfl (ov_move rfl rfl) ?_
       rcases Bool.eq_false_or_eq_true (i1 == 0) with hc4 | hc4
       ·
        replace hm := ite_t hc4 hm
        refine wq rfl rfl rfl (ov_indexAddr_bsl (j := 0) Tryz.underlying84 Tryz.sizeOf80 rfl rfl rfl (eq_of_beq hc4) rfl) ?_
        refine wq rfl rfl rfl (ov_load_boxes (i := 0) (vs := [(mkS [112, 97, 114, 116]), (.bool true), (.bool false), (.func (.func 68) #[] #[])]) Tryz.isAgg80 Tryz.sizeOf80 rfl rfl rfl rfl (part_of rfl)) ?_
        refine WL.step (Runs.free rfl) rfl rfl (os_inline (cap := [(pB b2 0)]) (vs := [(.agg #[(mkS [112, 97, 114, 116]), (.bool true), (.bool false), (.func (.func 68) #[] #[])])]) Tryz.call39 rfl rfl rfl Tryz.func39 rfl 10 Tryz.ntmps39 rfl (fun w' s => ?_))
        refine WP.seq (WP.region ?_)
        refine WL.step (Runs.free rfl) rfl rfl (os_box (cs := [(mkS [112, 97, 114, 116]), (.bool true), (.bool false), (.func (.func 68) #[] #[])]) rfl rfl rfl (fun b5 => ?_))
        refine wq rfl rfl rfl (ov_assign rfl rfl) ?_
        refine WL.nil (then_normal (WP.seq ?_))
        refine WP.region_draws (by kernel_rfl) (by kernel_rfl) (fun _ s => s.drew) ?_
        refine QL.quiet (Runs.free rfl) rfl rfl (OV.quiet (ov_fieldAddr Tryz.underlying80 rfl rfl rfl Tryz.sizeOf9 rfl rfl)) ?_
        refine QL.quiet (Runs.free rfl) rfl rfl (OV.quiet (ov_load_box (i := 0) Tryz.isAgg9 rfl rfl rfl rfl)) ?_
        refine QL.quiet (Runs.free rfl) rfl rfl (OV.quiet (ov_load_box (i := 2) Tryz.isAgg64 rfl rfl rfl rfl)) ?_
        obtain ⟨x1, e2, hm⟩ := bind_some hm
        obtain ⟨h2, h3, h4, cs1, h5, h6⟩ := h1.get e2 (by decide)
        obtain rfl : cs1 = [(mkS x1)] := h5
        refine QL.quiet (Runs.free rfl) rfl rfl (OV.quiet (ov_indexAddr Tryz.underlying64 Tryz.sizeOf9 rfl rfl rfl h2 h3 h4)) ?_
        refine QL.quiet (Runs.free rfl) rfl rfl (OV.quiet (ov_load_elem (v := (mkS x1)) Tryz.isAgg9 rfl rfl h6)) ?_
        refine QL.quiet (Runs.free rfl) rfl rfl (OV.quiet (ov_seql rfl rfl rfl)) ?_
        refine QL.quiet (Runs.free rfl) rfl rfl (OV.quiet (ov_assign rfl rfl)) ?_
        refine QL.nil ?_
        refine then_normal (WP.ret ?_)
        refine retQ_ret (v := (.bool (([112, 97, 114, 116] : List UInt8) == x1))) Tryz.results39 (Res.tmp rfl Res.nil) rfl (fun w' s => ⟨_, ?_, s⟩)
        refine WL.nil (then_normal ?_)
        exact ⟨(([112, 97, 114, 116] : List UInt8) == x1), (Sub.cons rfl (Sub.cons rfl (Sub.cons rfl (Sub.cons rfl (Sub.cons rfl (Sub.cons rfl (Sub.cons rfl (Sub.nil _)))))))), fun w' s => (s.select [1, 2, 3] (by decide) rfl), hm⟩
       ·
        replace hm := ite_f hc4 hm
        rcases Bool.eq_false_or_eq_true (i1 == 1) with hc5 | hc5
        ·
         replace hm := ite_t hc5 hm
         refine wq rfl rfl rfl (ov_indexAddr_bsl (j := 1) Tryz.underlying84 Tryz.sizeOf80 rfl rfl rfl (eq_of_beq hc5) rfl) ?_
         refine wq rfl rfl rfl (ov_load_boxes (i := 0) (vs := [(mkS [99, 121, 99, 108, 101, 115]), (.bool true), (.bool true), (.func (.func 69) #[] #[])]) Tryz.isAgg80 Tryz.sizeOf80 rfl rfl rfl rfl (part_of rfl)) ?_
         refine WL.step (Runs.free rfl) rfl rfl (os_inline (cap := [(pB b2 0)]) (vs := [(.agg #[(mkS [99, 121, 99, 108, 101, 115]), (.bool true), (.bool true), (.func (.func 69) #[] #[])])]) Tryz.call39 rfl rfl rfl Tryz.func39 rfl 10 Tryz.ntmps39 rfl (fun w' s => ?_))
         refine WP.seq (WP.region ?_)
         refine WL.step (Runs.free rfl) rfl rfl (os_box (cs := [(mkS [99, 121, 99, 108, 101, 115]), (.bool true), (.bool true), (.func (.func 69) #[] #[])]) rfl rfl rfl (fun b6 => ?_))
         refine wq rfl rfl rfl (ov_assign rfl rfl) ?_
         refine WL.nil (then_normal (WP.seq ?_))
         refine WP.region_draws (by kernel_rfl) (by kernel_rfl) (fun _ s => s.drew) ?_
         refine QL.quiet (Runs.free rfl) rfl rfl (OV.quiet (ov_fieldAddr Tryz.underlying80 rfl rfl rfl Tryz.sizeOf9 rfl rfl)) ?_
         refine QL.quiet (Runs.free rfl) rfl rfl (OV.quiet (ov_load_box (i := 0) Tryz.isAgg9 rfl rfl rfl rfl)) ?_
         refine QL.quiet (Runs.free rfl) rfl rfl (OV.quiet (ov_load_box (i := 2) Tryz.isAgg64 rfl rfl rfl rfl)) ?_
         obtain ⟨x2, e3, hm⟩ := bind_some hm
         obtain ⟨h7, h8, h9, cs2, h10, h11⟩ := h1.get e3 (by decide)
         obtain rfl : cs2 = [(mkS x2)] := h10
         refine QL.quiet (Runs.free rfl) rfl rfl (OV.quiet (ov_indexAddr Tryz.underlying64 Tryz.sizeOf9 rfl rfl rfl h7 h8 h9)) ?_
         refine QL.quiet (Runs.free rfl) rfl rfl (OV.quiet (ov_load_elem (v := (mkS x2)) Tryz.isAgg9 rfl rfl h11)) ?_
         refine QL.quiet (Runs.free rfl) rfl rfl (OV.quiet (ov_seql rfl rfl rfl)) ?_
         refine QL.quiet (Runs.free rfl) rfl rfl (OV.quiet (ov_assign rfl rfl)) ?_
         refine QL.nil ?_
         refine then_normal (WP.ret ?_)
         refine retQ_ret (v := (.bool (([99, 121, 99, 108, 101, 115] : List UInt8) == x2))) Tryz.results39 (Res.tmp rfl Res.nil) rfl (fun w' s => ⟨_, ?_, s⟩)
         refine WL.nil (then_normal ?_)
         exact ⟨(([99, 121, 99, 108, 101, 115] : List UInt8) == x2), (Sub.cons rfl (Sub.cons rfl (Sub.cons rfl (Sub.cons rfl (Sub.cons rfl (Sub.cons rfl (Sub.cons rfl (Sub.nil _)))))))), fun w' s => (s.select [1, 2, 3] (by decide) rfl), hm⟩
        ·
         replace hm := ite_f hc5 hm
         rcases Bool.eq_false_or_eq_true (i1 == 2) with hc6 | hc6
         ·
          replace hm := ite_t hc6 hm
          refine wq rfl rfl rfl (ov_indexAddr_bsl (j := 2) Tryz.underlying84 Tryz.sizeOf80 rfl rfl rfl (eq_of_beq hc6) rfl) ?_
          refine wq rfl rfl rfl (ov_load_boxes (i := 0) (vs := [(mkS [102, 97, 117, 108, 116]), (.bool false), (.bool false), (.func (.func 70) #[] #[])]) Tryz.isAgg80 Tryz.sizeOf80 rfl rfl rfl rfl (part_of rfl)) ?_
          refine WL.step (Runs.free rfl) rfl rfl (os_inline (cap := [(pB b2 0)]) (vs := [(.agg #[(mkS [102, 97, 117, 108, 116]), (.bool false), (.bool false), (.func (.func 70) #[] #[])])]) Tryz.call39 rfl rfl rfl Tryz.func39 rfl 10 Tryz.ntmps39 rfl (fun w' s => ?_))
          refine WP.seq (WP.region ?_)
          refine WL.step (Runs.free rfl) rfl rfl (os_box (cs := [(mkS [102, 97, 117, 108, 116]), (.bool false), (.bool false), (.func (.func 70) #[] #[])]) rfl rfl rfl (fun b7 => ?_))
          refine wq rfl rfl rfl (ov_assign rfl rfl) ?_
          refine WL.nil (then_normal (WP.seq ?_))
          refine WP.region_draws (by kernel_rfl) (by kernel_rfl) (fun _ s => s.drew) ?_
          refine QL.quiet (Runs.free rfl) rfl rfl (OV.quiet (ov_fieldAddr Tryz.underlying80 rfl rfl rfl Tryz.sizeOf9 rfl rfl)) ?_
          refine QL.quiet (Runs.free rfl) rfl rfl (OV.quiet (ov_load_box (i := 0) Tryz.isAgg9 rfl rfl rfl rfl)) ?_
          refine QL.quiet (Runs.free rfl) rfl rfl (OV.quiet (ov_load_box (i := 2) Tryz.isAgg64 rfl rfl rfl rfl)) ?_
          obtain ⟨x3, e4, hm⟩ := bind_some hm
          obtain ⟨h12, h13, h14, cs3, h15, h16⟩ := h1.get e4 (by decide)
          obtain rfl : cs3 = [(mkS x3)] := h15
          refine QL.quiet (Runs.free rfl) rfl rfl (OV.quiet (ov_indexAddr Tryz.underlying64 Tryz.sizeOf9 rfl rfl rfl h12 h13 h14)) ?_
          refine QL.quiet (Runs.free rfl) rfl rfl (OV.quiet (ov_load_elem (v := (mkS x3)) Tryz.isAgg9 rfl rfl h16)) ?_
          refine QL.quiet (Runs.free rfl) rfl rfl (OV.quiet (ov_seql rfl rfl rfl)) ?_
          refine QL.quiet (Runs.free rfl) rfl rfl (OV.quiet (ov_assign rfl rfl)) ?_
          refine QL.nil ?_
          refine then_normal (WP.ret ?_)
          refine retQ_ret (v := (.bool (([102, 97, 117, 108, 116] : List UInt8) == x3))) Tryz.results39 (Res.tmp rfl Res.nil) rfl (fun w' s => ⟨_, ?_, s⟩)
          refine WL.nil (then_normal ?_)
          exact ⟨(([102, 97, 117, 108, 116] : List UInt8) == x3), (Sub.cons rfl (Sub.cons rfl (Sub.cons rfl (Sub.cons rfl (Sub.cons rfl (Sub.cons rfl (Sub.cons rfl (Sub.nil _)))))))), fun w' s => (s.select [1, 2, 3] (by decide) rfl), hm⟩
         ·
          replace hm := ite_f hc6 hm
          rcases Bool.eq_false_or_eq_true (i1 == 3) with hc7 | hc7
          ·
           replace hm := ite_t hc7 hm
           refine wq rfl rfl rfl (ov_indexAddr_bsl (j := 3) Tryz.underlying84 Tryz.sizeOf80 rfl rfl rfl (eq_of_beq hc7) rfl) ?_
           refine wq rfl rfl rfl (ov_load_boxes (i := 0) (vs := [(mkS [114, 101, 112, 97, 105, 114]), (.bool false), (.bool false), (.func (.func 71) #[] #[])]) Tryz.isAgg80 Tryz.sizeOf80 rfl rfl rfl rfl (part_of rfl)) ?_
           refine WL.step (Runs.free rfl) rfl rfl (os_inline (cap := [(pB b2 0)]) (vs := [(.agg #[(mkS [114, 101, 112, 97, 105, 114]), (.bool false), (.bool false), (.func (.func 71) #[] #[])])]) Tryz.call39 rfl rfl rfl Tryz.func39 rfl 10 Tryz.ntmps39 rfl (fun w' s => ?_))
           refine WP.seq (WP.region ?_)
           refine WL.step (Runs.free rfl) rfl rfl (os_box (cs := [(mkS [114, 101, 112, 97, 105, 114]), (.bool false), (.bool false), (.func (.func 71) #[] #[])]) rfl rfl rfl (fun b8 => ?_))
           refine wq rfl rfl rfl (ov_assign rfl rfl) ?_
           refine WL.nil (then_normal (WP.seq ?_))
           refine WP.region_draws (by kernel_rfl) (by kernel_rfl) (fun _ s => s.drew) ?_
           refine QL.quiet (Runs.free rfl) rfl rfl (OV.quiet (ov_fieldAddr Tryz.underlying80 rfl rfl rfl Tryz.sizeOf9 rfl rfl)) ?_
           refine QL.quiet (Runs.free rfl) rfl rfl (OV.quiet (ov_load_box (i := 0) Tryz.isAgg9 rfl rfl rfl rfl)) ?_
           refine QL.quiet (Runs.free rfl) rfl rfl (OV.quiet (ov_load_box (i := 2) Tryz.isAgg64 rfl rfl rfl rfl)) ?_
           obtain ⟨x4, e5, hm⟩ := bind_some hm
           obtain ⟨h17, h18, h19, cs4, h20, h21⟩ := h1.get e5 (by decide)
           obtain rfl : cs4 = [(mkS x4)] := h20
           refine QL.quiet (Runs.free rfl) rfl rfl (OV.quiet (ov_indexAddr Tryz.underlying64 Tryz.sizeOf9 rfl rfl rfl h17 h18 h19)) ?_
           refine QL.quiet (Runs.free rfl) rfl rfl (OV.quiet (ov_load_elem (v := (mkS x4)) Tryz.isAgg9 rfl rfl h21)) ?_
           refine QL.quiet (Runs.free rfl) rfl rfl (OV.quiet (ov_seql rfl rfl rfl)) ?_
           refine QL.quiet (Runs.free rfl) rfl rfl (OV.quiet (ov_assign rfl rfl)) ?_
           refine QL.nil ?_
           refine then_normal (WP.ret ?_)
           refine retQ_ret (v := (.bool (([114, 101, 112, 97, 105, 114] : List UInt8) == x4))) Tryz.results39 (Res.tmp rfl Res.nil) rfl (fun w' s => ⟨_, ?_, s⟩)
           refine WL.nil (then_normal ?_)
           exact ⟨(([114, 101, 112, 97, 105, 114] : List UInt8) == x4), (Sub.cons rfl (Sub.cons rfl (Sub.cons rfl (Sub.cons rfl (Sub.cons rfl (Sub.cons rfl (Sub.cons rfl (Sub.nil _)))))))), fun w' s => (s.select [1, 2, 3] (by decide) rfl), hm⟩
          ·
           replace hm := ite_f hc7 hm
           rcases Bool.eq_false_or_eq_true (i1 == 4) with hc8 | hc8
           ·
            replace hm := ite_t hc8 hm
            refine wq rfl rfl rfl (ov_indexAddr_bsl (j := 4) Tryz.underlying84 Tryz.sizeOf80 rfl rfl rfl (eq_of_beq hc8) rfl) ?_
            refine wq rfl rfl rfl (ov_load_boxes (i := 0) (vs := [(mkS [114, 101, 112, 108, 97, 99, 101]), (.bool true), (.bool false), (.func (.func 72) #[] #[])]) Tryz.isAgg80 Tryz.sizeOf80 rfl rfl rfl rfl (part_of rfl)) ?_
            refine WL.step (Runs.free rfl) rfl rfl (os_inline (cap := [(pB b2 0)]) (vs := [(.agg #[(mkS [114, 101, 112, 108, 97, 99, 101]), (.bool true), (.bool false), (.func (.func 72) #[] #[])])]) Tryz.call39 rfl rfl rfl Tryz.func39 rfl 10 Tryz.ntmps39 rfl (fun w' s => ?_))
            refine WP.seq (WP.region ?_)
            refine WL.step (Runs.free rfl) rfl rfl (os_box (cs := [(mkS [114, 101, 112, 108, 97, 99, 101]), (.bool true), (.bool false), (.func (.func 72) #[] #[])]) rfl rfl rfl (fun b9 => ?_))
            refine wq rfl rfl rfl (ov_assign rfl rfl) ?_
            refine WL.nil (then_normal (WP.seq ?_))
            refine WP.region_draws (by kernel_rfl) (by kernel_rfl) (fun _ s => s.drew) ?_
            refine QL.quiet (Runs.free rfl) rfl rfl (OV.quiet (ov_fieldAddr Tryz.underlying80 rfl rfl rfl Tryz.sizeOf9 rfl rfl)) ?_
            refine QL.quiet (Runs.free rfl) rfl rfl (OV.quiet (ov_load_box (i := 0) Tryz.isAgg9 rfl rfl rfl rfl)) ?_
            refine QL.quiet (Runs.free rfl) rfl rfl (OV.quiet (ov_load_box (i := 2) Tryz.isAgg64 rfl rfl rfl rfl)) ?_
            obtain ⟨x5, e6, hm⟩ := bind_some hm
            obtain ⟨h22, h23, h24, cs5, h25, h26⟩ := h1.get e6 (by decide)
            obtain rfl : cs5 = [(mkS x5)] := h25
            refine QL.quiet (Runs.free rfl) rfl rfl (OV.quiet (ov_indexAddr Tryz.underlying64 Tryz.sizeOf9 rfl rfl rfl h22 h23 h24)) ?_
            refine QL.quiet (Runs.free rfl) rfl rfl (OV.quiet (ov_load_elem (v := (mkS x5)) Tryz.isAgg9 rfl rfl h26)) ?_
            refine QL.quiet (Runs.free rfl) rfl rfl (OV.quiet (ov_seql rfl rfl rfl)) ?_
            refine QL.quiet (Runs.free rfl) rfl rfl (OV.quiet (ov_assign rfl rfl)) ?_
            refine QL.nil ?_
            refine then_normal (WP.ret ?_)
            refine retQ_ret (v := (.bool (([114, 101, 112, 108, 97, 99, 101] : List UInt8) == x5))) Tryz.results39 (Res.tmp rfl Res.nil) rfl (fun w' s => ⟨_, ?_, s⟩)
            refine WL.nil (then_normal ?_)
            exact ⟨(([114, 101, 112, 108, 97, 99, 101] : List UInt8) == x5), (Sub.cons rfl (Sub.cons rfl (Sub.cons rfl (Sub.cons rfl (Sub.cons rfl (Sub.cons rfl (Sub.cons rfl (Sub.nil _)))))))), fun w' s => (s.select [1, 2, 3] (by decide) rfl), hm⟩
           ·
            replace hm := ite_f hc8 hm
            rcases Bool.eq_false_or_eq_true (i1 == 5) with hc9 | hc9
            ·
             replace hm := ite_t hc9 hm
             refine wq rfl rfl rfl (ov_indexAddr_bsl (j := 5) Tryz.underlying84 Tryz.sizeOf80 rfl rfl rfl (eq_of_beq hc9) rfl) ?_
             refine wq rfl rfl rfl (ov_load_boxes (i := 0) (vs := [(mkS [114, 101, 109, 111, 118, 101]), (.bool false), (.bool false), (.func (.func 73) #[] #[])]) Tryz.isAgg80 Tryz.sizeOf80 rfl rfl rfl rfl (part_of rfl)) ?_
             refine WL.step (Runs.free rfl) rfl rfl (os_inline (cap := [(pB b2 0)]) (vs := [(.agg #[(mkS [114, 101, 109, 111, 118, 101]), (.bool false), (.bool false), (.func (.func 73) #[] #[])])]) Tryz.call39 rfl rfl rfl Tryz.func39 rfl 10 Tryz.ntmps39 rfl (fun w' s => ?_))
             refine WP.seq (WP.region ?_)
             refine WL.step (Runs.free rfl) rfl rfl (os_box (cs := [(mkS [114, 101, 109, 111, 118, 101]), (.bool false), (.bool false), (.func (.func 73) #[] #[])]) rfl rfl rfl (fun b10 => ?_))
             refine wq rfl rfl rfl (ov_assign rfl rfl) ?_
             refine WL.nil (then_normal (WP.seq ?_))
             refine WP.region_draws (by kernel_rfl) (by kernel_rfl) (fun _ s => s.drew) ?_
             refine QL.quiet (Runs.free rfl) rfl rfl (OV.quiet (ov_fieldAddr Tryz.underlying80 rfl rfl rfl Tryz.sizeOf9 rfl rfl)) ?_
             refine QL.quiet (Runs.free rfl) rfl rfl (OV.quiet (ov_load_box (i := 0) Tryz.isAgg9 rfl rfl rfl rfl)) ?_
             refine QL.quiet (Runs.free rfl) rfl rfl (OV.quiet (ov_load_box (i := 2) Tryz.isAgg64 rfl rfl rfl rfl)) ?_
             obtain ⟨x6, e7, hm⟩ := bind_some hm
             obtain ⟨h27, h28, h29, cs6, h30, h31⟩ := h1.get e7 (by decide)
             obtain rfl : cs6 = [(mkS x6)] := h30
             refine QL.quiet (Runs.free rfl) rfl rfl (OV.quiet (ov_indexAddr Tryz.underlying64 Tryz.sizeOf9 rfl rfl rfl h27 h28 h29)) ?_
             refine QL.quiet (Runs.free rfl) rfl rfl (OV.quiet (ov_load_elem (v := (mkS x6)) Tryz.isAgg9 rfl rfl h31)) ?_
             refine QL.quiet (Runs.free rfl) rfl rfl (OV.quiet (ov_seql rfl rfl rfl)) ?_
             refine QL.quiet (Runs.free rfl) rfl rfl (OV.quiet (ov_assign rfl rfl)) ?_
             refine QL.nil ?_
             refine then_normal (WP.ret ?_)
             refine retQ_ret (v := (.bool (([114, 101, 109, 111, 118, 101] : List UInt8) == x6))) Tryz.results39 (Res.tmp rfl Res.nil) rfl (fun w' s => ⟨_, ?_, s⟩)
             refine WL.nil (then_normal ?_)
             exact ⟨(([114, 101, 109, 111, 118, 101] : List UInt8) == x6), (Sub.cons rfl (Sub.cons rfl (Sub.cons rfl (Sub.cons rfl (Sub.cons rfl (Sub.cons rfl (Sub.cons rfl (Sub.nil _)))))))), fun w' s => (s.select [1, 2, 3] (by decide) rfl), hm⟩
            ·
             replace hm := ite_f hc9 hm
             exact (none_some hm).elim
      ·
       rintro g' S' ⟨c1, hsub2, hS2, hm⟩
       refine WP.sub hsub2 (WP.weaken hS2 ?_)
       replace hm := (congrFun hk3 c1).symm.trans hm
       refine WP.cond rfl (fun hc10 => ?_) (fun hc10 => ?_)
       ·
        replace hm := ite_t hc10 hm
        refine WP.seq (WP.region ?_)
        refine wq rfl rfl rfl (ov_move rfl rfl) ?_
        refine wq rfl rfl rfl (ov_assign rfl rfl) ?_
        refine WL.nil (then_normal (WP.ret (block_ret (then_ret (then_ret (block_ret (then_ret ?_)))))))
        refine retQ_ret (v := (.int .i64 i1)) Tryz.results38 (Res.tmp rfl Res.nil) rfl (fun w' s => ⟨_, ?_, s⟩)
        refine wq rfl rfl rfl (ov_build (r := (.agg #[(.int .i64 i1), (mkS []), (.int .i64 0), (.int .i64 0)])) rfl rfl (fun _ => by kernel_rfl)) ?_
        refine WL.step (Runs.free rfl) rfl rfl (os_alloc (cs := [(.int .i64 0), (mkS []), (.int .i64 0), (.int .i64 0)]) Tryz.zeroValue23 rfl rfl (fun b11 => ?_))
        refine WL.step0 (Runs.free rfl) rfl (os_store (i := 0) (vs := [(.int .i64 i1), (mkS []), (.int .i64 0), (.int .i64 0)]) (cs' := [(.int .i64 i1), (mkS []), (.int .i64 0), (.int .i64 0)]) Tryz.sizeOf23 rfl rfl rfl rfl rfl rfl rfl rfl rfl ?_)
        refine WL.nil (then_normal ?_)
        exact ⟨b11, i1, (Sub.cons rfl (Sub.cons rfl (Sub.cons rfl (Sub.cons rfl (Sub.cons rfl (Sub.cons rfl (Sub.nil _))))))), fun w' s => s, hm⟩
       ·
        replace hm := ite_f hc10 hm
        refine WP.skip (block_normal (then_normal (WP.region ?_)))
        refine wq rfl rfl rfl (ov_add rfl rfl rfl) ?_
        refine wq rfl rfl rfl (ov_move rfl rfl) ?_
        refine WL.nil (then_normal ?_)
        exact ⟨(IntKind.wrap .i64 (i1 + 1)), (Sub.cons rfl (Sub.cons rfl (Sub.cons rfl (Sub.cons rfl (Sub.cons rfl (Sub.nil _)))))), fun w' s => s, hm⟩
     ·
      replace hm := ite_f hc3 hm
      refine WP.exit (then_exit (then_exit (block_here (then_normal ?_))))
      exact ⟨(Sub.cons rfl (Sub.nil _)), fun w' s => s, hm⟩
   ·
    rintro g' S' ⟨hsub3, hS3, hm⟩
    refine WP.sub hsub3 (WP.weaken hS3 ?_)
    replace hm := hk2.symm.trans hm
    refine WP.seq (WP.region ?_)
    refine wq rfl rfl rfl (ov_assign rfl rfl) ?_
    refine WL.nil (then_normal (WP.ret ?_))
    refine retQ_ret (v := (.int .i64 (-1))) Tryz.results38 (Res.tmp rfl Res.nil) rfl (fun w' s => ⟨_, ?_, s⟩)
    refine wq rfl rfl rfl (ov_build (r := (.agg #[(.int .i64 (-1)), (mkS []), (.int .i64 0), (.int .i64 0)])) rfl rfl (fun _ => by kernel_rfl)) ?_
    refine WL.step (Runs.free rfl) rfl rfl (os_alloc (cs := [(.int .i64 0), (mkS []), (.int .i64 0), (.int .i64 0)]) Tryz.zeroValue23 rfl rfl (fun b12 => ?_))
    refine WL.step0 (Runs.free rfl) rfl (os_store (i := 0) (vs := [(.int .i64 (-1)), (mkS []), (.int .i64 0), (.int .i64 0)]) (cs' := [(.int .i64 (-1)), (mkS []), (.int .i64 0), (.int .i64 0)]) Tryz.sizeOf23 rfl rfl rfl rfl rfl rfl rfl rfl rfl ?_)
    refine WL.nil (then_normal ?_)
    exact ⟨b12, (-1), (Sub.cons rfl (Sub.cons rfl (Sub.cons rfl (Sub.cons rfl (Sub.cons rfl (Sub.cons rfl (Sub.nil _))))))), fun w' s => s, hm⟩
  ·
   rintro g' S' ⟨b13, i2, hsub4, hS4, hm⟩
   refine WP.sub hsub4 (WP.weaken hS4 ?_)
   replace hm := (congrFun hk1 i2).symm.trans hm
   refine WP.seq (WP.seq (WP.region ?_))
   refine wq rfl rfl rfl (ov_fieldAddr Tryz.underlying23 rfl rfl rfl Tryz.sizeOf3 rfl rfl) ?_
   refine wq rfl rfl rfl (ov_load_box (i := 0) Tryz.isAgg3 rfl rfl rfl rfl) ?_
   refine wq rfl rfl rfl (ov_lss rfl rfl rfl) ?_
   refine wq rfl rfl rfl (ov_move rfl rfl) ?_
   refine WL.cut_bool 4 25 (x := ((decide (i2 < 0)) || (decide ((r1.length : Int) < 2)))) ?_ ?_
   ·
    rcases Bool.eq_false_or_eq_true (decide (i2 < 0)) with hc11 | hc11
    ·
     skip
     refine WL.idle (Idle.no rfl rfl rfl hc11) rfl rfl ?_
     refine WL.idle (Idle.no rfl rfl rfl hc11) rfl rfl ?_
     refine WL.idle (Idle.no rfl rfl rfl hc11) rfl rfl ?_
     refine wq rfl rfl rfl (ov_pick_true rfl (guard_eq rfl hc11) rfl) ?_
     exact WL.nil ⟨Sub.cons' rfl (congrArg Value.bool (orT hc11)) (Sub.skip rfl (Sub.skip rfl (Sub.skip rfl (Sub.skip rfl (Sub.refl _))))), fun _ s => s⟩
    ·
     skip
     refine WL.quiet (Runs.yes rfl rfl rfl hc11) rfl rfl (OV.quiet (ov_load_box (i := 2) Tryz.isAgg64 rfl rfl rfl rfl)) ?_
     refine WL.quiet (Runs.yes rfl rfl rfl hc11) rfl rfl (OV.quiet (ov_len_slice Tryz.underlying64 rfl rfl)) ?_
     refine WL.quiet (Runs.yes rfl rfl rfl hc11) rfl rfl (OV.quiet (ov_lss rfl rfl rfl)) ?_
     refine wq rfl rfl rfl (ov_pick_false rfl (guard_eq rfl hc11) rfl) ?_
     exact WL.nil ⟨Sub.cons' rfl (congrArg Value.bool (orF hc11)) (Sub.skip rfl (Sub.skip rfl (Sub.skip rfl (Sub.skip rfl (Sub.refl _))))), fun _ s => s⟩
   refine WL.nil (then_normal ?_)
   refine WP.cond rfl (fun hc12 => ?_) (fun hc12 => ?_)
   ·
    replace hm := ite_t hc12 hm
    refine WP.seq (WP.region ?_)
    refine wq rfl rfl rfl (ov_build (r := (.agg #[(.int .i64 0), (mkS []), (.int .i64 0), (.int .i64 0)])) rfl rfl (fun _ => by kernel_rfl)) ?_
    refine WL.step0 (Runs.free rfl) rfl (os_store (i := 3) (vs := [(.int .i64 0), (mkS []), (.int .i64 0), (.int .i64 0)]) (cs' := [(.int .i64 0), (mkS []), (.int .i64 0), (.int .i64 0)]) Tryz.sizeOf23 rfl rfl rfl rfl rfl rfl rfl rfl rfl ?_)
    refine wq rfl rfl rfl (ov_assign rfl rfl) ?_
    refine WL.nil (then_normal (WP.ret (then_ret ?_)))
    obtain rfl := Option.some.inj hm
    refine retQ_ret Tryz.results11 (Res.cell rfl (box_loads (i := 3) Tryz.isAgg23 Tryz.sizeOf23 rfl rfl) (Res.tmp rfl Res.nil)) rfl (fun w' s => ⟨s.below, ?_⟩)
    exact rfl
   ·
    replace hm := ite_f hc12 hm
    refine WP.skip (then_normal (WP.seq (WP.region ?_)))
    refine wq rfl rfl rfl (ov_load_box (i := 2) Tryz.isAgg64 rfl rfl rfl rfl) ?_
    obtain ⟨x7, e8, hm⟩ := bind_some hm
    obtain ⟨h32, h33, h34, cs7, h35, h36⟩ := h1.get e8 (by decide)
    obtain rfl : cs7 = [(mkS x7)] := h35
    refine wq rfl rfl rfl (ov_indexAddr Tryz.underlying64 Tryz.sizeOf9 rfl rfl rfl h32 h33 h34) ?_
    refine wq rfl rfl rfl (ov_load_elem (v := (mkS x7)) Tryz.isAgg9 rfl rfl h36) ?_
    refine wq rfl rfl rfl (ov_fieldAddr Tryz.underlying23 rfl rfl rfl Tryz.sizeOf9 rfl rfl) ?_
    refine WL.step0 (Runs.free rfl) rfl (os_store (i := 0) (vs := [(mkS x7)]) (cs' := [(.int .i64 i2), (mkS x7), (.int .i64 0), (.int .i64 0)]) Tryz.sizeOf9 rfl rfl rfl rfl rfl rfl rfl rfl rfl ?_)
    refine WL.nil (then_normal ?_)
    obtain ⟨k4, hk4, hm⟩ := joinK_some hm
    refine WP.seq_join (fun g' S' => ∃ (i3 : Int), Sub [(0, (mkS p_s)), (2, (pB b1 0)), (4, (pB b2 0)), (5, (pB b4 0)), (6, (pB b13 0)), (1000000007, (.bool false))] g' ∧ (∀ w', S' w' → St w H [.blk b13 23 [(.int .i64 i2), (mkS x7), (.int .i64 i3), (.int .i64 0)], .blk b4 81 [(mkS [112, 97, 114, 116]), (.bool true), (.bool false), (.func (.func 68) #[] #[]), (mkS [99, 121, 99, 108, 101, 115]), (.bool true), (.bool true), (.func (.func 69) #[] #[]), (mkS [102, 97, 117, 108, 116]), (.bool false), (.bool false), (.func (.func 70) #[] #[]), (mkS [114, 101, 112, 97, 105, 114]), (.bool false), (.bool false), (.func (.func 71) #[] #[]), (mkS [114, 101, 112, 108, 97, 99, 101]), (.bool true), (.bool false), (.func (.func 72) #[] #[]), (mkS [114, 101, 109, 111, 118, 101]), (.bool false), (.bool false), (.func (.func 73) #[] #[])], .blk b2 64 [(.slice ao1 r1.length cap1)], .blk b1 23 [(.int .i64 0), (mkS []), (.int .i64 0), (.int .i64 0)]] H1 w') ∧ k4 i3 = some r) ?_ ?_
    ·
     skip
     obtain ⟨k5, hk5, hm⟩ := joinK_some hm
     refine WP.seq_join (fun g' S' => ∃ (c2 : Bool), Sub [(0, (mkS p_s)), (2, (pB b1 0)), (4, (pB b2 0)), (5, (pB b4 0)), (6, (pB b13 0)), (40, (.bool c2)), (1000000007, (.bool false))] g' ∧ (∀ w', S' w' → St w H [.blk b13 23 [(.int .i64 i2), (mkS x7), (.int .i64 0), (.int .i64 0)], .blk b4 81 [(mkS [112, 97, 114, 116]), (.bool true), (.bool false), (.func (.func 68) #[] #[]), (mkS [99, 121, 99, 108, 101, 115]), (.bool true), (.bool true), (.func (.func 69) #[] #[]), (mkS [102, 97, 117, 108, 116]), (.bool false), (.bool false), (.func (.func 70) #[] #[]), (mkS [114, 101, 112, 97, 105, 114]), (.bool false), (.bool false), (.func (.func 71) #[] #[]), (mkS [114, 101, 112, 108, 97, 99, 101]), (.bool true), (.bool false), (.func (.func 72) #[] #[]), (mkS [114, 101, 109, 111, 118, 101]), (.bool false), (.bool false), (.func (.func 73) #[] #[])], .blk b2 64 [(.slice ao1 r1.length cap1)], .blk b1 23 [(.int .i64 0), (mkS []), (.int .i64 0), (.int .i64 0)]] H1 w') ∧ k5 c2 = some r) ?_ ?_
     ·
      skip
      refine WP.region ?_
      refine wq rfl rfl rfl (ov_fieldAddr Tryz.underlying23 rfl rfl rfl Tryz.sizeOf3 rfl rfl) ?_
      refine wq rfl rfl rfl (ov_load_box (i := 0) Tryz.isAgg3 rfl rfl rfl rfl) ?_
      rcases Bool.eq_false_or_eq_true (i2 == 0) with hc13 | hc13
      ·
       replace hm := ite_t hc13 hm
       refine wq rfl rfl rfl (ov_indexAddr_at (j := 0) Tryz.underlying81 Tryz.sizeOf80 rfl rfl rfl (eq_of_beq hc13) rfl) ?_
       refine wq rfl rfl rfl (ov_fieldAddr Tryz.underlying80 rfl rfl rfl Tryz.sizeOf4 rfl rfl) ?_
       refine wq rfl rfl rfl (ov_load_box (i := 1) Tryz.isAgg4 rfl rfl rfl rfl) ?_
       refine wq rfl rfl rfl (ov_move rfl rfl) ?_
       refine WL.quiet (Runs.yes rfl rfl rfl rfl) rfl rfl (OV.quiet (ov_load_box (i := 2) Tryz.isAgg64 rfl rfl rfl rfl)) ?_
       refine WL.quiet (Runs.yes rfl rfl rfl rfl) rfl rfl (OV.quiet (ov_len_slice Tryz.underlying64 rfl rfl)) ?_
       refine WL.quiet (Runs.yes rfl rfl rfl rfl) rfl rfl (OV.quiet (ov_gtr rfl rfl rfl)) ?_
       refine wq rfl rfl rfl (ov_pick_true rfl (guard_eq rfl rfl) rfl) ?_
       refine WL.nil (then_normal ?_)
       exact ⟨(decide ((r1.length : Int) > 2)), (Sub.cons rfl (Sub.cons rfl (Sub.cons rfl (Sub.cons rfl (Sub.cons rfl (Sub.cons rfl (Sub.cons rfl (Sub.nil _)))))))), fun w' s => s, hm⟩
      ·
       replace hm := ite_f hc13 hm
       rcases Bool.eq_false_or_eq_true (i2 == 1) with hc14 | hc14
       ·
        replace hm := ite_t hc14 hm
        refine wq rfl rfl rfl (ov_indexAddr_at (j := 1) Tryz.underlying81 Tryz.sizeOf80 rfl rfl rfl (eq_of_beq hc14) rfl) ?_
        refine wq rfl rfl rfl (ov_fieldAddr Tryz.underlying80 rfl rfl rfl Tryz.sizeOf4 rfl rfl) ?_
        refine wq rfl rfl rfl (ov_load_box (i := 1) Tryz.isAgg4 rfl rfl rfl rfl) ?_
        refine wq rfl rfl rfl (ov_move rfl rfl) ?_
        refine WL.quiet (Runs.yes rfl rfl rfl rfl) rfl rfl (OV.quiet (ov_load_box (i := 2) Tryz.isAgg64 rfl rfl rfl rfl)) ?_
        refine WL.quiet (Runs.yes rfl rfl rfl rfl) rfl rfl (OV.quiet (ov_len_slice Tryz.underlying64 rfl rfl)) ?_
        refine WL.quiet (Runs.yes rfl rfl rfl rfl) rfl rfl (OV.quiet (ov_gtr rfl rfl rfl)) ?_
        refine wq rfl rfl rfl (ov_pick_true rfl (guard_eq rfl rfl) rfl) ?_
        refine WL.nil (then_normal ?_)
        exact ⟨(decide ((r1.length : Int) > 2)), (Sub.cons rfl (Sub.cons rfl (Sub.cons rfl (Sub.cons rfl (Sub.cons rfl (Sub.cons rfl (Sub.cons rfl (Sub.nil _)))))))), fun w' s => s, hm⟩
       ·
        replace hm := ite_f hc14 hm
        rcases Bool.eq_false_or_eq_true (i2 == 2) with hc15 | hc15
        ·
         replace hm := ite_t hc15 hm
         refine wq rfl rfl rfl (ov_indexAddr_at (j := 2) Tryz.underlying81 Tryz.sizeOf80 rfl rfl rfl (eq_of_beq hc15) rfl) ?_
         refine wq rfl rfl rfl (ov_fieldAddr Tryz.underlying80 rfl rfl rfl Tryz.sizeOf4 rfl rfl) ?_
         refine wq rfl rfl rfl (ov_load_box (i := 1) Tryz.isAgg4 rfl rfl rfl rfl) ?_
         refine wq rfl rfl rfl (ov_move rfl rfl) ?_
         refine WL.idle (Idle.no rfl rfl rfl rfl) rfl rfl ?_
         refine WL.idle (Idle.no rfl rfl rfl rfl) rfl rfl ?_
         refine WL.idle (Idle.no rfl rfl rfl rfl) rfl rfl ?_
         refine wq rfl rfl rfl (ov_pick_false rfl (guard_eq rfl rfl) rfl) ?_
         refine WL.nil (then_normal ?_)
         exact ⟨false, (Sub.cons rfl (Sub.cons rfl (Sub.cons rfl (Sub.cons rfl (Sub.cons rfl (Sub.cons rfl (Sub.cons rfl (Sub.nil _)))))))), fun w' s => s, hm⟩
        ·
         replace hm := ite_f hc15 hm
         rcases Bool.eq_false_or_eq_true (i2 == 3) with hc16 | hc16
         ·
          replace hm := ite_t hc16 hm
          refine wq rfl rfl rfl (ov_indexAddr_at (j := 3) Tryz.underlying81 Tryz.sizeOf80 rfl rfl rfl (eq_of_beq hc16) rfl) ?_
          refine wq rfl rfl rfl (ov_fieldAddr Tryz.underlying80 rfl rfl rfl Tryz.sizeOf4 rfl rfl) ?_
          refine wq rfl rfl rfl (ov_load_box (i := 1) Tryz.isAgg4 rfl rfl rfl rfl) ?_
          refine wq rfl rfl rfl (ov_move rfl rfl) ?_
          refine WL.idle (Idle.no rfl rfl rfl rfl) rfl rfl ?_
          refine WL.idle (Idle.no rfl rfl rfl rfl) rfl rfl ?_
          refine WL.idle (Idle.no rfl rfl rfl rfl) rfl rfl ?_
          refine wq rfl rfl rfl (ov_pick_false rfl (guard_eq rfl rfl) rfl) ?_
          refine WL.nil (then_normal ?_)
          exact ⟨false, (Sub.cons rfl (Sub.cons rfl (Sub.cons rfl (Sub.cons rfl (Sub.cons rfl (Sub.cons rfl (Sub.cons rfl (Sub.nil _)))))))), fun w' s => s, hm⟩
         ·
          replace hm := ite_f hc16 hm
          rcases Bool.eq_false_or_eq_true (i2 == 4) with hc17 | hc17
          ·
           replace hm := ite_t hc17 hm
           refine wq rfl rfl rfl (ov_indexAddr_at (j := 4) Tryz.underlying81 Tryz.sizeOf80 rfl rfl rfl (eq_of_beq hc17) rfl) ?_
           refine wq rfl rfl rfl (ov_fieldAddr Tryz.underlying80 rfl rfl rfl Tryz.sizeOf4 rfl rfl) ?_
           refine wq rfl rfl rfl (ov_load_box (i := 1) Tryz.isAgg4 rfl rfl rfl rfl) ?_
           refine wq rfl rfl rfl (ov_move rfl rfl) ?_
           refine WL.quiet (Runs.yes rfl rfl rfl rfl) rfl rfl (OV.quiet (ov_load_box (i := 2) Tryz.isAgg64 rfl rfl rfl rfl)) ?_
           refine WL.quiet (Runs.yes rfl rfl rfl rfl) rfl rfl (OV.quiet (ov_len_slice Tryz.underlying64 rfl rfl)) ?_
           refine WL.quiet (Runs.yes rfl rfl rfl rfl) rfl rfl (OV.quiet (ov_gtr rfl rfl rfl)) ?_
           refine wq rfl rfl rfl (ov_pick_true rfl (guard_eq rfl rfl) rfl) ?_
           refine WL.nil (then_normal ?_)
           exact ⟨(decide ((r1.length : Int) > 2)), (Sub.cons rfl (Sub.cons rfl (Sub.cons rfl (Sub.cons rfl (Sub.cons rfl (Sub.cons rfl (Sub.cons rfl (Sub.nil _)))))))), fun w' s => s, hm⟩
          ·
           replace hm := ite_f hc17 hm
           rcases Bool.eq_false_or_eq_true (i2 == 5) with hc18 | hc18
           ·
            replace hm := ite_t hc18 hm
            refine wq rfl rfl rfl (ov_indexAddr_at (j := 5) Tryz.underlying81 Tryz.sizeOf80 rfl rfl rfl (eq_of_beq hc18) rfl) ?_
            refine wq rfl rfl rfl (ov_fieldAddr Tryz.underlying80 rfl rfl rfl Tryz.sizeOf4 rfl rfl) ?_
            refine wq rfl rfl rfl (ov_load_box (i := 1) Tryz.isAgg4 rfl rfl rfl rfl) ?_
            refine wq rfl rfl rfl (ov_move rfl rfl) ?_
            refine WL.idle (Idle.no rfl rfl rfl rfl) rfl rfl ?_
            refine WL.idle (Idle.no rfl rfl rfl rfl) rfl rfl ?_
            refine WL.idle (Idle.no rfl rfl rfl rfl) rfl rfl ?_
            refine wq rfl rfl rfl (ov_pick_false rfl (guard_eq rfl rfl) rfl) ?_
            refine WL.nil (then_normal ?_)
            exact ⟨false, (Sub.cons rfl (Sub.cons rfl (Sub.cons rfl (Sub.cons rfl (Sub.cons rfl (Sub.cons rfl (Sub.cons rfl (Sub.nil _)))))))), fun w' s => s, hm⟩
           ·
            replace hm := ite_f hc18 hm
            exact (none_some hm).elim
     ·
      rintro g' S' ⟨c2, hsub5, hS5, hm⟩
      refine WP.sub hsub5 (WP.weaken hS5 ?_)
      replace hm := (congrFun hk5 c2).symm.trans hm
      refine WP.cond rfl (fun hc19 => ?_) (fun hc19 => ?_)
      ·
       replace hm := ite_t hc19 hm
       refine WP.region ?_
       refine wq rfl rfl rfl (ov_load_box (i := 2) Tryz.isAgg64 rfl rfl rfl rfl) ?_
       obtain ⟨x8, e9, hm⟩ := bind_some hm
       obtain ⟨h37, h38, h39, cs8, h40, h41⟩ := h1.get e9 (by decide)
       obtain rfl : cs8 = [(mkS x8)] := h40
       refine wq rfl rfl rfl (ov_indexAddr Tryz.underlying64 Tryz.sizeOf9 rfl rfl rfl h37 h38 h39) ?_
       refine wq rfl rfl rfl (ov_load_elem (v := (mkS x8)) Tryz.isAgg9 rfl rfl h41) ?_
       obtain ⟨r2, e10, hm⟩ := bind_some hm
       refine WL.quiet (Runs.free rfl) rfl rfl (oq_con (r := (.tuple #[(.int .i64 r2.1), (.int .i64 r2.2)])) Tryz.call40 rfl rfl (fun w' s => ⟨_, (lexer_Value_con x8  w' H1 s.hold hG r2 e10)⟩)) ?_
       refine wq rfl rfl rfl (ov_move rfl rfl) ?_
       refine wq rfl rfl rfl (ov_extract rfl rfl rfl) ?_
       refine wq rfl rfl rfl (ov_extract rfl rfl rfl) ?_
       refine wq rfl rfl rfl (ov_fieldAddr Tryz.underlying23 rfl rfl rfl Tryz.sizeOf3 rfl rfl) ?_
       refine WL.step0 (Runs.free rfl) rfl (os_store (i := 0) (vs := [(.int .i64 r2.1)]) (cs' := [(.int .i64 i2), (mkS x7), (.int .i64 r2.1), (.int .i64 0)]) Tryz.sizeOf3 rfl rfl rfl rfl rfl rfl rfl rfl rfl ?_)
       refine WL.nil (then_normal ?_)
       exact ⟨r2.1, (Sub.cons rfl (Sub.cons rfl (Sub.cons rfl (Sub.cons rfl (Sub.cons rfl (Sub.cons rfl (Sub.nil _))))))), fun w' s => s, hm⟩
      ·
       replace hm := ite_f hc19 hm
       refine WP.skip (then_normal ?_)
       exact ⟨0, (Sub.cons rfl (Sub.cons rfl (Sub.cons rfl (Sub.cons rfl (Sub.cons rfl (Sub.cons rfl (Sub.nil _))))))), fun w' s => s, hm⟩
    ·
     rintro g' S' ⟨i3, hsub6, hS6, hm⟩
     refine WP.sub hsub6 (WP.weaken hS6 ?_)
     replace hm := (congrFun hk4 i3).symm.trans hm
     obtain ⟨k6, hk6, hm⟩ := joinK_some hm
     refine WP.seq_join (fun g' S' => ∃ (i4 : Int), Sub [(0, (mkS p_s)), (2, (pB b1 0)), (6, (pB b13 0)), (1000000007, (.bool false))] g' ∧ (∀ w', S' w' → St w H [.blk b13 23 [(.int .i64 i2), (mkS x7), (.int .i64 i3), (.int .i64 i4)], .blk b1 23 [(.int .i64 0), (mkS []), (.int .i64 0), (.int .i64 0)]] H1 w') ∧ k6 i4 = some r) ?_ ?_
     ·
      skip
      obtain ⟨k7, hk7, hm⟩ := joinK_some hm
      refine WP.seq_join (fun g' S' => ∃ (c3 : Bool), Sub [(0, (mkS p_s)), (2, (pB b1 0)), (4, (pB b2 0)), (6, (pB b13 0)), (58, (.bool c3)), (1000000007, (.bool false))] g' ∧ (∀ w', S' w' → St w H [.blk b13 23 [(.int .i64 i2), (mkS x7), (.int .i64 i3), (.int .i64 0)], .blk b2 64 [(.slice ao1 r1.length cap1)], .blk b1 23 [(.int .i64 0), (mkS []), (.int .i64 0), (.int .i64 0)]] H1 w') ∧ k7 c3 = some r) ?_ ?_
      ·
       skip
       refine WP.region ?_
       refine wq rfl rfl rfl (ov_fieldAddr Tryz.underlying23 rfl rfl rfl Tryz.sizeOf3 rfl rfl) ?_
       refine wq rfl rfl rfl (ov_load_box (i := 0) Tryz.isAgg3 rfl rfl rfl rfl) ?_
       rcases Bool.eq_false_or_eq_true (i2 == 0) with hc20 | hc20
       ·
        replace hm := ite_t hc20 hm
        refine wq rfl rfl rfl (ov_indexAddr_at (j := 0) Tryz.underlying81 Tryz.sizeOf80 rfl rfl rfl (eq_of_beq hc20) rfl) ?_
        refine wq rfl rfl rfl (ov_fieldAddr Tryz.underlying80 rfl rfl rfl Tryz.sizeOf4 rfl rfl) ?_
        refine wq rfl rfl rfl (ov_load_box (i := 1) Tryz.isAgg4 rfl rfl rfl rfl) ?_
        refine wq rfl rfl rfl (ov_move rfl rfl) ?_
        refine WL.idle (Idle.no rfl rfl rfl rfl) rfl rfl ?_
        refine WL.idle (Idle.no rfl rfl rfl rfl) rfl rfl ?_
        refine WL.idle (Idle.no rfl rfl rfl rfl) rfl rfl ?_
        refine wq rfl rfl rfl (ov_pick_false rfl (guard_eq rfl rfl) rfl) ?_
        refine WL.nil (then_normal ?_)
        exact ⟨false, (Sub.cons rfl (Sub.cons rfl (Sub.cons rfl (Sub.cons rfl (Sub.cons rfl (Sub.cons rfl (Sub.nil _))))))), fun w' s => (s.select [0, 2, 3] (by decide) rfl), hm⟩
       ·
        replace hm := ite_f hc20 hm
        rcases Bool.eq_false_or_eq_true (i2 == 1) with hc21 | hc21
        ·
         replace hm := ite_t hc21 hm
         refine wq rfl rfl rfl (ov_indexAddr_at (j := 1) Tryz.underlying81 Tryz.sizeOf80 rfl rfl rfl (eq_of_beq hc21) rfl) ?_
         refine wq rfl rfl rfl (ov_fieldAddr Tryz.underlying80 rfl rfl rfl Tryz.sizeOf4 rfl rfl) ?_
         refine wq rfl rfl rfl (ov_load_box (i := 1) Tryz.isAgg4 rfl rfl rfl rfl) ?_
         refine wq rfl rfl rfl (ov_move rfl rfl) ?_
         refine WL.quiet (Runs.yes rfl rfl rfl rfl) rfl rfl (OV.quiet (ov_load_box (i := 2) Tryz.isAgg64 rfl rfl rfl rfl)) ?_
         refine WL.quiet (Runs.yes rfl rfl rfl rfl) rfl rfl (OV.quiet (ov_len_slice Tryz.underlying64 rfl rfl)) ?_
         refine WL.quiet (Runs.yes rfl rfl rfl rfl) rfl rfl (OV.quiet (ov_gtr rfl rfl rfl)) ?_
         refine wq rfl rfl rfl (ov_pick_true rfl (guard_eq rfl rfl) rfl) ?_
         refine WL.nil (then_normal ?_)
         exact ⟨(decide ((r1.length : Int) > 3)), (Sub.cons rfl (Sub.cons rfl (Sub.cons rfl (Sub.cons rfl (Sub.cons rfl (Sub.cons rfl (Sub.nil _))))))), fun w' s => (s.select [0, 2, 3] (by decide) rfl), hm⟩
        ·
         replace hm := ite_f hc21 hm
         rcases Bool.eq_false_or_eq_true (i2 == 2) with hc22 | hc22
         ·
          replace hm := ite_t hc22 hm
          refine wq rfl rfl rfl (ov_indexAddr_at (j := 2) Tryz.underlying81 Tryz.sizeOf80 rfl rfl rfl (eq_of_beq hc22) rfl) ?_
          refine wq rfl rfl rfl (ov_fieldAddr Tryz.underlying80 rfl rfl rfl Tryz.sizeOf4 rfl rfl) ?_
          refine wq rfl rfl rfl (ov_load_box (i := 1) Tryz.isAgg4 rfl rfl rfl rfl) ?_
          refine wq rfl rfl rfl (ov_move rfl rfl) ?_
          refine WL.idle (Idle.no rfl rfl rfl rfl) rfl rfl ?_
          refine WL.idle (Idle.no rfl rfl rfl rfl) rfl rfl ?_
          refine WL.idle (Idle.no rfl rfl rfl rfl) rfl rfl ?_
          refine wq rfl rfl rfl (ov_pick_false rfl (guard_eq rfl rfl) rfl) ?_
          refine WL.nil (then_normal ?_)
          exact ⟨false, (Sub.cons rfl (Sub.cons rfl (Sub.cons rfl (Sub.cons rfl (Sub.cons rfl (Sub.cons rfl (Sub.nil _))))))), fun w' s => (s.select [0, 2, 3] (by decide) rfl), hm⟩
         ·
          replace hm := ite_f hc22 hm
          rcases Bool.eq_false_or_eq_true (i2 == 3) with hc23 | hc23
          ·
           replace hm := ite_t hc23 hm
           refine wq rfl rfl rfl (ov_indexAddr_at (j := 3) Tryz.underlying81 Tryz.sizeOf80 rfl rfl rfl (eq_of_beq hc23) rfl) ?_
           refine wq rfl rfl rfl (ov_fieldAddr Tryz.underlying80 rfl rfl rfl Tryz.sizeOf4 rfl rfl) ?_
           refine wq rfl rfl rfl (ov_load_box (i := 1) Tryz.isAgg4 rfl rfl rfl rfl) ?_
           refine wq rfl rfl rfl (ov_move rfl rfl) ?_
           refine WL.idle (Idle.no rfl rfl rfl rfl) rfl rfl ?_
           refine WL.idle (Idle.no rfl rfl rfl rfl) rfl rfl ?_
           refine WL.idle (Idle.no rfl rfl rfl rfl) rfl rfl ?_
           refine wq rfl rfl rfl (ov_pick_false rfl (guard_eq rfl rfl) rfl) ?_
           refine WL.nil (then_normal ?_)
           exact ⟨false, (Sub.cons rfl (Sub.cons rfl (Sub.cons rfl (Sub.cons rfl (Sub.cons rfl (Sub.cons rfl (Sub.nil _))))))), fun w' s => (s.select [0, 2, 3] (by decide) rfl), hm⟩
          ·
           replace hm := ite_f hc23 hm
           rcases Bool.eq_false_or_eq_true (i2 == 4) with hc24 | hc24
           ·
            replace hm := ite_t hc24 hm
            refine wq rfl rfl rfl (ov_indexAddr_at (j := 4) Tryz.underlying81 Tryz.sizeOf80 rfl rfl rfl (eq_of_beq hc24) rfl) ?_
            refine wq rfl rfl rfl (ov_fieldAddr Tryz.underlying80 rfl rfl rfl Tryz.sizeOf4 rfl rfl) ?_
            refine wq rfl rfl rfl (ov_load_box (i := 1) Tryz.isAgg4 rfl rfl rfl rfl) ?_
            refine wq rfl rfl rfl (ov_move rfl rfl) ?_
            refine WL.idle (Idle.no rfl rfl rfl rfl) rfl rfl ?_
            refine WL.idle (Idle.no rfl rfl rfl rfl) rfl rfl ?_
            refine WL.idle (Idle.no rfl rfl rfl rfl) rfl rfl ?_
            refine wq rfl rfl rfl (ov_pick_false rfl (guard_eq rfl rfl) rfl) ?_
            refine WL.nil (then_normal ?_)
            exact ⟨false, (Sub.cons rfl (Sub.cons rfl (Sub.cons rfl (Sub.cons rfl (Sub.cons rfl (Sub.cons rfl (Sub.nil _))))))), fun w' s => (s.select [0, 2, 3] (by decide) rfl), hm⟩
           ·
            replace hm := ite_f hc24 hm
            rcases Bool.eq_false_or_eq_true (i2 == 5) with hc25 | hc25
            ·
             replace hm := ite_t hc25 hm
             refine wq rfl rfl rfl (ov_indexAddr_at (j := 5) Tryz.underlying81 Tryz.sizeOf80 rfl rfl rfl (eq_of_beq hc25) rfl) ?_
             refine wq rfl rfl rfl (ov_fieldAddr Tryz.underlying80 rfl rfl rfl Tryz.sizeOf4 rfl rfl) ?_
             refine wq rfl rfl rfl (ov_load_box (i := 1) Tryz.isAgg4 rfl rfl rfl rfl) ?_
             refine wq rfl rfl rfl (ov_move rfl rfl) ?_
             refine WL.idle (Idle.no rfl rfl rfl rfl) rfl rfl ?_
             refine WL.idle (Idle.no rfl rfl rfl rfl) rfl rfl ?_
             refine WL.idle (Idle.no rfl rfl rfl rfl) rfl rfl ?_
             refine wq rfl rfl rfl (ov_pick_false rfl (guard_eq rfl rfl) rfl) ?_
             refine WL.nil (then_normal ?_)
             exact ⟨false, (Sub.cons rfl (Sub.cons rfl (Sub.cons rfl (Sub.cons rfl (Sub.cons rfl (Sub.cons rfl (Sub.nil _))))))), fun w' s => (s.select [0, 2, 3] (by decide) rfl), hm⟩
            ·
             replace hm := ite_f hc25 hm
             exact (none_some hm).elim
      ·
       rintro g' S' ⟨c3, hsub7, hS7, hm⟩
       refine WP.sub hsub7 (WP.weaken hS7 ?_)
       replace hm := (congrFun hk7 c3).symm.trans hm
       refine WP.cond rfl (fun hc26 => ?_) (fun hc26 => ?_)
       ·
        replace hm := ite_t hc26 hm
        refine WP.region ?_
        refine wq rfl rfl rfl (ov_load_box (i := 1) Tryz.isAgg64 rfl rfl rfl rfl) ?_
        obtain ⟨x9, e11, hm⟩ := bind_some hm
        obtain ⟨h42, h43, h44, cs9, h45, h46⟩ := h1.get e11 (by decide)
        obtain rfl : cs9 = [(mkS x9)] := h45
        refine wq rfl rfl rfl (ov_indexAddr Tryz.underlying64 Tryz.sizeOf9 rfl rfl rfl h42 h43 h44) ?_
        refine wq rfl rfl rfl (ov_load_elem (v := (mkS x9)) Tryz.isAgg9 rfl rfl h46) ?_
        obtain ⟨r3, e12, hm⟩ := bind_some hm
        refine WL.quiet (Runs.free rfl) rfl rfl (oq_con (r := (.tuple #[(.int .i64 r3.1), (.int .i64 r3.2)])) Tryz.call40 rfl rfl (fun w' s => ⟨_, (lexer_Value_con x9  w' H1 s.hold hG r3 e12)⟩)) ?_
        refine wq rfl rfl rfl (ov_move rfl rfl) ?_
        refine wq rfl rfl rfl (ov_extract rfl rfl rfl) ?_
        refine wq rfl rfl rfl (ov_extract rfl rfl rfl) ?_
        refine wq rfl rfl rfl (ov_fieldAddr Tryz.underlying23 rfl rfl rfl Tryz.sizeOf3 rfl rfl) ?_
        refine WL.step0 (Runs.free rfl) rfl (os_store (i := 0) (vs := [(.int .i64 r3.1)]) (cs' := [(.int .i64 i2), (mkS x7), (.int .i64 i3), (.int .i64 r3.1)]) Tryz.sizeOf3 rfl rfl rfl rfl rfl rfl rfl rfl rfl ?_)
        refine WL.nil (then_normal ?_)
        exact ⟨r3.1, (Sub.cons rfl (Sub.cons rfl (Sub.cons rfl (Sub.cons rfl (Sub.nil _))))), fun w' s => (s.select [0, 2] (by decide) rfl), hm⟩
       ·
        replace hm := ite_f hc26 hm
        refine WP.skip (then_normal ?_)
        exact ⟨0, (Sub.cons rfl (Sub.cons rfl (Sub.cons rfl (Sub.cons rfl (Sub.nil _))))), fun w' s => (s.select [0, 2] (by decide) rfl), hm⟩
     ·
      rintro g' S' ⟨i4, hsub8, hS8, hm⟩
      refine WP.sub hsub8 (WP.weaken hS8 ?_)
      replace hm := (congrFun hk6 i4).symm.trans hm
      refine WP.seq (WP.seq (WP.region ?_))
      refine wq rfl rfl rfl (ov_load_whole (i := 0) Tryz.isAgg23 Tryz.sizeOf23 rfl rfl rfl rfl) ?_
      obtain ⟨r4, e13, hm⟩ := bind_some hm
      refine WL.quiet (Runs.free rfl) rfl rfl (oq_con (r := (.int .i64 r4)) Tryz.call33 rfl rfl (fun w' s => ⟨_, (journal_Right_con (Entry.mk i2 x7 i3 i4)  w' H1 s.hold hG r4 e13)⟩)) ?_
      refine wq rfl rfl rfl (ov_neq rfl rfl rfl) ?_
      refine wq rfl rfl rfl (ov_move rfl rfl) ?_
      obtain ⟨c4, e14, hm⟩ := bind_some hm
      refine WL.cut_bool 5 75 (x := c4) ?_ ?_
      ·
       rcases Bool.eq_false_or_eq_true (r4 != 0) with hc27 | hc27
       ·
        skip
        replace hm := ite_t hc27 e14
        refine WL.idle (Idle.no rfl rfl rfl hc27) rfl rfl ?_
        refine WL.idle (Idle.no rfl rfl rfl hc27) rfl rfl ?_
        refine WL.idle (Idle.no rfl rfl rfl hc27) rfl rfl ?_
        refine WL.idle (Idle.no rfl rfl rfl hc27) rfl rfl ?_
        refine wq rfl rfl rfl (ov_pick_true rfl (guard_eq rfl hc27) rfl) ?_
        exact WL.nil ⟨Sub.cons' rfl (congrArg Value.bool (Option.some.inj hm)) (Sub.skip rfl (Sub.skip rfl (Sub.skip rfl (Sub.skip rfl (Sub.skip rfl (Sub.refl _)))))), fun _ s => s⟩
       ·
        skip
        replace hm := ite_f hc27 e14
        refine WL.quiet (Runs.yes rfl rfl rfl hc27) rfl rfl (OV.quiet (ov_load_whole (i := 0) Tryz.isAgg23 Tryz.sizeOf23 rfl rfl rfl rfl)) ?_
        obtain ⟨r5, e15, hm⟩ := bind_some hm
        refine WL.quiet (Runs.yes rfl rfl rfl hc27) rfl rfl (oq_con (r := (mkS r5)) Tryz.call34 rfl rfl (fun w' s => ⟨_, (journal_text_con (Entry.mk i2 x7 i3 i4)  w' H1 s.hold hG r5 e15)⟩)) ?_
        refine WL.quiet (Runs.yes rfl rfl rfl hc27) rfl rfl (OV.quiet (ov_move rfl rfl)) ?_
        refine WL.quiet (Runs.yes rfl rfl rfl hc27) rfl rfl (OV.quiet (ov_sneq rfl rfl rfl)) ?_
        refine wq rfl rfl rfl (ov_pick_false rfl (guard_eq rfl hc27) rfl) ?_
        exact WL.nil ⟨Sub.cons' rfl (congrArg Value.bool (Option.some.inj hm)) (Sub.skip rfl (Sub.skip rfl (Sub.skip rfl (Sub.skip rfl (Sub.skip rfl (Sub.refl _)))))), fun _ s => s⟩
      refine WL.nil (then_normal ?_)
      refine WP.cond rfl (fun hc28 => ?_) (fun hc28 => ?_)
      ·
       replace hm := ite_t hc28 hm
       refine WP.seq (WP.region ?_)
       refine wq rfl rfl rfl (ov_build (r := (.agg #[(.int .i64 0), (mkS []), (.int .i64 0), (.int .i64 0)])) rfl rfl (fun _ => by kernel_rfl)) ?_
       refine WL.step0 (Runs.free rfl) rfl (os_store (i := 1) (vs := [(.int .i64 0), (mkS []), (.int .i64 0), (.int .i64 0)]) (cs' := [(.int .i64 0), (mkS []), (.int .i64 0), (.int .i64 0)]) Tryz.sizeOf23 rfl rfl rfl rfl rfl rfl rfl rfl rfl ?_)
       refine wq rfl rfl rfl (ov_assign rfl rfl) ?_
       refine WL.nil (then_normal (WP.ret (then_ret ?_)))
       obtain rfl := Option.some.inj hm
       refine retQ_ret Tryz.results11 (Res.cell rfl (box_loads (i := 1) Tryz.isAgg23 Tryz.sizeOf23 rfl rfl) (Res.tmp rfl Res.nil)) rfl (fun w' s => ⟨s.below, ?_⟩)
       exact rfl
      ·
       replace hm := ite_f hc28 hm
       refine WP.skip (then_normal (WP.seq (WP.region ?_)))
       refine wq rfl rfl rfl (ov_load_whole (i := 0) Tryz.isAgg23 Tryz.sizeOf23 rfl rfl rfl rfl) ?_
       refine WL.step0 (Runs.free rfl) rfl (os_store (i := 1) (vs := [(.int .i64 i2), (mkS x7), (.int .i64 i3), (.int .i64 i4)]) (cs' := [(.int .i64 i2), (mkS x7), (.int .i64 i3), (.int .i64 i4)]) Tryz.sizeOf23 rfl rfl rfl rfl rfl rfl rfl rfl rfl ?_)
       refine wq rfl rfl rfl (ov_assign rfl rfl) ?_
       refine WL.nil (then_normal (WP.ret ?_))
       obtain rfl := Option.some.inj hm
       refine retQ_ret Tryz.results11 (Res.cell rfl (box_loads (i := 1) Tryz.isAgg23 Tryz.sizeOf23 rfl rfl) (Res.tmp rfl Res.nil)) rfl (fun w' s => ⟨s.below, ?_⟩)
       exact rfl

theorem ref12_Fields_con (p_line : (List UInt8)) (w : World) (H : Heap) (hH : Le H (hp w)) (hG : Glob H) (r : (List (List UInt8))) (hm : ref12_Fields p_line = some r) :
  Con Tryz.prog 41 [(mkS p_line)] w H (fun v H' => ∃ (ao1 : Option Addr) (cap1 : Nat), v = (.slice ao1 r.length cap1) ∧ SL H' encStr ao1 r ∧ r.length ≤ cap1) := by
 unfold ref12_Fields at hm
 refine con_of hH Tryz.func41 rfl 36 Tryz.ntmps41 rfl ?_
 refine WP.seq (WP.region ?_)
 refine wq rfl rfl rfl (ov_assign rfl rfl) ?_
 refine WL.nil (then_normal (WP.seq (WP.region ?_)))
 refine wq rfl rfl rfl (ov_assign rfl rfl) ?_
 refine WL.nil (then_normal (WP.seq (WP.region ?_)))
 refine wq rfl rfl rfl (ov_assign rfl rfl) ?_
 refine WL.nil (then_normal ?_)
 obtain ⟨k1, hk1, hm⟩ := joinK_some hm
 refine WP.seq_join (fun g' S' => ∃ (l5 : (List (List UInt8))) (ao6 : Option Addr) (cap6 : Nat) (xs4 : List Value), RL H encStr l5 xs4 ∧ Sub [(3, (.slice ao6 l5.length cap6)), (1000000007, (.bool false))] g' ∧ (∀ w', S' w' → St w H [.row 9 (encStr).size l5.length (.slice ao6 l5.length cap6) xs4] H w') ∧ k1 l5 = some r) ?_ ?_
 ·
  skip
  refine WP.seq (WP.region ?_)
  refine wq rfl rfl rfl (ov_assign rfl rfl) ?_
  refine WL.nil (then_normal (WP.block ?_))
  have rl1 := RL.nil (α := (List UInt8)) H encStr
  refine WP.weaken (fun _ s => s.nilrow 9 (encStr).size) ?_
  refine WP.loop (fun m1 g' S' => ∃ (s1 : (List UInt8)) (i1 : Int) (l1 : (List (List UInt8))) (ao2 : Option Addr) (cap2 : Nat) (xs1 : List Value), RL H encStr l1 xs1 ∧ Sub [(0, (mkS p_line)), (3, (.slice ao2 l1.length cap2)), (4, (mkS s1)), (5, (.int .i64 i1)), (1000000007, (.bool false))] g' ∧ (∀ w', S' w' → St w H [.row 9 (encStr).size l1.length (.slice ao2 l1.length cap2) xs1] H w') ∧ ref12_Fields_loop1 p_line k1 m1 s1 i1 l1 = some r) ((p_line.length + 2)) ⟨[], 0, ([] : List (List UInt8)), none, 0, [], rl1, (Sub.cons rfl (Sub.cons rfl (Sub.cons rfl (Sub.cons rfl (Sub.cons rfl (Sub.nil _)))))), fun w' s => s, hm⟩ ?_ ?_
  ·
   rintro g' S' ⟨_, _, _, _, _, _, _, _, _, hm⟩
   exact none_some hm
  ·
   rintro m1 g' S' ⟨s1, i1, l1, ao2, cap2, xs1, rl2, hsub1, hS1, hm⟩
   refine WP.sub hsub1 (WP.weaken hS1 ?_)
   rw [ref12_Fields_loop1] at hm
   refine WP.seq (WP.seq (WP.region ?_))
   refine wq rfl rfl rfl (ov_move rfl rfl) ?_
   refine wq rfl rfl rfl (ov_move rfl rfl) ?_
   refine wq rfl rfl rfl (ov_len_string Tryz.underlying9 rfl rfl) ?_
   refine wq rfl rfl rfl (ov_leq rfl rfl rfl) ?_
   refine WL.nil (then_normal ?_)
   refine WP.cond rfl (fun hc2 => ?_) (fun hc2 => ?_)
   ·
    replace hm := ite_t hc2 hm
    refine WP.skip (then_normal ?_)
    obtain ⟨k2, hk2, hm⟩ := joinK_some hm
    refine WP.seq_join (fun g' S' => ∃ (s4 : (List UInt8)) (l4 : (List (List UInt8))) (ao5 : Option Addr) (cap5 : Nat) (xs3 : List Value), RL H encStr l4 xs3 ∧ Sub [(0, (mkS p_line)), (3, (.slice ao5 l4.length cap5)), (4, (mkS s4)), (5, (.int .i64 i1)), (1000000007, (.bool false))] g' ∧ (∀ w', S' w' → St w H [.row 9 (encStr).size l4.length (.slice ao5 l4.length cap5) xs3] H w') ∧ k2 s4 l4 = some r) ?_ ?_
    ·
     skip
     refine WP.block (WP.seq (WP.seq (WP.region ?_)))
     refine wq rfl rfl rfl (ov_move rfl rfl) ?_
     refine wq rfl rfl rfl (ov_move rfl rfl) ?_
     refine wq rfl rfl rfl (ov_len_string Tryz.underlying9 rfl rfl) ?_
     refine wq rfl rfl rfl (ov_lss rfl rfl rfl) ?_
     refine wq rfl rfl rfl (ov_move rfl rfl) ?_
     obtain ⟨c1, e1, hm⟩ := bind_some hm
     refine WL.cut_bool 5 21 (x := c1) ?_ ?_
     ·
      rcases Bool.eq_false_or_eq_true (decide (i1 < (p_line.length : Int))) with hc3 | hc3
      ·
       skip
       replace hm := ite_t hc3 e1
       refine WL.quiet (Runs.yes rfl rfl rfl hc3) rfl rfl (OV.quiet (ov_move rfl rfl)) ?_
       refine WL.quiet (Runs.yes rfl rfl rfl hc3) rfl rfl (OV.quiet (ov_move rfl rfl)) ?_
       obtain ⟨b1, e2, hm⟩ := bind_some hm
       refine WL.quiet (Runs.yes rfl rfl rfl hc3) rfl rfl (OV.quiet (ov_index_string Tryz.underlying9 rfl rfl rfl e2)) ?_
       refine WL.quiet (Runs.yes rfl rfl rfl hc3) rfl rfl (OV.quiet (ov_neq rfl rfl rfl)) ?_
       refine wq rfl rfl rfl (ov_pick_true rfl (guard_eq rfl hc3) rfl) ?_
       exact WL.nil ⟨Sub.cons' rfl (congrArg Value.bool (Option.some.inj hm)) (Sub.skip rfl (Sub.skip rfl (Sub.skip rfl (Sub.skip rfl (Sub.skip rfl (Sub.refl _)))))), fun _ s => s⟩
      ·
       skip
       replace hm := ite_f hc3 e1
       refine WL.idle (Idle.no rfl rfl rfl hc3) rfl rfl ?_
       refine WL.idle (Idle.no rfl rfl rfl hc3) rfl rfl ?_
       refine WL.idle (Idle.no rfl rfl rfl hc3) rfl rfl ?_
       refine WL.idle (Idle.no rfl rfl rfl hc3) rfl rfl ?_
       refine wq rfl rfl rfl (ov_pick_false rfl (guard_eq rfl hc3) rfl) ?_
       exact WL.nil ⟨Sub.cons' rfl (congrArg Value.bool (Option.some.inj hm)) (Sub.skip rfl (Sub.skip rfl (Sub.skip rfl (Sub.skip rfl (Sub.skip rfl (Sub.refl _)))))), fun _ s => s⟩
     refine WL.nil (then_normal ?_)
     refine WP.cond rfl (fun hc4 => ?_) (fun hc4 => ?_)
     ·
      replace hm := ite_t hc4 hm
      refine WP.seq (WP.region ?_)
      refine wq rfl rfl rfl (ov_move rfl rfl) ?_
      refine wq rfl rfl rfl (ov_move rfl rfl) ?_
      refine wq rfl rfl rfl (ov_move rfl rfl) ?_
      refine wq rfl rfl rfl (ov_move rfl rfl) ?_
      refine wq rfl rfl rfl (ov_add rfl rfl rfl) ?_
      obtain ⟨s2, e3, hm⟩ := bind_some hm
      refine wq rfl rfl rfl (ov_slice_string Tryz.underlying9 rfl rfl rfl rfl e3) ?_
      obtain ⟨s3, e4, hm⟩ := bind_some hm
      refine wq rfl rfl rfl (ov_sadd' e4 rfl rfl rfl) ?_
      refine wq rfl rfl rfl (ov_assign rfl rfl) ?_
      refine WL.nil (then_normal (WP.exit (then_exit (block_here (then_normal ?_)))))
      exact ⟨s3, l1, ao2, cap2, xs1, rl2, (Sub.cons rfl (Sub.cons rfl (Sub.cons rfl (Sub.cons rfl (Sub.cons rfl (Sub.nil _)))))), fun w' s => s, hm⟩
     ·
      replace hm := ite_f hc4 hm
      refine WP.skip (then_normal ?_)
      obtain ⟨k3, hk3, hm⟩ := joinK_some hm
      refine WP.seq_join (fun g' S' => ∃ (l3 : (List (List UInt8))) (ao4 : Option Addr) (cap4 : Nat) (xs2 : List Value), RL H encStr l3 xs2 ∧ Sub [(0, (mkS p_line)), (3, (.slice ao4 l3.length cap4)), (5, (.int .i64 i1)), (1000000007, (.bool false))] g' ∧ (∀ w', S' w' → St w H [.row 9 (encStr).size l3.length (.slice ao4 l3.length cap4) xs2] H w') ∧ k3 l3 = some r) ?_ ?_
      ·
       skip
       refine WP.seq (WP.region ?_)
       refine wq rfl rfl rfl (ov_move rfl rfl) ?_
       refine wq rfl rfl rfl (ov_sneq rfl rfl rfl) ?_
       refine WL.nil (then_normal ?_)
       refine WP.cond rfl (fun hc5 => ?_) (fun hc5 => ?_)
       ·
        replace hm := ite_t hc5 hm
        refine WP.region ?_
        refine wq rfl rfl rfl (ov_move rfl rfl) ?_
        refine wq rfl rfl rfl (ov_move rfl rfl) ?_
        have rl3 : RL H encStr ([s1] : List (List UInt8)) [(mkS s1)] := RL.cons (cs := [(mkS s1)]) (xs := []) rfl (RL.nil _ _)
        refine WL.step (Runs.free rfl) rfl rfl (os_buildSlice (cs := [(mkS s1)]) (E := 9) (sz := 1) rfl rfl (fun _ => by kernel_rfl) rfl (by decide) (fun b2 => ?_))
        obtain ⟨l2, e5, hm⟩ := bind_some hm
        refine WL.step (Runs.free rfl) rfl rfl (os_app (i := 1) (j := 0) (En := encStr) (xs := xs1) (ys := [(mkS s1)]) Tryz.underlying64 (by kernel_rfl : (Tryz.prog.info? 9).map (fun i => (i.zero, i.size, i.bytes)) = some (some (mkS []), (encStr).size, 16)) rfl (by decide) rfl rfl rfl rfl rfl rfl rl2 rl3 e5 (fun ao3 cap3 rl4 => ?_))
        refine wq rfl rfl rfl (ov_assign rfl rfl) ?_
        refine WL.nil (then_normal ?_)
        exact ⟨(l1 ++ ([s1] : List (List UInt8))), ao3, cap3, (xs1 ++ [(mkS s1)]), rl4, (Sub.cons rfl (Sub.cons rfl (Sub.cons rfl (Sub.cons rfl (Sub.nil _))))), fun w' s => (s.select [1] (by decide) rfl), hm⟩
       ·
        replace hm := ite_f hc5 hm
        refine WP.skip (then_normal ?_)
        exact ⟨l1, ao2, cap2, xs1, rl2, (Sub.cons rfl (Sub.cons rfl (Sub.cons rfl (Sub.cons rfl (Sub.nil _))))), fun w' s => s, hm⟩
      ·
       rintro g' S' ⟨l3, ao4, cap4, xs2, rl5, hsub2, hS2, hm⟩
       refine WP.sub hsub2 (WP.weaken hS2 ?_)
       replace hm := (congrFun hk3 l3).symm.trans hm
       refine WP.region ?_
       refine wq rfl rfl rfl (ov_assign rfl rfl) ?_
       refine WL.nil (block_normal (then_normal ?_))
       exact ⟨[], l3, ao4, cap4, xs2, rl5, (Sub.cons rfl (Sub.cons rfl (Sub.cons rfl (Sub.cons rfl (Sub.cons rfl (Sub.nil _)))))), fun w' s => s, hm⟩
    ·
     rintro g' S' ⟨s4, l4, ao5, cap5, xs3, rl6, hsub3, hS3, hm⟩
     refine WP.sub hsub3 (WP.weaken hS3 ?_)
     replace hm := (congrFun (congrFun hk2 s4) l4).symm.trans hm
     refine WP.region ?_
     refine wq rfl rfl rfl (ov_move rfl rfl) ?_
     refine wq rfl rfl rfl (ov_add rfl rfl rfl) ?_
     refine wq rfl rfl rfl (ov_assign rfl rfl) ?_
     refine WL.nil (then_normal ?_)
     exact ⟨s4, (IntKind.wrap .i64 (i1 + 1)), l4, ao5, cap5, xs3, rl6, (Sub.cons rfl (Sub.cons rfl (Sub.cons rfl (Sub.cons rfl (Sub.cons rfl (Sub.nil _)))))), fun w' s => s, hm⟩
   ·
    replace hm := ite_f hc2 hm
    refine WP.exit (then_exit (then_exit (block_here (then_normal ?_))))
    exact ⟨l1, ao2, cap2, xs1, rl2, (Sub.cons rfl (Sub.cons rfl (Sub.nil _))), fun w' s => s, hm⟩
 ·
  rintro g' S' ⟨l5, ao6, cap6, xs4, rl7, hsub4, hS4, hm⟩
  refine WP.sub hsub4 (WP.weaken hS4 ?_)
  replace hm := (congrFun hk1 l5).symm.trans hm
  refine WP.seq (WP.region ?_)
  refine wq rfl rfl rfl (ov_move rfl rfl) ?_
  refine wq rfl rfl rfl (ov_assign rfl rfl) ?_
  refine WL.nil (then_normal (WP.ret ?_))
  obtain rfl := Option.some.inj hm
  refine retQ_ret Tryz.results41 (Res.tmp rfl Res.nil) rfl (fun w' s => ⟨s.below, ?_⟩)
  obtain ⟨h2, hc6⟩ := s.ret_row (i := 0) rfl rl7
  exact ⟨ao6, cap6, rfl, h2, hc6⟩

theorem ref12_Number_con (p_s : (List UInt8)) (w : World) (H : Heap) (hH : Le H (hp w)) (hG : Glob H) (r : Int) (hm : ref12_Number p_s = some r) :
  Con Tryz.prog 77 [(mkS p_s)] w H (fun v _ => v = (.int .i64 r)) := by
 unfold ref12_Number at hm
 refine con_of hH Tryz.func77 rfl 31 Tryz.ntmps77 rfl ?_
 refine WP.seq (WP.region ?_)
 refine wq rfl rfl rfl (ov_assign rfl rfl) ?_
 refine WL.nil (then_normal (WP.seq (WP.seq (WP.region ?_))))
 refine wq rfl rfl rfl (ov_move rfl rfl) ?_
 refine wq rfl rfl rfl (ov_len_string Tryz.underlying9 rfl rfl) ?_
 refine wq rfl rfl rfl (ov_eql rfl rfl rfl) ?_
 refine wq rfl rfl rfl (ov_move rfl rfl) ?_
 obtain ⟨c1, e1, hm⟩ := bind_some hm
 refine WL.cut_bool 9 16 (x := c1) ?_ ?_
 ·
  rcases Bool.eq_false_or_eq_true ((p_s.length : Int) == 0) with hc1 | hc1
  ·
   skip
   replace hm := ite_t hc1 e1
   refine WL.idle (Idle.no rfl rfl rfl hc1) rfl rfl ?_
   refine WL.idle (Idle.no rfl rfl rfl hc1) rfl rfl ?_
   refine WL.idle (Idle.no rfl rfl rfl hc1) rfl rfl ?_
   refine WL.idle (Idle.no rfl rfl rfl hc1) rfl rfl ?_
   refine WL.idle (Idle.undef rfl rfl rfl) rfl rfl ?_
   refine WL.idle (Idle.undef rfl rfl rfl) rfl rfl ?_
   refine WL.idle (Idle.undef rfl rfl rfl) rfl rfl ?_
   refine WL.idle (Idle.no rfl rfl rfl hc1) rfl rfl ?_
   refine wq rfl rfl rfl (ov_pick_true rfl (guard_eq rfl hc1) rfl) ?_
   exact WL.nil ⟨Sub.cons' rfl (congrArg Value.bool (Option.some.inj hm)) (Sub.skip rfl (Sub.skip rfl (Sub.skip rfl (Sub.skip rfl (Sub.skip rfl (Sub.skip rfl (Sub.skip rfl (Sub.skip rfl (Sub.skip rfl (Sub.refl _)))))))))), fun _ s => s⟩
  ·
   skip
   replace hm := ite_f hc1 e1
   refine WL.quiet (Runs.yes rfl rfl rfl hc1) rfl rfl (OV.quiet (ov_move rfl rfl)) ?_
   refine WL.quiet (Runs.yes rfl rfl rfl hc1) rfl rfl (OV.quiet (ov_len_string Tryz.underlying9 rfl rfl)) ?_
   refine WL.quiet (Runs.yes rfl rfl rfl hc1) rfl rfl (OV.quiet (ov_gtr rfl rfl rfl)) ?_
   refine WL.quiet (Runs.yes rfl rfl rfl hc1) rfl rfl (OV.quiet (ov_move rfl rfl)) ?_
   obtain ⟨c2, e2, hm⟩ := bind_some hm
   refine WL.cut_bool 4 15 (x := c2) ?_ ?_
   ·
    rcases Bool.eq_false_or_eq_true (decide ((p_s.length : Int) > 1)) with hc2 | hc2
    ·
     skip
     replace hm := ite_t hc2 e2
     refine WL.quiet (Runs.yes rfl rfl rfl hc2) rfl rfl (OV.quiet (ov_move rfl rfl)) ?_
     obtain ⟨b1, e3, hm⟩ := bind_some hm
     refine WL.quiet (Runs.yes rfl rfl rfl hc2) rfl rfl (OV.quiet (ov_index_string Tryz.underlying9 rfl rfl rfl e3)) ?_
     refine WL.quiet (Runs.yes rfl rfl rfl hc2) rfl rfl (OV.quiet (ov_eql rfl rfl rfl)) ?_
     refine WL.quiet (Runs.yes rfl rfl rfl hc1) rfl rfl (OV.quiet (ov_pick_true rfl (guard_eq rfl hc2) rfl)) ?_
     exact WL.nil ⟨Sub.cons' rfl (congrArg Value.bool (Option.some.inj hm)) (Sub.skip rfl (Sub.skip rfl (Sub.skip rfl (Sub.skip rfl (Sub.refl _))))), fun _ s => s⟩
    ·
     skip
     replace hm := ite_f hc2 e2
     refine WL.idle (Idle.no rfl rfl rfl hc2) rfl rfl ?_
     refine WL.idle (Idle.no rfl rfl rfl hc2) rfl rfl ?_
     refine WL.idle (Idle.no rfl rfl rfl hc2) rfl rfl ?_
     refine WL.quiet (Runs.yes rfl rfl rfl hc1) rfl rfl (OV.quiet (ov_pick_false rfl (guard_eq rfl hc2) rfl)) ?_
     exact WL.nil ⟨Sub.cons' rfl (congrArg Value.bool (Option.some.inj hm)) (Sub.skip rfl (Sub.skip rfl (Sub.skip rfl (Sub.skip rfl (Sub.refl _))))), fun _ s => s⟩
   refine wq rfl rfl rfl (ov_pick_false rfl (guard_eq rfl hc1) rfl) ?_
   exact WL.nil ⟨Sub.cons' rfl (congrArg Value.bool (Option.some.inj hm)) (Sub.skip rfl (Sub.skip rfl (Sub.skip rfl (Sub.skip rfl (Sub.skip rfl (Sub.skip rfl (Sub.refl _))))))), fun _ s => s⟩
 refine WL.nil (then_normal ?_)
 refine WP.cond rfl (fun hc3 => ?_) (fun hc3 => ?_)
 ·
  replace hm := ite_t hc3 hm
  refine WP.seq (WP.region ?_)
  refine wq rfl rfl rfl (ov_assign rfl rfl) ?_
  refine WL.nil (then_normal (WP.ret (then_ret ?_)))
  obtain rfl := Option.some.inj hm
  refine retQ_ret Tryz.results77 (Res.tmp rfl Res.nil) rfl (fun w' s => ⟨s.below, ?_⟩)
  exact rfl
 ·
  replace hm := ite_f hc3 hm
  refine WP.skip (then_normal ?_)
  obtain ⟨k1, hk1, hm⟩ := joinK_some hm
  refine WP.seq_join (fun g' S' => Sub [(0, (mkS p_s)), (1000000007, (.bool false))] g' ∧ (∀ w', S' w' → St w H [] H w') ∧ k1 = some r) ?_ ?_
  ·
   skip
   refine WP.seq (WP.region ?_)
   refine wq rfl rfl rfl (ov_assign rfl rfl) ?_
   refine WL.nil (then_normal (WP.block ?_))
   refine WP.loop (fun m1 g' S' => ∃ (i1 : Int), Sub [(0, (mkS p_s)), (3, (.int .i64 i1)), (1000000007, (.bool false))] g' ∧ (∀ w', S' w' → St w H [] H w') ∧ ref12_Number_loop1 p_s k1 m1 i1 = some r) ((Int.toNat ((p_s.length : Int) - 0) + 1)) ⟨0, (Sub.cons rfl (Sub.cons rfl (Sub.cons rfl (Sub.nil _)))), fun w' s => s, hm⟩ ?_ ?_
   ·
    rintro g' S' ⟨_, _, _, hm⟩
    exact none_some hm
   ·
    rintro m1 g' S' ⟨i1, hsub1, hS1, hm⟩
    refine WP.sub hsub1 (WP.weaken hS1 ?_)
    rw [ref12_Number_loop1] at hm
    refine WP.seq (WP.seq (WP.region ?_))
    refine wq rfl rfl rfl (ov_move rfl rfl) ?_
    refine wq rfl rfl rfl (ov_move rfl rfl) ?_
    refine wq rfl rfl rfl (ov_len_string Tryz.underlying9 rfl rfl) ?_
    refine wq rfl rfl rfl (ov_lss rfl rfl rfl) ?_
    refine WL.nil (then_normal ?_)
    refine WP.cond rfl (fun hc4 => ?_) (fun hc4 => ?_)
    ·
     replace hm := ite_t hc4 hm
     refine WP.skip (then_normal (WP.seq (WP.block (WP.seq (WP.region ?_)))))
     refine wq rfl rfl rfl (ov_move rfl rfl) ?_
     refine wq rfl rfl rfl (ov_move rfl rfl) ?_
     obtain ⟨b2, e4, hm⟩ := bind_some hm
     refine wq rfl rfl rfl (ov_index_string Tryz.underlying9 rfl rfl rfl e4) ?_
     obtain ⟨r1, e5, hm⟩ := bind_some hm
     refine WL.quiet (Runs.free rfl) rfl rfl (oq_con (r := (.bool r1)) Tryz.call104 rfl rfl (fun w' s => ⟨_, (ref12_Digit_con (b2.toNat : Int)  w' H s.hold hG r1 e5)⟩)) ?_
     refine wq rfl rfl rfl (ov_not rfl rfl) ?_
     refine WL.nil (then_normal ?_)
     refine WP.cond rfl (fun hc5 => ?_) (fun hc5 => ?_)
     ·
      replace hm := ite_t hc5 hm
      refine WP.seq (WP.region ?_)
      refine wq rfl rfl rfl (ov_assign rfl rfl) ?_
      refine WL.nil (then_normal (WP.ret (block_ret (then_ret (then_ret (block_ret (then_ret ?_)))))))
      obtain rfl := Option.some.inj hm
      refine retQ_ret Tryz.results77 (Res.tmp rfl Res.nil) rfl (fun w' s => ⟨s.below, ?_⟩)
      exact rfl
     ·
      replace hm := ite_f hc5 hm
      refine WP.skip (block_normal (then_normal (WP.region ?_)))
      refine wq rfl rfl rfl (ov_move rfl rfl) ?_
      refine wq rfl rfl rfl (ov_add rfl rfl rfl) ?_
      refine wq rfl rfl rfl (ov_assign rfl rfl) ?_
      refine WL.nil (then_normal ?_)
      exact ⟨(IntKind.wrap .i64 (i1 + 1)), (Sub.cons rfl (Sub.cons rfl (Sub.cons rfl (Sub.nil _)))), fun w' s => s, hm⟩
    ·
     replace hm := ite_f hc4 hm
     refine WP.exit (then_exit (then_exit (block_here (then_normal ?_))))
     exact ⟨(Sub.cons rfl (Sub.cons rfl (Sub.nil _))), fun w' s => s, hm⟩
  ·
   rintro g' S' ⟨hsub2, hS2, hm⟩
   refine WP.sub hsub2 (WP.weaken hS2 ?_)
   replace hm := hk1.symm.trans hm
   refine WP.seq (WP.seq (WP.region ?_))
   refine wq rfl rfl rfl (ov_move rfl rfl) ?_
   refine wq rfl rfl rfl (ov_len_string Tryz.underlying9 rfl rfl) ?_
   refine wq rfl rfl rfl (ov_gtr rfl rfl rfl) ?_
   refine WL.nil (then_normal ?_)
   refine WP.cond rfl (fun hc6 => ?_) (fun hc6 => ?_)
   ·
    replace hm := ite_t hc6 hm
    refine WP.seq (WP.region ?_)
    refine wq rfl rfl rfl (ov_assign rfl rfl) ?_
    refine WL.nil (then_normal (WP.ret (then_ret ?_)))
    obtain rfl := Option.some.inj hm
    refine retQ_ret Tryz.results77 (Res.tmp rfl Res.nil) rfl (fun w' s => ⟨s.below, ?_⟩)
    exact rfl
   ·
    replace hm := ite_f hc6 hm
    refine WP.skip (then_normal (WP.seq (WP.region ?_)))
    refine wq rfl rfl rfl (ov_assign rfl rfl) ?_
    refine WL.nil (then_normal (WP.ret ?_))
    obtain rfl := Option.some.inj hm
    refine retQ_ret Tryz.results77 (Res.tmp rfl Res.nil) rfl (fun w' s => ⟨s.below, ?_⟩)
    exact rfl

theorem ref12_Worth_con (p_s : (List UInt8)) (w : World) (H : Heap) (hH : Le H (hp w)) (hG : Glob H) (r : Int) (hm : ref12_Worth p_s = some r) :
  Con Tryz.prog 78 [(mkS p_s)] w H (fun v _ => v = (.int .i64 r)) := by
 unfold ref12_Worth at hm
 refine con_of hH Tryz.func78 rfl 20 Tryz.ntmps78 rfl ?_
 refine WP.seq (WP.region ?_)
 refine wq rfl rfl rfl (ov_assign rfl rfl) ?_
 refine WL.nil (then_normal (WP.seq (WP.region ?_)))
 refine wq rfl rfl rfl (ov_assign rfl rfl) ?_
 refine WL.nil (then_normal ?_)
 obtain ⟨k1, hk1, hm⟩ := joinK_some hm
 refine WP.seq_join (fun g' S' => ∃ (i3 : Int), Sub [(3, (.int .i64 i3)), (1000000007, (.bool false))] g' ∧ (∀ w', S' w' → St w H [] H w') ∧ k1 i3 = some r) ?_ ?_
 ·
  skip
  refine WP.seq (WP.region ?_)
  refine wq rfl rfl rfl (ov_assign rfl rfl) ?_
  refine WL.nil (then_normal (WP.block ?_))
  refine WP.loop (fun m1 g' S' => ∃ (i1 : Int) (i2 : Int), Sub [(0, (mkS p_s)), (3, (.int .i64 i1)), (4, (.int .i64 i2)), (1000000007, (.bool false))] g' ∧ (∀ w', S' w' → St w H [] H w') ∧ ref12_Worth_loop1 p_s k1 m1 i1 i2 = some r) ((Int.toNat ((p_s.length : Int) - 0) + 1)) ⟨0, 0, (Sub.cons rfl (Sub.cons rfl (Sub.cons rfl (Sub.cons rfl (Sub.nil _))))), fun w' s => s, hm⟩ ?_ ?_
  ·
   rintro g' S' ⟨_, _, _, _, hm⟩
   exact none_some hm
  ·
   rintro m1 g' S' ⟨i1, i2, hsub1, hS1, hm⟩
   refine WP.sub hsub1 (WP.weaken hS1 ?_)
   rw [ref12_Worth_loop1] at hm
   refine WP.seq (WP.seq (WP.region ?_))
   refine wq rfl rfl rfl (ov_move rfl rfl) ?_
   refine wq rfl rfl rfl (ov_move rfl rfl) ?_
   refine wq rfl rfl rfl (ov_len_string Tryz.underlying9 rfl rfl) ?_
   refine wq rfl rfl rfl (ov_lss rfl rfl rfl) ?_
   refine WL.nil (then_normal ?_)
   refine WP.cond rfl (fun hc1 => ?_) (fun hc1 => ?_)
   ·
    replace hm := ite_t hc1 hm
    refine WP.skip (then_normal (WP.seq (WP.block (WP.region ?_))))
    refine wq rfl rfl rfl (ov_move rfl rfl) ?_
    refine wq rfl rfl rfl (ov_mul rfl rfl rfl) ?_
    refine wq rfl rfl rfl (ov_move rfl rfl) ?_
    refine wq rfl rfl rfl (ov_move rfl rfl) ?_
    obtain ⟨b1, e1, hm⟩ := bind_some hm
    refine wq rfl rfl rfl (ov_index_string Tryz.underlying9 rfl rfl rfl e1) ?_
    refine wq rfl rfl rfl (ov_sub rfl rfl rfl) ?_
    refine wq rfl rfl rfl (ov_convert_int Tryz.underlying5 Tryz.underlying3 rfl rfl) ?_
    refine wq rfl rfl rfl (ov_add rfl rfl rfl) ?_
    refine wq rfl rfl rfl (ov_assign rfl rfl) ?_
    refine WL.nil (block_normal (then_normal (WP.region ?_)))
    refine wq rfl rfl rfl (ov_move rfl rfl) ?_
    refine wq rfl rfl rfl (ov_add rfl rfl rfl) ?_
    refine wq rfl rfl rfl (ov_assign rfl rfl) ?_
    refine WL.nil (then_normal ?_)
    exact ⟨(IntKind.wrap .i64 ((IntKind.wrap .i64 (10 * i1)) + (IntKind.wrap .i64 (IntKind.wrap .u8 ((b1.toNat : Int) - 48))))), (IntKind.wrap .i64 (i2 + 1)), (Sub.cons rfl (Sub.cons rfl (Sub.cons rfl (Sub.cons rfl (Sub.nil _))))), fun w' s => s, hm⟩
   ·
    replace hm := ite_f hc1 hm
    refine WP.exit (then_exit (then_exit (block_here (then_normal ?_))))
    exact ⟨i1, (Sub.cons rfl (Sub.cons rfl (Sub.nil _))), fun w' s => s, hm⟩
 ·
  rintro g' S' ⟨i3, hsub2, hS2, hm⟩
  refine WP.sub hsub2 (WP.weaken hS2 ?_)
  replace hm := (congrFun hk1 i3).symm.trans hm
  refine WP.seq (WP.region ?_)
  refine wq rfl rfl rfl (ov_move rfl rfl) ?_
  refine wq rfl rfl rfl (ov_assign rfl rfl) ?_
  refine WL.nil (then_normal (WP.ret ?_))
  obtain rfl := Option.some.inj hm
  refine retQ_ret Tryz.results78 (Res.tmp rfl Res.nil) rfl (fun w' s => ⟨s.below, ?_⟩)
  exact rfl

theorem ref12_Value_con (p_s : (List UInt8)) (w : World) (H : Heap) (hH : Le H (hp w)) (hG : Glob H) (r : (Int × Int)) (hm : ref12_Value p_s = some r) :
  Con Tryz.prog 43 [(mkS p_s)] w H (fun v _ => v = (.tuple #[(.int .i64 r.1), (.int .i64 r.2)])) := by
 unfold ref12_Value at hm
 refine con_of hH Tryz.func43 rfl 31 Tryz.ntmps43 rfl ?_
 refine WP.seq (WP.region ?_)
 refine wq rfl rfl rfl (ov_assign rfl rfl) ?_
 refine wq rfl rfl rfl (ov_assign rfl rfl) ?_
 refine WL.nil (then_normal (WP.seq (WP.region ?_)))
 refine wq rfl rfl rfl (ov_assign rfl rfl) ?_
 refine WL.nil (then_normal ?_)
 obtain ⟨k1, hk1, hm⟩ := joinK_some hm
 refine WP.seq_join (fun g' S' => ∃ (s2 : (List UInt8)) (i1 : Int), Sub [(0, (mkS s2)), (4, (.int .i64 i1)), (1000000007, (.bool false))] g' ∧ (∀ w', S' w' → St w H [] H w') ∧ k1 s2 i1 = some r) ?_ ?_
 ·
  skip
  refine WP.seq (WP.region ?_)
  refine wq rfl rfl rfl (ov_move rfl rfl) ?_
  refine wq rfl rfl rfl (ov_len_string Tryz.underlying9 rfl rfl) ?_
  refine wq rfl rfl rfl (ov_gtr rfl rfl rfl) ?_
  refine wq rfl rfl rfl (ov_move rfl rfl) ?_
  obtain ⟨c1, e1, hm⟩ := bind_some hm
  refine WL.cut_bool 4 13 (x := c1) ?_ ?_
  ·
   rcases Bool.eq_false_or_eq_true (decide ((p_s.length : Int) > 0)) with hc1 | hc1
   ·
    skip
    replace hm := ite_t hc1 e1
    refine WL.quiet (Runs.yes rfl rfl rfl hc1) rfl rfl (OV.quiet (ov_move rfl rfl)) ?_
    obtain ⟨b1, e2, hm⟩ := bind_some hm
    refine WL.quiet (Runs.yes rfl rfl rfl hc1) rfl rfl (OV.quiet (ov_index_string Tryz.underlying9 rfl rfl rfl e2)) ?_
    refine WL.quiet (Runs.yes rfl rfl rfl hc1) rfl rfl (OV.quiet (ov_eql rfl rfl rfl)) ?_
    refine wq rfl rfl rfl (ov_pick_true rfl (guard_eq rfl hc1) rfl) ?_
    exact WL.nil ⟨Sub.cons' rfl (congrArg Value.bool (Option.some.inj hm)) (Sub.skip rfl (Sub.skip rfl (Sub.skip rfl (Sub.skip rfl (Sub.refl _))))), fun _ s => s⟩
   ·
    skip
    replace hm := ite_f hc1 e1
    refine WL.idle (Idle.no rfl rfl rfl hc1) rfl rfl ?_
    refine WL.idle (Idle.no rfl rfl rfl hc1) rfl rfl ?_
    refine WL.idle (Idle.no rfl rfl rfl hc1) rfl rfl ?_
    refine wq rfl rfl rfl (ov_pick_false rfl (guard_eq rfl hc1) rfl) ?_
    exact WL.nil ⟨Sub.cons' rfl (congrArg Value.bool (Option.some.inj hm)) (Sub.skip rfl (Sub.skip rfl (Sub.skip rfl (Sub.skip rfl (Sub.refl _))))), fun _ s => s⟩
  refine WL.nil (then_normal ?_)
  refine WP.cond rfl (fun hc2 => ?_) (fun hc2 => ?_)
  ·
   replace hm := ite_t hc2 hm
   refine WP.region ?_
   refine wq rfl rfl rfl (ov_move rfl rfl) ?_
   obtain ⟨s1, e3, hm⟩ := bind_some hm
   refine wq rfl rfl rfl (ov_slice_string_from Tryz.underlying9 rfl rfl rfl e3) ?_
   refine wq rfl rfl rfl (ov_assign rfl rfl) ?_
   refine wq rfl rfl rfl (ov_assign rfl rfl) ?_
   refine WL.nil (then_normal ?_)
   exact ⟨s1, (-1), (Sub.cons rfl (Sub.cons rfl (Sub.cons rfl (Sub.nil _)))), fun w' s => s, hm⟩
  ·
   replace hm := ite_f hc2 hm
   refine WP.skip (then_normal ?_)
   exact ⟨p_s, 1, (Sub.cons rfl (Sub.cons rfl (Sub.cons rfl (Sub.nil _)))), fun w' s => s, hm⟩
 ·
  rintro g' S' ⟨s2, i1, hsub1, hS1, hm⟩
  refine WP.sub hsub1 (WP.weaken hS1 ?_)
  replace hm := (congrFun (congrFun hk1 s2) i1).symm.trans hm
  refine WP.seq (WP.seq (WP.region ?_))
  refine wq rfl rfl rfl (ov_move rfl rfl) ?_
  refine wq rfl rfl rfl (ov_lss rfl rfl rfl) ?_
  refine wq rfl rfl rfl (ov_move rfl rfl) ?_
  refine WL.cut_bool 3 21 (x := ((decide (i1 < 0)) && (s2 == [48]))) ?_ ?_
  ·
   rcases Bool.eq_false_or_eq_true (decide (i1 < 0)) with hc3 | hc3
   ·
    skip
    refine WL.quiet (Runs.yes rfl rfl rfl hc3) rfl rfl (OV.quiet (ov_move rfl rfl)) ?_
    refine WL.quiet (Runs.yes rfl rfl rfl hc3) rfl rfl (OV.quiet (ov_seql rfl rfl rfl)) ?_
    refine wq rfl rfl rfl (ov_pick_true rfl (guard_eq rfl hc3) rfl) ?_
    exact WL.nil ⟨Sub.cons' rfl (congrArg Value.bool (andT hc3)) (Sub.skip rfl (Sub.skip rfl (Sub.skip rfl (Sub.refl _)))), fun _ s => s⟩
   ·
    skip
    refine WL.idle (Idle.no rfl rfl rfl hc3) rfl rfl ?_
    refine WL.idle (Idle.no rfl rfl rfl hc3) rfl rfl ?_
    refine wq rfl rfl rfl (ov_pick_false rfl (guard_eq rfl hc3) rfl) ?_
    exact WL.nil ⟨Sub.cons' rfl (congrArg Value.bool (andF hc3)) (Sub.skip rfl (Sub.skip rfl (Sub.skip rfl (Sub.refl _)))), fun _ s => s⟩
  refine WL.nil (then_normal ?_)
  refine WP.cond rfl (fun hc4 => ?_) (fun hc4 => ?_)
  ·
   replace hm := ite_t hc4 hm
   refine WP.seq (WP.region ?_)
   refine wq rfl rfl rfl (ov_assign rfl rfl) ?_
   refine wq rfl rfl rfl (ov_assign rfl rfl) ?_
   refine WL.nil (then_normal (WP.ret (then_ret ?_)))
   obtain rfl := Option.some.inj hm
   refine retQ_ret Tryz.results43 (Res.tmp rfl (Res.tmp rfl Res.nil)) rfl (fun w' s => ⟨s.below, ?_⟩)
   exact rfl
  ·
   replace hm := ite_f hc4 hm
   refine WP.skip (then_normal (WP.seq (WP.seq (WP.region ?_))))
   refine wq rfl rfl rfl (ov_move rfl rfl) ?_
   obtain ⟨r1, e4, hm⟩ := bind_some hm
   refine WL.quiet (Runs.free rfl) rfl rfl (oq_con (r := (.int .i64 r1)) Tryz.call77 rfl rfl (fun w' s => ⟨_, (ref12_Number_con s2  w' H s.hold hG r1 e4)⟩)) ?_
   refine wq rfl rfl rfl (ov_assign rfl rfl) ?_
   refine WL.nil (then_normal (WP.seq (WP.region ?_)))
   refine wq rfl rfl rfl (ov_move rfl rfl) ?_
   refine wq rfl rfl rfl (ov_neq rfl rfl rfl) ?_
   refine WL.nil (then_normal ?_)
   refine WP.cond rfl (fun hc5 => ?_) (fun hc5 => ?_)
   ·
    replace hm := ite_t hc5 hm
    refine WP.seq (WP.region ?_)
    refine wq rfl rfl rfl (ov_move rfl rfl) ?_
    refine wq rfl rfl rfl (ov_assign rfl rfl) ?_
    refine wq rfl rfl rfl (ov_assign rfl rfl) ?_
    refine WL.nil (then_normal (WP.ret (then_ret ?_)))
    obtain rfl := Option.some.inj hm
    refine retQ_ret Tryz.results43 (Res.tmp rfl (Res.tmp rfl Res.nil)) rfl (fun w' s => ⟨s.below, ?_⟩)
    exact rfl
   ·
    replace hm := ite_f hc5 hm
    refine WP.skip (then_normal (WP.seq (WP.region ?_)))
    refine wq rfl rfl rfl (ov_move rfl rfl) ?_
    refine wq rfl rfl rfl (ov_move rfl rfl) ?_
    obtain ⟨r2, e5, hm⟩ := bind_some hm
    refine WL.quiet (Runs.free rfl) rfl rfl (oq_con (r := (.int .i64 r2)) Tryz.call78 rfl rfl (fun w' s => ⟨_, (ref12_Worth_con s2  w' H s.hold hG r2 e5)⟩)) ?_
    refine wq rfl rfl rfl (ov_mul rfl rfl rfl) ?_
    refine wq rfl rfl rfl (ov_assign rfl rfl) ?_
    refine wq rfl rfl rfl (ov_assign rfl rfl) ?_
    refine WL.nil (then_normal (WP.ret ?_))
    obtain rfl := Option.some.inj hm
    refine retQ_ret Tryz.results43 (Res.tmp rfl (Res.tmp rfl Res.nil)) rfl (fun w' s => ⟨s.below, ?_⟩)
    exact rfl

theorem ref58_Read_con (p_s : (List UInt8)) (w : World) (H : Heap) (hH : Le H (hp w)) (hG : Glob H) (r : (Entry × Int)) (hm : ref58_Read p_s = some r) :
  Con Tryz.prog 12 [(mkS p_s)] w H (fun v _ => v = (.tuple #[(.agg #[(.int .i64 r.1.kind), (mkS r.1.name), (.int .i64 r.1.count), (.int .i64 r.1.strokes)]), (.int .i64 r.2)])) := by
 unfold ref58_Read at hm
 refine con_of hH Tryz.func12 rfl 80 Tryz.ntmps12 rfl ?_
 refine WP.seq (WP.region ?_)
 refine WL.step (Runs.free rfl) rfl rfl (os_alloc (cs := [(.int .i64 0), (mkS []), (.int .i64 0), (.int .i64 0)]) Tryz.zeroValue30 rfl rfl (fun b1 => ?_))
 refine wq rfl rfl rfl (ov_assign rfl rfl) ?_
 refine WL.nil (then_normal (WP.seq (WP.seq (WP.region ?_))))
 refine wq rfl rfl rfl (ov_move rfl rfl) ?_
 refine wq rfl rfl rfl (ov_len_string Tryz.underlying9 rfl rfl) ?_
 refine wq rfl rfl rfl (ov_gtr rfl rfl rfl) ?_
 refine WL.nil (then_normal ?_)
 refine WP.cond rfl (fun hc1 => ?_) (fun hc1 => ?_)
 ·
  replace hm := ite_t hc1 hm
  refine WP.seq (WP.region ?_)
  refine wq rfl rfl rfl (ov_build (r := (.agg #[(.int .i64 0), (mkS []), (.int .i64 0), (.int .i64 0)])) rfl rfl (fun _ => by kernel_rfl)) ?_
  refine WL.step0 (Runs.free rfl) rfl (os_store (i := 0) (vs := [(.int .i64 0), (mkS []), (.int .i64 0), (.int .i64 0)]) (cs' := [(.int .i64 0), (mkS []), (.int .i64 0), (.int .i64 0)]) Tryz.sizeOf30 rfl rfl rfl rfl rfl rfl rfl rfl rfl ?_)
  refine wq rfl rfl rfl (ov_assign rfl rfl) ?_
  refine WL.nil (then_normal (WP.ret (then_ret ?_)))
  obtain rfl := Option.some.inj hm
  refine retQ_ret Tryz.results12 (Res.cell rfl (box_loads (i := 0) Tryz.isAgg30 Tryz.sizeOf30 rfl rfl) (Res.tmp rfl Res.nil)) rfl (fun w' s => ⟨s.below, ?_⟩)
  exact rfl
 ·
  replace hm := ite_f hc1 hm
  refine WP.skip (then_normal (WP.seq (WP.region ?_)))
  refine wq rfl rfl rfl (ov_move rfl rfl) ?_
  obtain ⟨r1, e1, hm⟩ := bind_some hm
  refine WL.step (Runs.free rfl) rfl rfl (os_con Tryz.call41 rfl rfl (fun w' s => (ref12_Fields_con p_s  w' H s.hold hG r1 e1)) (fun rr1 H1 hle1 hR1 => ?_))
  replace hG := hG.mono hle1
  obtain ⟨ao1, cap1, rfl, h1, hc2⟩ := hR1
  refine wq rfl rfl rfl (ov_assign rfl rfl) ?_
  refine WL.nil (then_normal (WP.seq (WP.region ?_)))
  refine wq rfl rfl rfl (ov_build (r := (.agg #[(.int .i64 (-1)), (mkS []), (.int .i64 0), (.int .i64 0)])) rfl rfl (fun _ => by kernel_rfl)) ?_
  refine WL.step (Runs.free rfl) rfl rfl (os_alloc (cs := [(.int .i64 0), (mkS []), (.int .i64 0), (.int .i64 0)]) Tryz.zeroValue30 rfl rfl (fun b2 => ?_))
  refine WL.step0 (Runs.free rfl) rfl (os_store (i := 0) (vs := [(.int .i64 (-1)), (mkS []), (.int .i64 0), (.int .i64 0)]) (cs' := [(.int .i64 (-1)), (mkS []), (.int .i64 0), (.int .i64 0)]) Tryz.sizeOf30 rfl rfl rfl rfl rfl rfl rfl rfl rfl ?_)
  refine WL.nil (then_normal ?_)
  obtain ⟨k1, hk1, hm⟩ := joinK_some hm
  refine WP.seq_join (fun g' S' => ∃ (H7 : Heap) (i11 : Int) (s3 : (List UInt8)) (i12 : Int) (i13 : Int), Le H1 H7 ∧ Sub [(0, (mkS p_s)), (2, (pB b1 0)), (5, (pB b2 0)), (1000000007, (.bool false))] g' ∧ (∀ w', S' w' → St w H [.blk b2 30 [(.int .i64 i11), (mkS s3), (.int .i64 i12), (.int .i64 i13)], .blk b1 30 [(.int .i64 0), (mkS []), (.int .i64 0), (.int .i64 0)]] H7 w') ∧ k1 i11 s3 i12 i13 = some r) ?_ ?_
  ·
   skip
   refine WP.seq (WP.region ?_)
   refine wq rfl rfl rfl (ov_assign rfl rfl) ?_
   refine WL.nil (then_normal (WP.block ?_))
   refine WP.loop (fun m1 g' S' => ∃ (H2 : Heap) (i1 : Int) (i2 : Int) (s1 : (List UInt8)) (i3 : Int) (i4 : Int), Le H1 H2 ∧ Sub [(0, (mkS p_s)), (2, (pB b1 0)), (4, (.slice ao1 r1.length cap1)), (5, (pB b2 0)), (6, (.int .i64 i1)), (1000000007, (.bool false))] g' ∧ (∀ w', S' w' → St w H [.blk b2 30 [(.int .i64 i2), (mkS s1), (.int .i64 i3), (.int .i64 i4)], .blk b1 30 [(.int .i64 0), (mkS []), (.int .i64 0), (.int .i64 0)]] H2 w') ∧ ref58_Read_loop1 r1 k1 m1 i1 i2 s1 i3 i4 = some r) ((Int.toNat ((r1.length : Int) - 0) + 1)) ⟨H1, 0, (-1), [], 0, 0, (Le.refl _), (Sub.cons rfl (Sub.cons rfl (Sub.cons rfl (Sub.cons rfl (Sub.cons rfl (Sub.cons rfl (Sub.nil _))))))), fun w' s => s, hm⟩ ?_ ?_
   ·
    rintro g' S' ⟨_, _, _, _, _, _, _, _, _, hm⟩
    exact none_some hm
   ·
    rintro m1 g' S' ⟨H2, i1, i2, s1, i3, i4, hle2, hsub1, hS1, hm⟩
    refine WP.sub hsub1 (WP.weaken hS1 ?_)
    rw [ref58_Read_loop1] at hm
    replace h1 := h1.mono hle2
    replace hG := hG.mono hle2
    refine WP.seq (WP.seq (WP.region ?_))
    refine wq rfl rfl rfl (ov_move rfl rfl) ?_
    refine wq rfl rfl rfl (ov_move rfl rfl) ?_
    refine wq rfl rfl rfl (ov_len_slice Tryz.underlying64 rfl rfl) ?_
    refine wq rfl rfl rfl (ov_lss rfl rfl rfl) ?_
    refine WL.nil (then_normal ?_)
    refine WP.cond rfl (fun hc3 => ?_) (fun hc3 => ?_)
    ·
     replace hm := ite_t hc3 hm
     refine WP.skip (then_normal ?_)
     obtain ⟨k2, hk2, hm⟩ := joinK_some hm
     refine WP.seq_join (fun g' S' => ∃ (H6 : Heap) (i8 : Int) (s2 : (List UInt8)) (i9 : Int) (i10 : Int), Le H2 H6 ∧ Sub [(0, (mkS p_s)), (2, (pB b1 0)), (4, (.slice ao1 r1.length cap1)), (5, (pB b2 0)), (6, (.int .i64 i1)), (1000000007, (.bool false))] g' ∧ (∀ w', S' w' → St w H [.blk b2 30 [(.int .i64 i8), (mkS s2), (.int .i64 i9), (.int .i64 i10)], .blk b1 30 [(.int .i64 0), (mkS []), (.int .i64 0), (.int .i64 0)]] H6 w') ∧ k2 i8 s2 i9 i10 = some r) ?_ ?_
     ·
      skip
      refine WP.block (WP.seq (WP.region ?_))
      refine wq rfl rfl rfl (ov_move rfl rfl) ?_
      refine WL.nil (then_normal (WP.block (WP.seq (WP.region ?_))))
      refine wq rfl rfl rfl (ov_eql rfl rfl rfl) ?_
      refine wq rfl rfl rfl (ov_assign rfl rfl) ?_
      refine WL.nil (then_normal ?_)
      refine WP.cond rfl (fun hc4 => ?_) (fun hc4 => ?_)
      ·
       replace hm := ite_t hc4 hm
       refine WP.seq (WP.region ?_)
       refine wq rfl rfl rfl (ov_assign rfl rfl) ?_
       refine WL.nil (then_normal (WP.block ?_))
       refine WP.loop (fun m2 g' S' => ∃ (H3 : Heap) (i5 : Int) (i6 : Int), Le H2 H3 ∧ Sub [(0, (mkS p_s)), (2, (pB b1 0)), (4, (.slice ao1 r1.length cap1)), (5, (pB b2 0)), (6, (.int .i64 i1)), (7, (.int .i64 i5)), (1000000007, (.bool false))] g' ∧ (∀ w', S' w' → St w H [.blk b2 30 [(.int .i64 i6), (mkS s1), (.int .i64 i3), (.int .i64 i4)], .blk b1 30 [(.int .i64 0), (mkS []), (.int .i64 0), (.int .i64 0)]] H3 w') ∧ ref58_Read_loop2 r1 k2 s1 i3 i4 m2 i5 i6 = some r) ((Int.toNat (6 - 0) + 1)) ⟨H2, 0, i2, (Le.refl _), (Sub.cons rfl (Sub.cons rfl (Sub.cons rfl (Sub.cons rfl (Sub.cons rfl (Sub.cons rfl (Sub.cons rfl (Sub.nil _)))))))), fun w' s => s, hm⟩ ?_ ?_
       ·
        rintro g' S' ⟨_, _, _, _, _, _, hm⟩
        exact none_some hm
       ·
        rintro m2 g' S' ⟨H3, i5, i6, hle3, hsub2, hS2, hm⟩
        refine WP.sub hsub2 (WP.weaken hS2 ?_)
        rw [ref58_Read_loop2] at hm
        replace h1 := h1.mono hle3
        replace hG := hG.mono hle3
        refine WP.seq (WP.seq (WP.region ?_))
        refine wq rfl rfl rfl (ov_move rfl rfl) ?_
        refine wq rfl rfl rfl (ov_lss rfl rfl rfl) ?_
        refine WL.nil (then_normal ?_)
        refine WP.cond rfl (fun hc5 => ?_) (fun hc5 => ?_)
        ·
         replace hm := ite_t hc5 hm
         refine WP.skip (then_normal ?_)
         obtain ⟨k3, hk3, hm⟩ := joinK_some hm
         refine WP.seq_join (fun g' S' => ∃ (H5 : Heap) (i7 : Int), Le H3 H5 ∧ Sub [(0, (mkS p_s)), (2, (pB b1 0)), (4, (.slice ao1 r1.length cap1)), (5, (pB b2 0)), (6, (.int .i64 i1)), (7, (.int .i64 i5)), (1000000007, (.bool false))] g' ∧ (∀ w', S' w' → St w H [.blk b2 30 [(.int .i64 i7), (mkS s1), (.int .i64 i3), (.int .i64 i4)], .blk b1 30 [(.int .i64 0), (mkS []), (.int .i64 0), (.int .i64 0)]] H5 w') ∧ k3 i7 = some r) ?_ ?_
         ·
          skip
          refine WP.block (WP.seq ?_)
          refine WP.region_any (S₀ := St w H [.blk b2 30 [(.int .i64 i6), (mkS s1), (.int .i64 i3), (.int .i64 i4)], .blk b1 30 [(.int .i64 0), (mkS []), (.int .i64 0), (.int .i64 0)]] H3) 8 rfl (by kernel_rfl) (fun w' s => s) (fun _ s => s.drew) ?_
          refine tq (i := 1) rfl (by kernel_rfl) rfl rfl rfl (ov_move rfl rfl) ?_
          refine tq (i := 4) rfl (by kernel_rfl) rfl rfl rfl (ov_move rfl rfl) ?_
          obtain ⟨x1, e2, hm⟩ := bind_some hm
          obtain ⟨h2, h3, h4, cs1, h5, h6⟩ := h1.get e2 (by decide)
          obtain rfl : cs1 = [(mkS x1)] := h5
          refine tq (i := 5) rfl (by kernel_rfl) rfl rfl rfl (ov_indexAddr Tryz.underlying64 Tryz.sizeOf9 rfl rfl rfl h2 h3 h4) ?_
          refine tq (i := 6) rfl (by kernel_rfl) rfl rfl rfl (ov_load_elem (v := (mkS x1)) Tryz.isAgg9 rfl rfl h6) ?_
          refine AL.any (rs := [0]) (by kernel_rfl) (by decide) ?_
          refine ALs.cons (i := 0) rfl (Runs.free rfl) rfl rfl ?_ ?_
          ·
           skip
           obtain ⟨r2, e3, hm⟩ := bind_some hm
           refine os_con Tryz.call42 rfl rfl (fun w' s => (ref58_words_con   w' H3 s.hold hG r2 e3)) (fun rr2 H4 hle4 hR2 => ?_)
           replace h1 := h1.mono hle4
           replace h6 := h6.mono hle4
           replace hG := hG.mono hle4
           obtain ⟨ao2, cap2, rfl, h7, hc6⟩ := hR2
           refine ⟨fun w' s => (s.heap hle4), ?_⟩
           refine AL.any (rs := [2]) (by kernel_rfl) (by decide) ?_
           refine ALs.cons (i := 2) rfl (Runs.free rfl) rfl rfl ?_ ?_
           ·
            skip
            obtain ⟨x2, e4, hm⟩ := bind_some hm
            obtain ⟨h8, h9, h10, cs2, h11, h12⟩ := h7.get e4 (by decide)
            obtain rfl : cs2 = [(mkS x2)] := h11
            refine OQ.step (OV.quiet (ov_indexAddr Tryz.underlying64 Tryz.sizeOf9 rfl rfl rfl h8 h9 h10)) ?_
            refine ⟨fun w' s => (s.heap hle4), ?_⟩
            refine AL.any (rs := [3]) (by kernel_rfl) (by decide) ?_
            refine ALs.cons (i := 3) rfl (Runs.free rfl) rfl rfl ?_ ?_
            ·
             skip
             refine OQ.step (OV.quiet (ov_load_elem (v := (mkS x2)) Tryz.isAgg9 rfl rfl h12)) ?_
             refine ⟨fun w' s => (s.heap hle4), ?_⟩
             refine tq (i := 7) rfl (by kernel_rfl) rfl rfl rfl (ov_seql rfl rfl rfl) ?_
             refine AL.done (by kernel_rfl) ?_
             refine then_normal ?_
             refine WP.cond rfl (fun hc7 => ?_) (fun hc7 => ?_)
             ·
              replace hm := ite_t hc7 hm
              refine WP.region ?_
              refine wq rfl rfl rfl (ov_move rfl rfl) ?_
              refine wq rfl rfl rfl (ov_fieldAddr Tryz.underlying30 rfl rfl rfl Tryz.sizeOf3 rfl rfl) ?_
              refine WL.step0 (Runs.free rfl) rfl (os_store (i := 0) (vs := [(.int .i64 i5)]) (cs' := [(.int .i64 i5), (mkS s1), (.int .i64 i3), (.int .i64 i4)]) Tryz.sizeOf3 rfl rfl rfl rfl rfl rfl rfl rfl rfl ?_)
              refine WL.nil (block_normal (then_normal ?_))
              exact ⟨H4, i5, hle4, (Sub.cons rfl (Sub.cons rfl (Sub.cons rfl (Sub.cons rfl (Sub.cons rfl (Sub.cons rfl (Sub.cons rfl (Sub.nil _)))))))), fun w' s => s, hm⟩
             ·
              replace hm := ite_f hc7 hm
              refine WP.skip (block_normal (then_normal ?_))
              exact ⟨H4, i6, hle4, (Sub.cons rfl (Sub.cons rfl (Sub.cons rfl (Sub.cons rfl (Sub.cons rfl (Sub.cons rfl (Sub.cons rfl (Sub.nil _)))))))), fun w' s => s, hm⟩
            exact ALs.nil
           exact ALs.nil
          exact ALs.nil
         ·
          rintro g' S' ⟨H5, i7, hle5, hsub3, hS3, hm⟩
          refine WP.sub hsub3 (WP.weaken hS3 ?_)
          replace hm := (congrFun hk3 i7).symm.trans hm
          replace h1 := h1.mono hle5
          replace hG := hG.mono hle5
          refine WP.region ?_
          refine wq rfl rfl rfl (ov_move rfl rfl) ?_
          refine wq rfl rfl rfl (ov_add rfl rfl rfl) ?_
          refine wq rfl rfl rfl (ov_assign rfl rfl) ?_
          refine WL.nil (then_normal ?_)
          exact ⟨H5, (IntKind.wrap .i64 (i5 + 1)), i7, (hle3.trans hle5), (Sub.cons rfl (Sub.cons rfl (Sub.cons rfl (Sub.cons rfl (Sub.cons rfl (Sub.cons rfl (Sub.cons rfl (Sub.nil _)))))))), fun w' s => s, hm⟩
        ·
         replace hm := ite_f hc5 hm
         refine WP.exit (then_exit (then_exit (block_here (block_normal (block_normal (then_normal ?_))))))
         exact ⟨H3, i6, s1, i3, i4, hle3, (Sub.cons rfl (Sub.cons rfl (Sub.cons rfl (Sub.cons rfl (Sub.cons rfl (Sub.cons rfl (Sub.nil _))))))), fun w' s => s, hm⟩
      ·
       replace hm := ite_f hc4 hm
       refine WP.seq (WP.region ?_)
       refine wq rfl rfl rfl (ov_eql rfl rfl rfl) ?_
       refine wq rfl rfl rfl (ov_assign rfl rfl) ?_
       refine WL.nil (then_normal ?_)
       refine WP.cond rfl (fun hc8 => ?_) (fun hc8 => ?_)
       ·
        replace hm := ite_t hc8 hm
        refine WP.region ?_
        refine wq rfl rfl rfl (ov_move rfl rfl) ?_
        obtain ⟨x3, e5, hm⟩ := bind_some hm
        obtain ⟨h13, h14, h15, cs3, h16, h17⟩ := h1.get e5 (by decide)
        obtain rfl : cs3 = [(mkS x3)] := h16
        refine wq rfl rfl rfl (ov_indexAddr Tryz.underlying64 Tryz.sizeOf9 rfl rfl rfl h13 h14 h15) ?_
        refine wq rfl rfl rfl (ov_load_elem (v := (mkS x3)) Tryz.isAgg9 rfl rfl h17) ?_
        refine wq rfl rfl rfl (ov_fieldAddr Tryz.underlying30 rfl rfl rfl Tryz.sizeOf9 rfl rfl) ?_
        refine WL.step0 (Runs.free rfl) rfl (os_store (i := 0) (vs := [(mkS x3)]) (cs' := [(.int .i64 i2), (mkS x3), (.int .i64 i3), (.int .i64 i4)]) Tryz.sizeOf9 rfl rfl rfl rfl rfl rfl rfl rfl rfl ?_)
        refine WL.nil (block_normal (block_normal (then_normal ?_)))
        exact ⟨H2, i2, x3, i3, i4, (Le.refl _), (Sub.cons rfl (Sub.cons rfl (Sub.cons rfl (Sub.cons rfl (Sub.cons rfl (Sub.cons rfl (Sub.nil _))))))), fun w' s => s, hm⟩
       ·
        replace hm := ite_f hc8 hm
        refine WP.seq (WP.region ?_)
        refine wq rfl rfl rfl (ov_eql rfl rfl rfl) ?_
        refine wq rfl rfl rfl (ov_assign rfl rfl) ?_
        refine WL.nil (then_normal ?_)
        refine WP.cond rfl (fun hc9 => ?_) (fun hc9 => ?_)
        ·
         replace hm := ite_t hc9 hm
         refine WP.region ?_
         refine wq rfl rfl rfl (ov_move rfl rfl) ?_
         obtain ⟨x4, e6, hm⟩ := bind_some hm
         obtain ⟨h18, h19, h20, cs4, h21, h22⟩ := h1.get e6 (by decide)
         obtain rfl : cs4 = [(mkS x4)] := h21
         refine wq rfl rfl rfl (ov_indexAddr Tryz.underlying64 Tryz.sizeOf9 rfl rfl rfl h18 h19 h20) ?_
         refine wq rfl rfl rfl (ov_load_elem (v := (mkS x4)) Tryz.isAgg9 rfl rfl h22) ?_
         obtain ⟨r3, e7, hm⟩ := bind_some hm
         refine WL.quiet (Runs.free rfl) rfl rfl (oq_con (r := (.tuple #[(.int .i64 r3.1), (.int .i64 r3.2)])) Tryz.call43 rfl rfl (fun w' s => ⟨_, (ref12_Value_con x4  w' H2 s.hold hG r3 e7)⟩)) ?_
         refine wq rfl rfl rfl (ov_move rfl rfl) ?_
         refine wq rfl rfl rfl (ov_extract rfl rfl rfl) ?_
         refine wq rfl rfl rfl (ov_extract rfl rfl rfl) ?_
         refine wq rfl rfl rfl (ov_fieldAddr Tryz.underlying30 rfl rfl rfl Tryz.sizeOf3 rfl rfl) ?_
         refine WL.step0 (Runs.free rfl) rfl (os_store (i := 0) (vs := [(.int .i64 r3.1)]) (cs' := [(.int .i64 i2), (mkS s1), (.int .i64 r3.1), (.int .i64 i4)]) Tryz.sizeOf3 rfl rfl rfl rfl rfl rfl rfl rfl rfl ?_)
         refine WL.nil (block_normal (block_normal (then_normal ?_)))
         exact ⟨H2, i2, s1, r3.1, i4, (Le.refl _), (Sub.cons rfl (Sub.cons rfl (Sub.cons rfl (Sub.cons rfl (Sub.cons rfl (Sub.cons rfl (Sub.nil _))))))), fun w' s => s, hm⟩
        ·
         replace hm := ite_f hc9 hm
         refine WP.seq (WP.region ?_)
         refine wq rfl rfl rfl (ov_eql rfl rfl rfl) ?_
         refine wq rfl rfl rfl (ov_assign rfl rfl) ?_
         refine WL.nil (then_normal ?_)
         refine WP.cond rfl (fun hc10 => ?_) (fun hc10 => ?_)
         ·
          replace hm := ite_t hc10 hm
          refine WP.region ?_
          refine wq rfl rfl rfl (ov_move rfl rfl) ?_
          obtain ⟨x5, e8, hm⟩ := bind_some hm
          obtain ⟨h23, h24, h25, cs5, h26, h27⟩ := h1.get e8 (by decide)
          obtain rfl : cs5 = [(mkS x5)] := h26
          refine wq rfl rfl rfl (ov_indexAddr Tryz.underlying64 Tryz.sizeOf9 rfl rfl rfl h23 h24 h25) ?_
          refine wq rfl rfl rfl (ov_load_elem (v := (mkS x5)) Tryz.isAgg9 rfl rfl h27) ?_
          obtain ⟨r4, e9, hm⟩ := bind_some hm
          refine WL.quiet (Runs.free rfl) rfl rfl (oq_con (r := (.tuple #[(.int .i64 r4.1), (.int .i64 r4.2)])) Tryz.call43 rfl rfl (fun w' s => ⟨_, (ref12_Value_con x5  w' H2 s.hold hG r4 e9)⟩)) ?_
          refine wq rfl rfl rfl (ov_move rfl rfl) ?_
          refine wq rfl rfl rfl (ov_extract rfl rfl rfl) ?_
          refine wq rfl rfl rfl (ov_extract rfl rfl rfl) ?_
          refine wq rfl rfl rfl (ov_fieldAddr Tryz.underlying30 rfl rfl rfl Tryz.sizeOf3 rfl rfl) ?_
          refine WL.step0 (Runs.free rfl) rfl (os_store (i := 0) (vs := [(.int .i64 r4.1)]) (cs' := [(.int .i64 i2), (mkS s1), (.int .i64 i3), (.int .i64 r4.1)]) Tryz.sizeOf3 rfl rfl rfl rfl rfl rfl rfl rfl rfl ?_)
          refine WL.nil (block_normal (block_normal (then_normal ?_)))
          exact ⟨H2, i2, s1, i3, r4.1, (Le.refl _), (Sub.cons rfl (Sub.cons rfl (Sub.cons rfl (Sub.cons rfl (Sub.cons rfl (Sub.cons rfl (Sub.nil _))))))), fun w' s => s, hm⟩
         ·
          replace hm := ite_f hc10 hm
          refine WP.skip (block_normal (block_normal (then_normal ?_)))
          exact ⟨H2, i2, s1, i3, i4, (Le.refl _), (Sub.cons rfl (Sub.cons rfl (Sub.cons rfl (Sub.cons rfl (Sub.cons rfl (Sub.cons rfl (Sub.nil _))))))), fun w' s => s, hm⟩
     ·
      rintro g' S' ⟨H6, i8, s2, i9, i10, hle6, hsub4, hS4, hm⟩
      refine WP.sub hsub4 (WP.weaken hS4 ?_)
      replace hm := (congrFun (congrFun (congrFun (congrFun hk2 i8) s2) i9) i10).symm.trans hm
      replace h1 := h1.mono hle6
      replace hG := hG.mono hle6
      refine WP.region ?_
      refine wq rfl rfl rfl (ov_move rfl rfl) ?_
      refine wq rfl rfl rfl (ov_add rfl rfl rfl) ?_
      refine wq rfl rfl rfl (ov_assign rfl rfl) ?_
      refine WL.nil (then_normal ?_)
      exact ⟨H6, (IntKind.wrap .i64 (i1 + 1)), i8, s2, i9, i10, (hle2.trans hle6), (Sub.cons rfl (Sub.cons rfl (Sub.cons rfl (Sub.cons rfl (Sub.cons rfl (Sub.cons rfl (Sub.nil _))))))), fun w' s => s, hm⟩
    ·
     replace hm := ite_f hc3 hm
     refine WP.exit (then_exit (then_exit (block_here (then_normal ?_))))
     exact ⟨H2, i2, s1, i3, i4, hle2, (Sub.cons rfl (Sub.cons rfl (Sub.cons rfl (Sub.cons rfl (Sub.nil _))))), fun w' s => s, hm⟩
  ·
   rintro g' S' ⟨H7, i11, s3, i12, i13, hle7, hsub5, hS5, hm⟩
   refine WP.sub hsub5 (WP.weaken hS5 ?_)
   replace hm := (congrFun (congrFun (congrFun (congrFun hk1 i11) s3) i12) i13).symm.trans hm
   replace hG := hG.mono hle7
   refine WP.seq (WP.seq (WP.region ?_))
   refine wq rfl rfl rfl (ov_load_whole (i := 0) Tryz.isAgg30 Tryz.sizeOf30 rfl rfl rfl rfl) ?_
   obtain ⟨r5, e10, hm⟩ := bind_some hm
   refine WL.quiet (Runs.free rfl) rfl rfl (oq_con (r := (.tuple #[(mkS r5.1), (.int .i64 r5.2)])) Tryz.call10 rfl rfl (fun w' s => ⟨_, (ref58_Text_con (Entry.mk i11 s3 i12 i13)  w' H7 s.hold hG r5 e10)⟩)) ?_
   refine wq rfl rfl rfl (ov_move rfl rfl) ?_
   refine wq rfl rfl rfl (ov_extract rfl rfl rfl) ?_
   refine wq rfl rfl rfl (ov_extract rfl rfl rfl) ?_
   refine wq rfl rfl rfl (ov_assign rfl rfl) ?_
   refine wq rfl rfl rfl (ov_assign rfl rfl) ?_
   refine WL.nil (then_normal (WP.seq (WP.region ?_)))
   refine wq rfl rfl rfl (ov_move rfl rfl) ?_
   refine wq rfl rfl rfl (ov_neq rfl rfl rfl) ?_
   refine wq rfl rfl rfl (ov_move rfl rfl) ?_
   refine WL.cut_bool 4 77 (x := ((r5.2 != 0) || (!(r5.1 == p_s)))) ?_ ?_
   ·
    rcases Bool.eq_false_or_eq_true (r5.2 != 0) with hc11 | hc11
    ·
     skip
     refine WL.idle (Idle.no rfl rfl rfl hc11) rfl rfl ?_
     refine WL.idle (Idle.no rfl rfl rfl hc11) rfl rfl ?_
     refine WL.idle (Idle.no rfl rfl rfl hc11) rfl rfl ?_
     refine wq rfl rfl rfl (ov_pick_true rfl (guard_eq rfl hc11) rfl) ?_
     exact WL.nil ⟨Sub.cons' rfl (congrArg Value.bool (orT hc11)) (Sub.skip rfl (Sub.skip rfl (Sub.skip rfl (Sub.skip rfl (Sub.refl _))))), fun _ s => s⟩
    ·
     skip
     refine WL.quiet (Runs.yes rfl rfl rfl hc11) rfl rfl (OV.quiet (ov_move rfl rfl)) ?_
     refine WL.quiet (Runs.yes rfl rfl rfl hc11) rfl rfl (OV.quiet (ov_move rfl rfl)) ?_
     refine WL.quiet (Runs.yes rfl rfl rfl hc11) rfl rfl (OV.quiet (ov_sneq rfl rfl rfl)) ?_
     refine wq rfl rfl rfl (ov_pick_false rfl (guard_eq rfl hc11) rfl) ?_
     exact WL.nil ⟨Sub.cons' rfl (congrArg Value.bool (orF hc11)) (Sub.skip rfl (Sub.skip rfl (Sub.skip rfl (Sub.skip rfl (Sub.refl _))))), fun _ s => s⟩
   refine WL.nil (then_normal ?_)
   refine WP.cond rfl (fun hc12 => ?_) (fun hc12 => ?_)
   ·
    replace hm := ite_t hc12 hm
    refine WP.seq (WP.region ?_)
    refine wq rfl rfl rfl (ov_build (r := (.agg #[(.int .i64 0), (mkS []), (.int .i64 0), (.int .i64 0)])) rfl rfl (fun _ => by kernel_rfl)) ?_
    refine WL.step0 (Runs.free rfl) rfl (os_store (i := 1) (vs := [(.int .i64 0), (mkS []), (.int .i64 0), (.int .i64 0)]) (cs' := [(.int .i64 0), (mkS []), (.int .i64 0), (.int .i64 0)]) Tryz.sizeOf30 rfl rfl rfl rfl rfl rfl rfl rfl rfl ?_)
    refine wq rfl rfl rfl (ov_assign rfl rfl) ?_
    refine WL.nil (then_normal (WP.ret (then_ret ?_)))
    obtain rfl := Option.some.inj hm
    refine retQ_ret Tryz.results12 (Res.cell rfl (box_loads (i := 1) Tryz.isAgg30 Tryz.sizeOf30 rfl rfl) (Res.tmp rfl Res.nil)) rfl (fun w' s => ⟨s.below, ?_⟩)
    exact rfl
   ·
    replace hm := ite_f hc12 hm
    refine WP.skip (then_normal (WP.seq (WP.region ?_)))
    refine wq rfl rfl rfl (ov_load_whole (i := 0) Tryz.isAgg30 Tryz.sizeOf30 rfl rfl rfl rfl) ?_
    refine WL.step0 (Runs.free rfl) rfl (os_store (i := 1) (vs := [(.int .i64 i11), (mkS s3), (.int .i64 i12), (.int .i64 i13)]) (cs' := [(.int .i64 i11), (mkS s3), (.int .i64 i12), (.int .i64 i13)]) Tryz.sizeOf30 rfl rfl rfl rfl rfl rfl rfl rfl rfl ?_)
    refine wq rfl rfl rfl (ov_assign rfl rfl) ?_
    refine WL.nil (then_normal (WP.ret ?_))
    obtain rfl := Option.some.inj hm
    refine retQ_ret Tryz.results12 (Res.cell rfl (box_loads (i := 1) Tryz.isAgg30 Tryz.sizeOf30 rfl rfl) (Res.tmp rfl Res.nil)) rfl (fun w' s => ⟨s.below, ?_⟩)
    exact rfl

end Go.Proofs.YtpigfknmlmeihaaGreatDoor.W
