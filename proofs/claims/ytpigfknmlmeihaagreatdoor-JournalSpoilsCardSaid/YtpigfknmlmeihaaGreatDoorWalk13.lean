/- The walks. Written by our own program gen.py; Lean checks it. -/
import Derived.Test.YtpigfknmlmeihaaGreatDoorPlain
import Derived.Test.YtpigfknmlmeihaaGreatDoorEqs
import Derived.Test.YtpigfknmlmeihaaGreatDoorProg
import Derived.Test.YtpigfknmlmeihaaGreatDoorExt
import Derived.Test.YtpigfknmlmeihaaGreatDoorClone
import Derived.Test.YtpigfknmlmeihaaGreatDoorInsert
import Derived.Test.YtpigfknmlmeihaaGreatDoorBuild
import Derived.Test.YtpigfknmlmeihaaGreatDoorWalk2
import Derived.Test.YtpigfknmlmeihaaGreatDoorWalk3
import Derived.Test.YtpigfknmlmeihaaGreatDoorWalk6
import Derived.Test.YtpigfknmlmeihaaGreatDoorWalk8
set_option linter.unusedVariables false
set_option maxRecDepth 100000
set_option maxHeartbeats 4000000
namespace Go.Proofs.YtpigfknmlmeihaaGreatDoor.W
open Go Go.RowKit
theorem law58_JournalSpoils_con (p_l : (List Entry)) (p_at : Int) (p_b : Int) (ao1 : Option Addr) (cap1 : Nat) (w : World) (H : Heap) (hH : Le H (hp w)) (h1 : SL H encEntry ao1 p_l) (hc1 : p_l.length ≤ cap1) (hG : Glob H) (r : Bool) (hm : law58_JournalSpoils p_l p_at p_b = some r) :
  Con Tryz.prog 7 [(.slice ao1 p_l.length cap1), (.int .u16 p_at), (.int .u8 p_b)] w H (fun v _ => v = (.bool r)) := by
 unfold law58_JournalSpoils at hm
 refine con_of hH Tryz.func7 rfl 97 Tryz.ntmps7 rfl ?_
 refine WP.seq (WP.region ?_)
 refine wq rfl rfl rfl (ov_assign rfl rfl) ?_
 refine WL.nil (then_normal (WP.seq (WP.seq (WP.region ?_))))
 refine wq rfl rfl rfl (ov_move rfl rfl) ?_
 obtain ⟨r1, e1, hm⟩ := bind_some hm
 refine WL.quiet (Runs.free rfl) rfl rfl (oq_con (r := (.bool r1)) Tryz.call21 rfl rfl (fun w' s => ⟨_, (law58_right_con p_l ao1 cap1  w' H s.hold h1 hc1 hG r1 e1)⟩)) ?_
 refine wq rfl rfl rfl (ov_not rfl rfl) ?_
 refine wq rfl rfl rfl (ov_move rfl rfl) ?_
 refine WL.cut_bool 4 20 (x := ((!r1) || ((p_l.length : Int) == 0))) ?_ ?_
 ·
  rcases Bool.eq_false_or_eq_true (!r1) with hc2 | hc2
  ·
   skip
   refine WL.idle (Idle.no rfl rfl rfl hc2) rfl rfl ?_
   refine WL.idle (Idle.no rfl rfl rfl hc2) rfl rfl ?_
   refine WL.idle (Idle.no rfl rfl rfl hc2) rfl rfl ?_
   refine wq rfl rfl rfl (ov_pick_true rfl (guard_eq rfl hc2) rfl) ?_
   exact WL.nil ⟨Sub.cons' rfl (congrArg Value.bool (orT hc2)) (Sub.skip rfl (Sub.skip rfl (Sub.skip rfl (Sub.skip rfl (Sub.refl _))))), fun _ s => s⟩
  ·
   skip
   refine WL.quiet (Runs.yes rfl rfl rfl hc2) rfl rfl (OV.quiet (ov_move rfl rfl)) ?_
   refine WL.quiet (Runs.yes rfl rfl rfl hc2) rfl rfl (OV.quiet (ov_len_slice Tryz.underlying52 rfl rfl)) ?_
   refine WL.quiet (Runs.yes rfl rfl rfl hc2) rfl rfl (OV.quiet (ov_eql rfl rfl rfl)) ?_
   refine wq rfl rfl rfl (ov_pick_false rfl (guard_eq rfl hc2) rfl) ?_
   exact WL.nil ⟨Sub.cons' rfl (congrArg Value.bool (orF hc2)) (Sub.skip rfl (Sub.skip rfl (Sub.skip rfl (Sub.skip rfl (Sub.refl _))))), fun _ s => s⟩
 refine WL.nil (then_normal ?_)
 refine WP.cond rfl (fun hc3 => ?_) (fun hc3 => ?_)
 ·
  replace hm := ite_t hc3 hm
  refine WP.seq (WP.region ?_)
  obtain ⟨r2, e2, hm⟩ := bind_some hm
  refine WL.quiet (Runs.free rfl) rfl rfl (oq_con (r := (.bool r2)) Tryz.call8 rfl rfl (fun w' s => ⟨_, (law58_awake_con   w' H s.hold hG r2 e2)⟩)) ?_
  refine wq rfl rfl rfl (ov_assign rfl rfl) ?_
  refine WL.nil (then_normal (WP.ret (then_ret ?_)))
  obtain rfl := Option.some.inj hm
  refine retQ_ret Tryz.results7 (Res.tmp rfl Res.nil) rfl (fun w' s => ⟨s.below, ?_⟩)
  exact rfl
 ·
  replace hm := ite_f hc3 hm
  refine WP.skip (then_normal (WP.seq (WP.region ?_)))
  refine wq rfl rfl rfl (ov_move rfl rfl) ?_
  obtain ⟨r3, e3, hm⟩ := bind_some hm
  refine WL.quiet (Runs.free rfl) rfl rfl (oq_con (r := (.tuple #[(mkS r3.1), (.int .i64 r3.2)])) Tryz.call22 rfl rfl (fun w' s => ⟨_, (journal_Log_con p_l ao1 cap1  w' H s.hold h1 hc1 hG r3 e3)⟩)) ?_
  refine wq rfl rfl rfl (ov_move rfl rfl) ?_
  refine wq rfl rfl rfl (ov_extract rfl rfl rfl) ?_
  refine wq rfl rfl rfl (ov_extract rfl rfl rfl) ?_
  refine wq rfl rfl rfl (ov_assign rfl rfl) ?_
  refine wq rfl rfl rfl (ov_assign rfl rfl) ?_
  refine WL.nil (then_normal (WP.seq (WP.seq (WP.region ?_))))
  refine wq rfl rfl rfl (ov_move rfl rfl) ?_
  refine wq rfl rfl rfl (ov_neq rfl rfl rfl) ?_
  refine wq rfl rfl rfl (ov_move rfl rfl) ?_
  refine WL.cut_bool 3 32 (x := ((r3.2 != 0) || (r3.1 == []))) ?_ ?_
  ·
   rcases Bool.eq_false_or_eq_true (r3.2 != 0) with hc4 | hc4
   ·
    skip
    refine WL.idle (Idle.no rfl rfl rfl hc4) rfl rfl ?_
    refine WL.idle (Idle.no rfl rfl rfl hc4) rfl rfl ?_
    refine wq rfl rfl rfl (ov_pick_true rfl (guard_eq rfl hc4) rfl) ?_
    exact WL.nil ⟨Sub.cons' rfl (congrArg Value.bool (orT hc4)) (Sub.skip rfl (Sub.skip rfl (Sub.skip rfl (Sub.refl _)))), fun _ s => s⟩
   ·
    skip
    refine WL.quiet (Runs.yes rfl rfl rfl hc4) rfl rfl (OV.quiet (ov_move rfl rfl)) ?_
    refine WL.quiet (Runs.yes rfl rfl rfl hc4) rfl rfl (OV.quiet (ov_seql rfl rfl rfl)) ?_
    refine wq rfl rfl rfl (ov_pick_false rfl (guard_eq rfl hc4) rfl) ?_
    exact WL.nil ⟨Sub.cons' rfl (congrArg Value.bool (orF hc4)) (Sub.skip rfl (Sub.skip rfl (Sub.skip rfl (Sub.refl _)))), fun _ s => s⟩
  refine WL.nil (then_normal ?_)
  refine WP.cond rfl (fun hc5 => ?_) (fun hc5 => ?_)
  ·
   replace hm := ite_t hc5 hm
   refine WP.seq (WP.region ?_)
   refine wq rfl rfl rfl (ov_assign rfl rfl) ?_
   refine WL.nil (then_normal (WP.ret (then_ret ?_)))
   obtain rfl := Option.some.inj hm
   refine retQ_ret Tryz.results7 (Res.tmp rfl Res.nil) rfl (fun w' s => ⟨s.below, ?_⟩)
   exact rfl
  ·
   replace hm := ite_f hc5 hm
   refine WP.skip (then_normal (WP.seq (WP.region ?_)))
   refine wq rfl rfl rfl (ov_move rfl rfl) ?_
   refine wq rfl rfl rfl (ov_convert_int Tryz.underlying53 Tryz.underlying3 rfl rfl) ?_
   refine wq rfl rfl rfl (ov_move rfl rfl) ?_
   refine wq rfl rfl rfl (ov_len_string Tryz.underlying9 rfl rfl) ?_
   obtain ⟨u1, e4, hm⟩ := bind_some hm
   replace e4 := guardO_some e4
   refine wq rfl rfl rfl (ov_rem rfl rfl rfl (by simpa using e4)) ?_
   refine wq rfl rfl rfl (ov_assign rfl rfl) ?_
   refine WL.nil (then_normal (WP.seq (WP.seq (WP.region ?_))))
   refine wq rfl rfl rfl (ov_move rfl rfl) ?_
   refine wq rfl rfl rfl (ov_move rfl rfl) ?_
   obtain ⟨b1, e5, hm⟩ := bind_some hm
   refine wq rfl rfl rfl (ov_index_string Tryz.underlying9 rfl rfl rfl e5) ?_
   refine wq rfl rfl rfl (ov_move rfl rfl) ?_
   refine wq rfl rfl rfl (ov_eql rfl rfl rfl) ?_
   refine wq rfl rfl rfl (ov_move rfl rfl) ?_
   obtain ⟨c1, e6, hm⟩ := bind_some hm
   refine WL.cut_bool 5 48 (x := c1) ?_ ?_
   ·
    rcases Bool.eq_false_or_eq_true ((b1.toNat : Int) == p_b) with hc6 | hc6
    ·
     skip
     replace hm := ite_t hc6 e6
     refine WL.idle (Idle.no rfl rfl rfl hc6) rfl rfl ?_
     refine WL.idle (Idle.no rfl rfl rfl hc6) rfl rfl ?_
     refine WL.idle (Idle.no rfl rfl rfl hc6) rfl rfl ?_
     refine WL.idle (Idle.no rfl rfl rfl hc6) rfl rfl ?_
     refine wq rfl rfl rfl (ov_pick_true rfl (guard_eq rfl hc6) rfl) ?_
     exact WL.nil ⟨Sub.cons' rfl (congrArg Value.bool (Option.some.inj hm)) (Sub.skip rfl (Sub.skip rfl (Sub.skip rfl (Sub.skip rfl (Sub.skip rfl (Sub.refl _)))))), fun _ s => s⟩
    ·
     skip
     replace hm := ite_f hc6 e6
     refine WL.quiet (Runs.yes rfl rfl rfl hc6) rfl rfl (OV.quiet (ov_move rfl rfl)) ?_
     refine WL.quiet (Runs.yes rfl rfl rfl hc6) rfl rfl (OV.quiet (ov_move rfl rfl)) ?_
     obtain ⟨b2, e7, hm⟩ := bind_some hm
     refine WL.quiet (Runs.yes rfl rfl rfl hc6) rfl rfl (OV.quiet (ov_index_string Tryz.underlying9 rfl rfl rfl e7)) ?_
     refine WL.quiet (Runs.yes rfl rfl rfl hc6) rfl rfl (OV.quiet (ov_eql rfl rfl rfl)) ?_
     refine wq rfl rfl rfl (ov_pick_false rfl (guard_eq rfl hc6) rfl) ?_
     exact WL.nil ⟨Sub.cons' rfl (congrArg Value.bool (Option.some.inj hm)) (Sub.skip rfl (Sub.skip rfl (Sub.skip rfl (Sub.skip rfl (Sub.skip rfl (Sub.refl _)))))), fun _ s => s⟩
   refine wq rfl rfl rfl (ov_move rfl rfl) ?_
   refine WL.cut_bool 3 52 (x := (c1 || (p_b == 10))) ?_ ?_
   ·
    rcases Bool.eq_false_or_eq_true c1 with hc7 | hc7
    ·
     skip
     refine WL.idle (Idle.no rfl rfl rfl hc7) rfl rfl ?_
     refine WL.idle (Idle.no rfl rfl rfl hc7) rfl rfl ?_
     refine wq rfl rfl rfl (ov_pick_true rfl (guard_eq rfl hc7) rfl) ?_
     exact WL.nil ⟨Sub.cons' rfl (congrArg Value.bool (orT hc7)) (Sub.skip rfl (Sub.skip rfl (Sub.skip rfl (Sub.refl _)))), fun _ s => s⟩
    ·
     skip
     refine WL.quiet (Runs.yes rfl rfl rfl hc7) rfl rfl (OV.quiet (ov_move rfl rfl)) ?_
     refine WL.quiet (Runs.yes rfl rfl rfl hc7) rfl rfl (OV.quiet (ov_eql rfl rfl rfl)) ?_
     refine wq rfl rfl rfl (ov_pick_false rfl (guard_eq rfl hc7) rfl) ?_
     exact WL.nil ⟨Sub.cons' rfl (congrArg Value.bool (orF hc7)) (Sub.skip rfl (Sub.skip rfl (Sub.skip rfl (Sub.refl _)))), fun _ s => s⟩
   refine WL.nil (then_normal ?_)
   refine WP.cond rfl (fun hc8 => ?_) (fun hc8 => ?_)
   ·
    replace hm := ite_t hc8 hm
    refine WP.seq (WP.region ?_)
    obtain ⟨r4, e8, hm⟩ := bind_some hm
    refine WL.quiet (Runs.free rfl) rfl rfl (oq_con (r := (.bool r4)) Tryz.call8 rfl rfl (fun w' s => ⟨_, (law58_awake_con   w' H s.hold hG r4 e8)⟩)) ?_
    refine wq rfl rfl rfl (ov_assign rfl rfl) ?_
    refine WL.nil (then_normal (WP.ret (then_ret ?_)))
    obtain rfl := Option.some.inj hm
    refine retQ_ret Tryz.results7 (Res.tmp rfl Res.nil) rfl (fun w' s => ⟨s.below, ?_⟩)
    exact rfl
   ·
    replace hm := ite_f hc8 hm
    refine WP.skip (then_normal (WP.seq ?_))
    refine WP.region_any (S₀ := St w H [] H) 13 rfl (by kernel_rfl) (fun w' s => s) (fun _ s => s.drew) ?_
    refine tq (i := 0) rfl (by kernel_rfl) rfl rfl rfl (ov_move rfl rfl) ?_
    refine tq (i := 1) rfl (by kernel_rfl) rfl rfl rfl (ov_move rfl rfl) ?_
    obtain ⟨s1, e9, hm⟩ := bind_some hm
    refine tq (i := 2) rfl (by kernel_rfl) rfl rfl rfl (ov_slice_string_to Tryz.underlying9 rfl rfl rfl e9) ?_
    refine tq (i := 3) rfl (by kernel_rfl) rfl rfl rfl (ov_move rfl rfl) ?_
    refine tq (i := 7) rfl (by kernel_rfl) rfl rfl rfl (ov_move rfl rfl) ?_
    refine tq (i := 8) rfl (by kernel_rfl) rfl rfl rfl (ov_move rfl rfl) ?_
    refine tq (i := 9) rfl (by kernel_rfl) rfl rfl rfl (ov_add rfl rfl rfl) ?_
    obtain ⟨s2, e10, hm⟩ := bind_some hm
    refine tq (i := 10) rfl (by kernel_rfl) rfl rfl rfl (ov_slice_string_from Tryz.underlying9 rfl rfl rfl e10) ?_
    refine AL.any (rs := [4]) (by kernel_rfl) (by decide) ?_
    refine ALs.cons (i := 4) rfl (Runs.free rfl) rfl rfl ?_ ?_
    ·
     skip
     have rl1 : RL H (encInt .u8) ([p_b] : List Int) [(.int .u8 p_b)] := RL.cons (cs := [(.int .u8 p_b)]) (xs := []) rfl (RL.nil _ _)
     refine os_buildSlice (cs := [(.int .u8 p_b)]) (E := 5) (sz := 1) rfl rfl (fun _ => by kernel_rfl) rfl (by decide) (fun b3 => ?_)
     refine ⟨fun w' s => (s.select [] (by decide) rfl), ?_⟩
     refine AL.any (rs := [5]) (by kernel_rfl) (by decide) ?_
     refine ALs.cons (i := 5) rfl (Runs.free rfl) rfl rfl ?_ ?_
     ·
      skip
      refine OQ.step (OV.quiet (ov_bytes_str_own (i := 0) Tryz.underlying59 Tryz.underlying9 Tryz.underlying5 rl1 rfl rfl rfl)) ?_
      refine ⟨fun w' s => (s.select [] (by decide) rfl), ?_⟩
      obtain ⟨s3, e11, hm⟩ := bind_some hm
      refine tq (i := 6) rfl (by kernel_rfl) rfl rfl rfl (ov_sadd' e11 rfl rfl rfl) ?_
      obtain ⟨s4, e12, hm⟩ := bind_some hm
      refine tq (i := 11) rfl (by kernel_rfl) rfl rfl rfl (ov_sadd' e12 rfl rfl rfl) ?_
      refine tq (i := 12) rfl (by kernel_rfl) rfl rfl rfl (ov_assign rfl rfl) ?_
      refine AL.done (by kernel_rfl) ?_
      refine then_normal (WP.seq (WP.region ?_))
      refine wq rfl rfl rfl (ov_move rfl rfl) ?_
      obtain ⟨r5, e13, hm⟩ := bind_some hm
      refine WL.step (Runs.free rfl) rfl rfl (os_con Tryz.call15 rfl rfl (fun w' s => (journal_Load_con s4  w' H s.hold hG r5 e13)) (fun rr1 H1 hle1 hR1 => ?_))
      replace h1 := h1.mono hle1
      replace rl1 := rl1.mono hle1
      replace hG := hG.mono hle1
      obtain ⟨ao2, cap2, rfl, h2, hc9⟩ := hR1
      refine wq rfl rfl rfl (ov_move rfl rfl) ?_
      refine wq rfl rfl rfl (ov_extract rfl rfl rfl) ?_
      refine wq rfl rfl rfl (ov_extract rfl rfl rfl) ?_
      refine wq rfl rfl rfl (ov_extract rfl rfl rfl) ?_
      refine WL.step (Runs.free rfl) rfl rfl (os_alloc (cs := [(.slice none 0 0), (.int .i64 0)]) Tryz.zeroValue41 rfl rfl (fun b4 => ?_))
      refine WL.step0 (Runs.free rfl) rfl (os_store (i := 0) (vs := [(.slice ao2 r5.1.items.length cap2), (.int .i64 r5.1.cycles)]) (cs' := [(.slice ao2 r5.1.items.length cap2), (.int .i64 r5.1.cycles)]) Tryz.sizeOf41 rfl rfl rfl rfl rfl rfl rfl rfl rfl ?_)
      refine wq rfl rfl rfl (ov_assign rfl rfl) ?_
      refine wq rfl rfl rfl (ov_assign rfl rfl) ?_
      refine WL.nil (then_normal (WP.seq ?_))
      refine WP.region_draws (by kernel_rfl) (by kernel_rfl) (fun _ s => s.drew) ?_
      refine QL.quiet (Runs.free rfl) rfl rfl (OV.quiet (ov_move rfl rfl)) ?_
      refine QL.quiet (Runs.free rfl) rfl rfl (OV.quiet (ov_neq rfl rfl rfl)) ?_
      refine QL.quiet (Runs.free rfl) rfl rfl (OV.quiet (ov_move rfl rfl)) ?_
      obtain ⟨c2, e14, hm⟩ := bind_some hm
      refine QL.part_bool 7 81 (x := c2) ?_ ?_
      ·
       rcases Bool.eq_false_or_eq_true (r5.2.2 != 0) with hc10 | hc10
       ·
        skip
        replace hm := ite_t hc10 e14
        refine QL.quiet (Runs.yes rfl rfl rfl hc10) rfl rfl (OV.quiet (ov_move rfl rfl)) ?_
        refine QL.quiet (Runs.yes rfl rfl rfl hc10) rfl rfl (OV.quiet (ov_move rfl rfl)) ?_
        refine QL.quiet (Runs.yes rfl rfl rfl hc10) rfl rfl (OV.quiet (ov_move rfl rfl)) ?_
        obtain ⟨s5, e15, hm⟩ := bind_some hm
        refine QL.quiet (Runs.yes rfl rfl rfl hc10) rfl rfl (OV.quiet (ov_slice_string_to Tryz.underlying9 rfl rfl rfl e15)) ?_
        obtain ⟨r6, e16, hm⟩ := bind_some hm
        refine QL.quiet (Runs.yes rfl rfl rfl hc10) rfl rfl (oq_con (r := (.int .i64 r6)) Tryz.call24 rfl rfl (fun w' s => ⟨_, (countS_con s5 [10]  w' H1 s.hold hG r6 e16)⟩)) ?_
        refine QL.quiet (Runs.yes rfl rfl rfl hc10) rfl rfl (OV.quiet (ov_eql rfl rfl rfl)) ?_
        refine QL.quiet (Runs.free rfl) rfl rfl (OV.quiet (ov_pick_true rfl (guard_eq rfl hc10) rfl)) ?_
        exact QL.nil (Sub.cons' rfl (congrArg Value.bool (Option.some.inj hm)) (Sub.skip rfl (Sub.skip rfl (Sub.skip rfl (Sub.skip rfl (Sub.skip rfl (Sub.skip rfl (Sub.skip rfl (Sub.refl _)))))))))
       ·
        skip
        replace hm := ite_f hc10 e14
        refine QL.idle (Idle.no rfl rfl rfl hc10) rfl rfl ?_
        refine QL.idle (Idle.no rfl rfl rfl hc10) rfl rfl ?_
        refine QL.idle (Idle.no rfl rfl rfl hc10) rfl rfl ?_
        refine QL.idle (Idle.no rfl rfl rfl hc10) rfl rfl ?_
        refine QL.idle (Idle.no rfl rfl rfl hc10) rfl rfl ?_
        refine QL.idle (Idle.no rfl rfl rfl hc10) rfl rfl ?_
        refine QL.quiet (Runs.free rfl) rfl rfl (OV.quiet (ov_pick_false rfl (guard_eq rfl hc10) rfl)) ?_
        exact QL.nil (Sub.cons' rfl (congrArg Value.bool (Option.some.inj hm)) (Sub.skip rfl (Sub.skip rfl (Sub.skip rfl (Sub.skip rfl (Sub.skip rfl (Sub.skip rfl (Sub.skip rfl (Sub.refl _)))))))))
      refine QL.quiet (Runs.free rfl) rfl rfl (OV.quiet (ov_move rfl rfl)) ?_
      obtain ⟨c3, e17, hm⟩ := bind_some hm
      refine QL.part_bool 11 93 (x := c3) ?_ ?_
      ·
       rcases Bool.eq_false_or_eq_true c2 with hc11 | hc11
       ·
        skip
        replace hm := ite_t hc11 e17
        refine QL.quiet (Runs.yes rfl rfl rfl hc11) rfl rfl (OV.quiet (ov_move rfl rfl)) ?_
        obtain ⟨r7, e18, hm⟩ := bind_some hm
        refine QL.quiet (Runs.yes rfl rfl rfl hc11) rfl rfl (oq_con (r := (mkS r7)) Tryz.call19 rfl rfl (fun w' s => ⟨_, (journal_Repaired_con s4  w' H1 s.hold hG r7 e18)⟩)) ?_
        refine QL.quiet (Runs.yes rfl rfl rfl hc11) rfl rfl (OV.quiet (ov_move rfl rfl)) ?_
        refine QL.quiet (Runs.yes rfl rfl rfl hc11) rfl rfl (OV.quiet (ov_move rfl rfl)) ?_
        refine QL.quiet (Runs.yes rfl rfl rfl hc11) rfl rfl (OV.quiet (ov_move rfl rfl)) ?_
        obtain ⟨s6, e19, hm⟩ := bind_some hm
        refine QL.quiet (Runs.yes rfl rfl rfl hc11) rfl rfl (OV.quiet (ov_slice_string_to Tryz.underlying9 rfl rfl rfl e19)) ?_
        obtain ⟨r8, e20, hm⟩ := bind_some hm
        refine QL.quiet (Runs.yes rfl rfl rfl hc11) rfl rfl (oq_con (r := (.int .i64 r8)) Tryz.call25 rfl rfl (fun w' s => ⟨_, (lastIdx_con s6 [10]  w' H1 s.hold hG r8 e20)⟩)) ?_
        refine QL.quiet (Runs.yes rfl rfl rfl hc11) rfl rfl (OV.quiet (ov_add rfl rfl rfl)) ?_
        obtain ⟨s7, e21, hm⟩ := bind_some hm
        refine QL.quiet (Runs.yes rfl rfl rfl hc11) rfl rfl (OV.quiet (ov_slice_string_to Tryz.underlying9 rfl rfl rfl e21)) ?_
        refine QL.quiet (Runs.yes rfl rfl rfl hc11) rfl rfl (OV.quiet (ov_seql rfl rfl rfl)) ?_
        refine QL.quiet (Runs.free rfl) rfl rfl (OV.quiet (ov_pick_true rfl (guard_eq rfl hc11) rfl)) ?_
        exact QL.nil (Sub.cons' rfl (congrArg Value.bool (Option.some.inj hm)) (Sub.skip rfl (Sub.skip rfl (Sub.skip rfl (Sub.skip rfl (Sub.skip rfl (Sub.skip rfl (Sub.skip rfl (Sub.skip rfl (Sub.skip rfl (Sub.skip rfl (Sub.skip rfl (Sub.refl _)))))))))))))
       ·
        skip
        replace hm := ite_f hc11 e17
        refine QL.idle (Idle.no rfl rfl rfl hc11) rfl rfl ?_
        refine QL.idle (Idle.no rfl rfl rfl hc11) rfl rfl ?_
        refine QL.idle (Idle.no rfl rfl rfl hc11) rfl rfl ?_
        refine QL.idle (Idle.no rfl rfl rfl hc11) rfl rfl ?_
        refine QL.idle (Idle.no rfl rfl rfl hc11) rfl rfl ?_
        refine QL.idle (Idle.no rfl rfl rfl hc11) rfl rfl ?_
        refine QL.idle (Idle.no rfl rfl rfl hc11) rfl rfl ?_
        refine QL.idle (Idle.no rfl rfl rfl hc11) rfl rfl ?_
        refine QL.idle (Idle.no rfl rfl rfl hc11) rfl rfl ?_
        refine QL.idle (Idle.no rfl rfl rfl hc11) rfl rfl ?_
        refine QL.quiet (Runs.free rfl) rfl rfl (OV.quiet (ov_pick_false rfl (guard_eq rfl hc11) rfl)) ?_
        exact QL.nil (Sub.cons' rfl (congrArg Value.bool (Option.some.inj hm)) (Sub.skip rfl (Sub.skip rfl (Sub.skip rfl (Sub.skip rfl (Sub.skip rfl (Sub.skip rfl (Sub.skip rfl (Sub.skip rfl (Sub.skip rfl (Sub.skip rfl (Sub.skip rfl (Sub.refl _)))))))))))))
      refine QL.quiet (Runs.free rfl) rfl rfl (OV.quiet (ov_move rfl rfl)) ?_
      obtain ⟨c4, e22, hm⟩ := bind_some hm
      refine QL.part_bool 2 96 (x := c4) ?_ ?_
      ·
       rcases Bool.eq_false_or_eq_true c3 with hc12 | hc12
       ·
        skip
        replace hm := ite_t hc12 e22
        obtain ⟨r9, e23, hm⟩ := bind_some hm
        refine QL.quiet (Runs.yes rfl rfl rfl hc12) rfl rfl (oq_con (r := (.bool r9)) Tryz.call8 rfl rfl (fun w' s => ⟨_, (law58_awake_con   w' H1 s.hold hG r9 e23)⟩)) ?_
        refine QL.quiet (Runs.free rfl) rfl rfl (OV.quiet (ov_pick_true rfl (guard_eq rfl hc12) rfl)) ?_
        exact QL.nil (Sub.cons' rfl (congrArg Value.bool (Option.some.inj hm)) (Sub.skip rfl (Sub.skip rfl (Sub.refl _))))
       ·
        skip
        replace hm := ite_f hc12 e22
        refine QL.idle (Idle.no rfl rfl rfl hc12) rfl rfl ?_
        refine QL.quiet (Runs.free rfl) rfl rfl (OV.quiet (ov_pick_false rfl (guard_eq rfl hc12) rfl)) ?_
        exact QL.nil (Sub.cons' rfl (congrArg Value.bool (Option.some.inj hm)) (Sub.skip rfl (Sub.skip rfl (Sub.refl _))))
      refine QL.quiet (Runs.free rfl) rfl rfl (OV.quiet (ov_assign rfl rfl)) ?_
      refine QL.nil ?_
      refine then_normal (WP.ret ?_)
      obtain rfl := Option.some.inj hm
      refine retQ_ret Tryz.results7 (Res.tmp rfl Res.nil) rfl (fun w' s => ⟨s.below, ?_⟩)
      exact rfl
     exact ALs.nil
    exact ALs.nil

end Go.Proofs.YtpigfknmlmeihaaGreatDoor.W
