/- The walks. Written by our own program gen.py; Lean checks it. -/
import Derived.Test.YtpigfknmlmeihaaDoorPlain
import Derived.Test.YtpigfknmlmeihaaDoorEqs
import Derived.Test.YtpigfknmlmeihaaDoorProg
import Derived.Test.YtpigfknmlmeihaaDoorExt
import Derived.Test.YtpigfknmlmeihaaDoorClone
import Derived.Test.YtpigfknmlmeihaaDoorInsert
import Derived.Test.YtpigfknmlmeihaaDoorBuild
import Derived.Test.YtpigfknmlmeihaaDoorWalk4
set_option linter.unusedVariables false
set_option maxRecDepth 100000
set_option maxHeartbeats 4000000
namespace Go.Proofs.YtpigfknmlmeihaaDoor.W
open Go Go.RowKit
theorem slices_Equal_stringstring_con (p_s1 : (List (List UInt8))) (p_s2 : (List (List UInt8))) (ao1 : Option Addr) (cap1 : Nat) (ao2 : Option Addr) (cap2 : Nat) (w : World) (H : Heap) (hH : Le H (hp w)) (h1 : SL H encStr ao1 p_s1) (hc1 : p_s1.length ≤ cap1) (h2 : SL H encStr ao2 p_s2) (hc2 : p_s2.length ≤ cap2) (hG : Glob H) (r : Bool) (hm : slices_Equal_stringstring p_s1 p_s2 = some r) :
    Con Tryd.prog 22 [(.slice ao1 p_s1.length cap1), (.slice ao2 p_s2.length cap2)] w H (fun v _ => v = (.bool r)) := by
  unfold slices_Equal_stringstring at hm
  refine con_of hH Tryd.func22 rfl 26 Tryd.ntmps22 rfl ?_
  refine WP.seq ?_
  refine WP.region ?_
  refine WL.quiet (Runs.free rfl) rfl rfl (OV.quiet (ov_assign rfl rfl)) ?_
  refine WL.nil ?_
  refine then_normal ?_
  refine WP.seq ?_
  refine WP.seq ?_
  refine WP.region ?_
  refine WL.quiet (Runs.free rfl) rfl rfl (OV.quiet (ov_move rfl rfl)) ?_
  refine WL.quiet (Runs.free rfl) rfl rfl (OV.quiet (ov_len_slice Tryd.underlying45 rfl rfl)) ?_
  refine WL.quiet (Runs.free rfl) rfl rfl (OV.quiet (ov_move rfl rfl)) ?_
  refine WL.quiet (Runs.free rfl) rfl rfl (OV.quiet (ov_len_slice Tryd.underlying45 rfl rfl)) ?_
  refine WL.quiet (Runs.free rfl) rfl rfl (OV.quiet (ov_neq rfl rfl rfl)) ?_
  refine WL.nil ?_
  refine then_normal ?_
  refine WP.cond rfl (fun hc3 => ?_) (fun hc3 => ?_)
  · replace hm := ite_t hc3 hm
    refine WP.seq ?_
    refine WP.region ?_
    refine WL.quiet (Runs.free rfl) rfl rfl (OV.quiet (ov_assign rfl rfl)) ?_
    refine WL.nil ?_
    refine then_normal ?_
    refine WP.ret ?_
    refine then_ret ?_
    obtain rfl := Option.some.inj hm
    refine retQ_ret Tryd.results22 (Res.tmp rfl Res.nil) rfl (fun w' s => ⟨s.below, ?_⟩)
    exact rfl
  · replace hm := ite_f hc3 hm
    refine WP.skip ?_
    refine then_normal ?_
    obtain ⟨k1, hk1, hm⟩ := joinK_some hm
    refine WP.seq_join (fun g' S' => Sub [] g' ∧ (∀ w', S' w' → St w H [] H w') ∧ k1 = some r) ?_ ?_
    · skip
      refine WP.seq ?_
      refine WP.region ?_
      refine WL.quiet (Runs.free rfl) rfl rfl (OV.quiet (ov_move rfl rfl)) ?_
      refine WL.quiet (Runs.free rfl) rfl rfl (OV.quiet (ov_len_slice Tryd.underlying45 rfl rfl)) ?_
      refine WL.quiet (Runs.free rfl) rfl rfl (OV.quiet (ov_move rfl rfl)) ?_
      refine WL.nil ?_
      refine then_normal ?_
      refine WP.block ?_
      refine WP.loop (fun m1 g' S' => ∃ (i1 : Int), Sub [(0, (.slice ao1 p_s1.length cap1)), (1, (.slice ao2 p_s2.length cap2)), (12, (.int .i64 (p_s1.length : Int))), (13, (.int .i64 i1))] g' ∧ (∀ w', S' w' → St w H [] H w') ∧ slices_Equal_stringstring_loop1 p_s1 p_s2 k1 m1 i1 = some r) ((Int.toNat ((p_s1.length : Int) - 0) + 1)) ⟨0, (Sub.cons rfl (Sub.cons rfl (Sub.cons rfl (Sub.cons rfl (Sub.nil _))))), fun w' s => s, hm⟩ ?_ ?_
      · rintro g' S' ⟨_, _, _, hm⟩
        exact none_some hm
      · rintro m1 g' S' ⟨i1, hsub1, hS1, hm⟩
        refine WP.sub hsub1 (WP.weaken hS1 ?_)
        rw [slices_Equal_stringstring_loop1] at hm
        refine WP.seq ?_
        refine WP.region ?_
        refine WL.quiet (Runs.free rfl) rfl rfl (OV.quiet (ov_lss rfl rfl rfl)) ?_
        refine WL.nil ?_
        refine then_normal ?_
        refine WP.seq ?_
        refine WP.cond rfl (fun hc4 => ?_) (fun hc4 => ?_)
        · replace hm := ite_t hc4 hm
          refine WP.skip ?_
          refine then_normal ?_
          refine WP.seq ?_
          refine WP.block ?_
          refine WP.seq ?_
          refine WP.region ?_
          refine WL.quiet (Runs.free rfl) rfl rfl (OV.quiet (ov_move rfl rfl)) ?_
          refine WL.quiet (Runs.free rfl) rfl rfl (OV.quiet (ov_assign rfl rfl)) ?_
          refine WL.nil ?_
          refine then_normal ?_
          refine WP.seq ?_
          refine WP.region_draws (by kernel_rfl) (by kernel_rfl) (fun _ s => s.drew) ?_
          refine QL.quiet (Runs.free rfl) rfl rfl (OV.quiet (ov_move rfl rfl)) ?_
          refine QL.quiet (Runs.free rfl) rfl rfl (OV.quiet (ov_move rfl rfl)) ?_
          obtain ⟨x1, e1, hm⟩ := bind_some hm
          obtain ⟨h3, h4, h5, cs1, h6, h7⟩ := h1.get e1 (by decide)
          obtain rfl : cs1 = [(mkS x1)] := h6
          refine QL.quiet (Runs.free rfl) rfl rfl (OV.quiet (ov_indexAddr Tryd.underlying45 Tryd.sizeOf9 rfl rfl rfl h3 h4 h5)) ?_
          refine QL.quiet (Runs.free rfl) rfl rfl (OV.quiet (ov_load_elem (v := (mkS x1)) Tryd.isAgg9 rfl rfl h7)) ?_
          refine QL.quiet (Runs.free rfl) rfl rfl (OV.quiet (ov_move rfl rfl)) ?_
          refine QL.quiet (Runs.free rfl) rfl rfl (OV.quiet (ov_move rfl rfl)) ?_
          obtain ⟨x2, e2, hm⟩ := bind_some hm
          obtain ⟨h8, h9, h10, cs2, h11, h12⟩ := h2.get e2 (by decide)
          obtain rfl : cs2 = [(mkS x2)] := h11
          refine QL.quiet (Runs.free rfl) rfl rfl (OV.quiet (ov_indexAddr Tryd.underlying45 Tryd.sizeOf9 rfl rfl rfl h8 h9 h10)) ?_
          refine QL.quiet (Runs.free rfl) rfl rfl (OV.quiet (ov_load_elem (v := (mkS x2)) Tryd.isAgg9 rfl rfl h12)) ?_
          refine QL.quiet (Runs.free rfl) rfl rfl (OV.quiet (ov_sneq rfl rfl rfl)) ?_
          refine QL.nil ?_
          refine then_normal ?_
          refine WP.cond rfl (fun hc5 => ?_) (fun hc5 => ?_)
          · replace hm := ite_t hc5 hm
            refine WP.seq ?_
            refine WP.region ?_
            refine WL.quiet (Runs.free rfl) rfl rfl (OV.quiet (ov_assign rfl rfl)) ?_
            refine WL.nil ?_
            refine then_normal ?_
            refine WP.ret ?_
            refine block_ret ?_
            refine then_ret ?_
            refine then_ret ?_
            refine block_ret ?_
            refine then_ret ?_
            obtain rfl := Option.some.inj hm
            refine retQ_ret Tryd.results22 (Res.tmp rfl Res.nil) rfl (fun w' s => ⟨s.below, ?_⟩)
            exact rfl
          · replace hm := ite_f hc5 hm
            refine WP.skip ?_
            refine block_normal ?_
            refine then_normal ?_
            refine WP.region ?_
            refine WL.quiet (Runs.free rfl) rfl rfl (OV.quiet (ov_add rfl rfl rfl)) ?_
            refine WL.quiet (Runs.free rfl) rfl rfl (OV.quiet (ov_move rfl rfl)) ?_
            refine WL.nil ?_
            refine then_normal ?_
            exact ⟨(IntKind.wrap .i64 (i1 + 1)), (Sub.cons rfl (Sub.cons rfl (Sub.cons rfl (Sub.cons rfl (Sub.nil _))))), fun w' s => s, hm⟩
        · replace hm := ite_f hc4 hm
          refine WP.exit ?_
          refine then_exit ?_
          refine then_exit ?_
          refine block_here ?_
          refine then_normal ?_
          exact ⟨(Sub.nil _), fun w' s => s, hm⟩
    · rintro g' S' ⟨hsub2, hS2, hm⟩
      refine WP.sub hsub2 (WP.weaken hS2 ?_)
      replace hm := hk1.symm.trans hm
      refine WP.seq ?_
      refine WP.region ?_
      refine WL.quiet (Runs.free rfl) rfl rfl (OV.quiet (ov_assign rfl rfl)) ?_
      refine WL.nil ?_
      refine then_normal ?_
      refine WP.ret ?_
      obtain rfl := Option.some.inj hm
      refine retQ_ret Tryd.results22 (Res.tmp rfl Res.nil) rfl (fun w' s => ⟨s.below, ?_⟩)
      exact rfl

theorem law58_JournalAsks_con (p_m : Machine) (p_name : (List UInt8)) (p_strokes : Int) (ao1 : Option Addr) (cap1 : Nat) (w : World) (H : Heap) (hH : Le H (hp w)) (h1 : SL H encItem ao1 p_m.items) (hc1 : p_m.items.length ≤ cap1) (hG : Glob H) (r : Bool) (hm : law58_JournalAsks p_m p_name p_strokes = some r) :
    Con Tryd.prog 4 [(.agg #[(.slice ao1 p_m.items.length cap1), (.int .i64 p_m.cycles)]), (mkS p_name), (.int .i64 p_strokes)] w H (fun v _ => v = (.bool r)) := by
  unfold law58_JournalAsks at hm
  refine con_of hH Tryd.func4 rfl 67 Tryd.ntmps4 rfl ?_
  refine WP.seq ?_
  refine WP.region ?_
  refine WL.step (Runs.free rfl) rfl rfl (os_box (cs := [(.slice ao1 p_m.items.length cap1), (.int .i64 p_m.cycles)]) rfl rfl rfl (fun b1 => ?_))
  refine WL.quiet (Runs.free rfl) rfl rfl (OV.quiet (ov_assign rfl rfl)) ?_
  refine WL.nil ?_
  refine then_normal ?_
  refine WP.seq ?_
  refine WP.seq ?_
  refine WP.region ?_
  refine WL.quiet (Runs.free rfl) rfl rfl (OV.quiet (ov_load_whole (i := 0) Tryd.isAgg24 Tryd.sizeOf24 rfl rfl rfl rfl)) ?_
  refine WL.quiet (Runs.free rfl) rfl rfl (OV.quiet (ov_move rfl rfl)) ?_
  obtain ⟨r1, e1, hm⟩ := bind_some hm
  refine WL.quiet (Runs.free rfl) rfl rfl (oq_con (r := (.bool r1)) Tryd.call8 rfl rfl (fun w' s => ⟨_, (law58_few_con p_m p_name ao1 cap1  w' H s.hold h1 hc1 hG r1 e1)⟩)) ?_
  refine WL.quiet (Runs.free rfl) rfl rfl (OV.quiet (ov_not rfl rfl)) ?_
  refine WL.nil ?_
  refine then_normal ?_
  refine WP.cond rfl (fun hc2 => ?_) (fun hc2 => ?_)
  · replace hm := ite_t hc2 hm
    refine WP.seq ?_
    refine WP.region ?_
    obtain ⟨r2, e2, hm⟩ := bind_some hm
    refine WL.quiet (Runs.free rfl) rfl rfl (oq_con (r := (.bool r2)) Tryd.call9 rfl rfl (fun w' s => ⟨_, (law58_awake_con   w' H s.hold hG r2 e2)⟩)) ?_
    refine WL.quiet (Runs.free rfl) rfl rfl (OV.quiet (ov_assign rfl rfl)) ?_
    refine WL.nil ?_
    refine then_normal ?_
    refine WP.ret ?_
    refine then_ret ?_
    obtain rfl := Option.some.inj hm
    refine retQ_ret Tryd.results4 (Res.tmp rfl Res.nil) rfl (fun w' s => ⟨s.below, ?_⟩)
    exact rfl
  · replace hm := ite_f hc2 hm
    refine WP.skip ?_
    refine then_normal ?_
    refine WP.seq ?_
    refine WP.region ?_
    refine WL.quiet (Runs.free rfl) rfl rfl (OV.quiet (ov_load_whole (i := 0) Tryd.isAgg24 Tryd.sizeOf24 rfl rfl rfl rfl)) ?_
    obtain ⟨r3, e3, hm⟩ := bind_some hm
    refine WL.step (Runs.free rfl) rfl rfl (os_con Tryd.call18 rfl rfl (fun w' s => (journal_Due_con p_m ao1 cap1  w' H s.hold h1 hc1 hG r3 e3)) (fun rr1 H1 hle1 hR1 => ?_))
    replace h1 := h1.mono hle1
    replace hG := hG.mono hle1
    obtain ⟨ao2, cap2, rfl, h2, hc3⟩ := hR1
    refine WL.quiet (Runs.free rfl) rfl rfl (OV.quiet (ov_move rfl rfl)) ?_
    refine WL.quiet (Runs.free rfl) rfl rfl (OV.quiet (ov_extract rfl rfl rfl)) ?_
    refine WL.quiet (Runs.free rfl) rfl rfl (OV.quiet (ov_extract rfl rfl rfl)) ?_
    refine WL.quiet (Runs.free rfl) rfl rfl (OV.quiet (ov_assign rfl rfl)) ?_
    refine WL.quiet (Runs.free rfl) rfl rfl (OV.quiet (ov_assign rfl rfl)) ?_
    refine WL.nil ?_
    refine then_normal ?_
    refine WP.seq ?_
    refine WP.region ?_
    refine WL.quiet (Runs.free rfl) rfl rfl (OV.quiet (ov_load_whole (i := 0) Tryd.isAgg24 Tryd.sizeOf24 rfl rfl rfl rfl)) ?_
    obtain ⟨r4, e4, hm⟩ := bind_some hm
    refine WL.step (Runs.free rfl) rfl rfl (os_con Tryd.call12 rfl rfl (fun w' s => (law58_own_con p_m ao1 cap1  w' H1 s.hold h1 hc1 hG r4 e4)) (fun rr2 H2 hle2 hR2 => ?_))
    replace h1 := h1.mono hle2
    replace h2 := h2.mono hle2
    replace hG := hG.mono hle2
    obtain ⟨ao3, cap3, rfl, h3, hc4⟩ := hR2
    obtain ⟨r5, e5, hm⟩ := bind_some hm
    refine WL.step (Runs.free rfl) rfl rfl (os_con Tryd.call19 rfl rfl (fun w' s => (ref58_Due_con r4 ao3 cap3  w' H2 s.hold h3 hc4 hG r5 e5)) (fun rr3 H3 hle3 hR3 => ?_))
    replace h1 := h1.mono hle3
    replace h2 := h2.mono hle3
    replace h3 := h3.mono hle3
    replace hG := hG.mono hle3
    obtain ⟨ao4, cap4, rfl, h4, hc5⟩ := hR3
    refine WL.quiet (Runs.free rfl) rfl rfl (OV.quiet (ov_move rfl rfl)) ?_
    refine WL.quiet (Runs.free rfl) rfl rfl (OV.quiet (ov_extract rfl rfl rfl)) ?_
    refine WL.quiet (Runs.free rfl) rfl rfl (OV.quiet (ov_extract rfl rfl rfl)) ?_
    refine WL.quiet (Runs.free rfl) rfl rfl (OV.quiet (ov_assign rfl rfl)) ?_
    refine WL.quiet (Runs.free rfl) rfl rfl (OV.quiet (ov_assign rfl rfl)) ?_
    refine WL.nil ?_
    refine then_normal ?_
    refine WP.seq ?_
    refine WP.region ?_
    refine WL.quiet (Runs.free rfl) rfl rfl (OV.quiet (ov_load_whole (i := 0) Tryd.isAgg24 Tryd.sizeOf24 rfl rfl rfl rfl)) ?_
    refine WL.quiet (Runs.free rfl) rfl rfl (OV.quiet (ov_move rfl rfl)) ?_
    refine WL.quiet (Runs.free rfl) rfl rfl (OV.quiet (ov_move rfl rfl)) ?_
    obtain ⟨r6, e6, hm⟩ := bind_some hm
    refine WL.quiet (Runs.free rfl) rfl rfl (oq_con (r := (.tuple #[(.int .i64 r6.1), (.int .i64 r6.2)])) Tryd.call20 rfl rfl (fun w' s => ⟨_, (journal_Left_con p_m p_name p_strokes ao1 cap1  w' H3 s.hold h1 hc1 hG r6 e6)⟩)) ?_
    refine WL.quiet (Runs.free rfl) rfl rfl (OV.quiet (ov_move rfl rfl)) ?_
    refine WL.quiet (Runs.free rfl) rfl rfl (OV.quiet (ov_extract rfl rfl rfl)) ?_
    refine WL.quiet (Runs.free rfl) rfl rfl (OV.quiet (ov_extract rfl rfl rfl)) ?_
    refine WL.quiet (Runs.free rfl) rfl rfl (OV.quiet (ov_assign rfl rfl)) ?_
    refine WL.quiet (Runs.free rfl) rfl rfl (OV.quiet (ov_assign rfl rfl)) ?_
    refine WL.nil ?_
    refine then_normal ?_
    refine WP.seq ?_
    refine WP.region ?_
    refine WL.quiet (Runs.free rfl) rfl rfl (OV.quiet (ov_load_whole (i := 0) Tryd.isAgg24 Tryd.sizeOf24 rfl rfl rfl rfl)) ?_
    obtain ⟨r7, e7, hm⟩ := bind_some hm
    refine WL.step (Runs.free rfl) rfl rfl (os_con Tryd.call12 rfl rfl (fun w' s => (law58_own_con p_m ao1 cap1  w' H3 s.hold h1 hc1 hG r7 e7)) (fun rr4 H4 hle4 hR4 => ?_))
    replace h1 := h1.mono hle4
    replace h2 := h2.mono hle4
    replace h3 := h3.mono hle4
    replace h4 := h4.mono hle4
    replace hG := hG.mono hle4
    obtain ⟨ao5, cap5, rfl, h5, hc6⟩ := hR4
    refine WL.quiet (Runs.free rfl) rfl rfl (OV.quiet (ov_move rfl rfl)) ?_
    refine WL.quiet (Runs.free rfl) rfl rfl (OV.quiet (ov_move rfl rfl)) ?_
    obtain ⟨r8, e8, hm⟩ := bind_some hm
    refine WL.quiet (Runs.free rfl) rfl rfl (oq_con (r := (.tuple #[(.int .i64 r8.1), (.int .i64 r8.2)])) Tryd.call21 rfl rfl (fun w' s => ⟨_, (ref58_Left_con r7 p_name p_strokes ao5 cap5  w' H4 s.hold h5 hc6 hG r8 e8)⟩)) ?_
    refine WL.quiet (Runs.free rfl) rfl rfl (OV.quiet (ov_move rfl rfl)) ?_
    refine WL.quiet (Runs.free rfl) rfl rfl (OV.quiet (ov_extract rfl rfl rfl)) ?_
    refine WL.quiet (Runs.free rfl) rfl rfl (OV.quiet (ov_extract rfl rfl rfl)) ?_
    refine WL.quiet (Runs.free rfl) rfl rfl (OV.quiet (ov_assign rfl rfl)) ?_
    refine WL.quiet (Runs.free rfl) rfl rfl (OV.quiet (ov_assign rfl rfl)) ?_
    refine WL.nil ?_
    refine then_normal ?_
    refine WP.seq ?_
    refine WP.region ?_
    obtain ⟨r9, e9, hm⟩ := bind_some hm
    refine WL.quiet (Runs.free rfl) rfl rfl (oq_con (r := (.bool r9)) Tryd.call9 rfl rfl (fun w' s => ⟨_, (law58_awake_con   w' H4 s.hold hG r9 e9)⟩)) ?_
    refine WL.quiet (Runs.free rfl) rfl rfl (OV.quiet (ov_move rfl rfl)) ?_
    obtain ⟨c1, e10, hm⟩ := bind_some hm
    refine WL.cut_bool 4 51 (x := c1) ?_ ?_
    · rcases Bool.eq_false_or_eq_true r9 with hc7 | hc7
      · skip
        replace hm := ite_t hc7 e10
        refine WL.quiet (Runs.yes rfl rfl rfl hc7) rfl rfl (OV.quiet (ov_move rfl rfl)) ?_
        refine WL.quiet (Runs.yes rfl rfl rfl hc7) rfl rfl (OV.quiet (ov_move rfl rfl)) ?_
        obtain ⟨r10, e11, hm⟩ := bind_some hm
        refine WL.quiet (Runs.yes rfl rfl rfl hc7) rfl rfl (oq_con (r := (.bool r10)) Tryd.call22 rfl rfl (fun w' s => ⟨_, (slices_Equal_stringstring_con r3.1 r5.1 ao2 cap2 ao4 cap4  w' H4 s.hold h2 hc3 h4 hc5 hG r10 e11)⟩)) ?_
        refine WL.quiet (Runs.free rfl) rfl rfl (OV.quiet (ov_pick_true rfl (guard_eq rfl hc7) rfl)) ?_
        exact WL.nil ⟨Sub.cons' rfl (congrArg Value.bool (Option.some.inj hm)) (Sub.skip rfl (Sub.skip rfl (Sub.skip rfl (Sub.skip rfl (Sub.refl _))))), fun _ s => s⟩
      · skip
        replace hm := ite_f hc7 e10
        refine WL.idle (Idle.no rfl rfl rfl hc7) rfl rfl ?_
        refine WL.idle (Idle.no rfl rfl rfl hc7) rfl rfl ?_
        refine WL.idle (Idle.no rfl rfl rfl hc7) rfl rfl ?_
        refine WL.quiet (Runs.free rfl) rfl rfl (OV.quiet (ov_pick_false rfl (guard_eq rfl hc7) rfl)) ?_
        exact WL.nil ⟨Sub.cons' rfl (congrArg Value.bool (Option.some.inj hm)) (Sub.skip rfl (Sub.skip rfl (Sub.skip rfl (Sub.skip rfl (Sub.refl _))))), fun _ s => s⟩
    refine WL.quiet (Runs.free rfl) rfl rfl (OV.quiet (ov_move rfl rfl)) ?_
    refine WL.cut_bool 4 56 (x := (c1 && (r3.2 == r5.2))) ?_ ?_
    · rcases Bool.eq_false_or_eq_true c1 with hc8 | hc8
      · skip
        refine WL.quiet (Runs.yes rfl rfl rfl hc8) rfl rfl (OV.quiet (ov_move rfl rfl)) ?_
        refine WL.quiet (Runs.yes rfl rfl rfl hc8) rfl rfl (OV.quiet (ov_move rfl rfl)) ?_
        refine WL.quiet (Runs.yes rfl rfl rfl hc8) rfl rfl (OV.quiet (ov_eql rfl rfl rfl)) ?_
        refine WL.quiet (Runs.free rfl) rfl rfl (OV.quiet (ov_pick_true rfl (guard_eq rfl hc8) rfl)) ?_
        exact WL.nil ⟨Sub.cons' rfl (congrArg Value.bool (by rw [hc8]; rfl)) (Sub.skip rfl (Sub.skip rfl (Sub.skip rfl (Sub.skip rfl (Sub.refl _))))), fun _ s => s⟩
      · skip
        refine WL.idle (Idle.no rfl rfl rfl hc8) rfl rfl ?_
        refine WL.idle (Idle.no rfl rfl rfl hc8) rfl rfl ?_
        refine WL.idle (Idle.no rfl rfl rfl hc8) rfl rfl ?_
        refine WL.quiet (Runs.free rfl) rfl rfl (OV.quiet (ov_pick_false rfl (guard_eq rfl hc8) rfl)) ?_
        exact WL.nil ⟨Sub.cons' rfl (congrArg Value.bool (by rw [hc8]; rfl)) (Sub.skip rfl (Sub.skip rfl (Sub.skip rfl (Sub.skip rfl (Sub.refl _))))), fun _ s => s⟩
    refine WL.quiet (Runs.free rfl) rfl rfl (OV.quiet (ov_move rfl rfl)) ?_
    refine WL.cut_bool 4 61 (x := ((c1 && (r3.2 == r5.2)) && (r6.1 == r8.1))) ?_ ?_
    · rcases Bool.eq_false_or_eq_true (c1 && (r3.2 == r5.2)) with hc9 | hc9
      · skip
        refine WL.quiet (Runs.yes rfl rfl rfl hc9) rfl rfl (OV.quiet (ov_move rfl rfl)) ?_
        refine WL.quiet (Runs.yes rfl rfl rfl hc9) rfl rfl (OV.quiet (ov_move rfl rfl)) ?_
        refine WL.quiet (Runs.yes rfl rfl rfl hc9) rfl rfl (OV.quiet (ov_eql rfl rfl rfl)) ?_
        refine WL.quiet (Runs.free rfl) rfl rfl (OV.quiet (ov_pick_true rfl (guard_eq rfl hc9) rfl)) ?_
        exact WL.nil ⟨Sub.cons' rfl (congrArg Value.bool (by rw [hc9]; rfl)) (Sub.skip rfl (Sub.skip rfl (Sub.skip rfl (Sub.skip rfl (Sub.refl _))))), fun _ s => s⟩
      · skip
        refine WL.idle (Idle.no rfl rfl rfl hc9) rfl rfl ?_
        refine WL.idle (Idle.no rfl rfl rfl hc9) rfl rfl ?_
        refine WL.idle (Idle.no rfl rfl rfl hc9) rfl rfl ?_
        refine WL.quiet (Runs.free rfl) rfl rfl (OV.quiet (ov_pick_false rfl (guard_eq rfl hc9) rfl)) ?_
        exact WL.nil ⟨Sub.cons' rfl (congrArg Value.bool (by rw [hc9]; rfl)) (Sub.skip rfl (Sub.skip rfl (Sub.skip rfl (Sub.skip rfl (Sub.refl _))))), fun _ s => s⟩
    refine WL.quiet (Runs.free rfl) rfl rfl (OV.quiet (ov_move rfl rfl)) ?_
    refine WL.cut_bool 4 66 (x := (((c1 && (r3.2 == r5.2)) && (r6.1 == r8.1)) && (r6.2 == r8.2))) ?_ ?_
    · rcases Bool.eq_false_or_eq_true ((c1 && (r3.2 == r5.2)) && (r6.1 == r8.1)) with hc10 | hc10
      · skip
        refine WL.quiet (Runs.yes rfl rfl rfl hc10) rfl rfl (OV.quiet (ov_move rfl rfl)) ?_
        refine WL.quiet (Runs.yes rfl rfl rfl hc10) rfl rfl (OV.quiet (ov_move rfl rfl)) ?_
        refine WL.quiet (Runs.yes rfl rfl rfl hc10) rfl rfl (OV.quiet (ov_eql rfl rfl rfl)) ?_
        refine WL.quiet (Runs.free rfl) rfl rfl (OV.quiet (ov_pick_true rfl (guard_eq rfl hc10) rfl)) ?_
        exact WL.nil ⟨Sub.cons' rfl (congrArg Value.bool (by rw [hc10]; rfl)) (Sub.skip rfl (Sub.skip rfl (Sub.skip rfl (Sub.skip rfl (Sub.refl _))))), fun _ s => s⟩
      · skip
        refine WL.idle (Idle.no rfl rfl rfl hc10) rfl rfl ?_
        refine WL.idle (Idle.no rfl rfl rfl hc10) rfl rfl ?_
        refine WL.idle (Idle.no rfl rfl rfl hc10) rfl rfl ?_
        refine WL.quiet (Runs.free rfl) rfl rfl (OV.quiet (ov_pick_false rfl (guard_eq rfl hc10) rfl)) ?_
        exact WL.nil ⟨Sub.cons' rfl (congrArg Value.bool (by rw [hc10]; rfl)) (Sub.skip rfl (Sub.skip rfl (Sub.skip rfl (Sub.skip rfl (Sub.refl _))))), fun _ s => s⟩
    refine WL.quiet (Runs.free rfl) rfl rfl (OV.quiet (ov_assign rfl rfl)) ?_
    refine WL.nil ?_
    refine then_normal ?_
    refine WP.ret ?_
    obtain rfl := Option.some.inj hm
    refine retQ_ret Tryd.results4 (Res.tmp rfl Res.nil) rfl (fun w' s => ⟨s.below, ?_⟩)
    exact rfl

theorem ref58_FewEntries_con (p_l : (List Entry)) (ao1 : Option Addr) (cap1 : Nat) (w : World) (H : Heap) (hH : Le H (hp w)) (h1 : SL H encEntry ao1 p_l) (hc1 : p_l.length ≤ cap1) (hG : Glob H) (r : Bool) (hm : ref58_FewEntries p_l = some r) :
    Con Tryd.prog 23 [(.slice ao1 p_l.length cap1)] w H (fun v _ => v = (.bool r)) := by
  unfold ref58_FewEntries at hm
  refine con_of hH Tryd.func23 rfl 30 Tryd.ntmps23 rfl ?_
  refine WP.seq ?_
  refine WP.region ?_
  refine WL.quiet (Runs.free rfl) rfl rfl (OV.quiet (ov_assign rfl rfl)) ?_
  refine WL.nil ?_
  refine then_normal ?_
  refine WP.seq ?_
  refine WP.seq ?_
  refine WP.region ?_
  refine WL.quiet (Runs.free rfl) rfl rfl (OV.quiet (ov_move rfl rfl)) ?_
  refine WL.quiet (Runs.free rfl) rfl rfl (OV.quiet (ov_len_slice Tryd.underlying58 rfl rfl)) ?_
  refine WL.quiet (Runs.free rfl) rfl rfl (OV.quiet (ov_gtr rfl rfl rfl)) ?_
  refine WL.quiet (Runs.free rfl) rfl rfl (OV.quiet (ov_move rfl rfl)) ?_
  refine WL.cut_bool 4 11 (x := ((decide ((p_l.length : Int) > 20)) && (decide ((p_l.length : Int) ≤ 4096)))) ?_ ?_
  · rcases Bool.eq_false_or_eq_true (decide ((p_l.length : Int) > 20)) with hc2 | hc2
    · skip
      refine WL.quiet (Runs.yes rfl rfl rfl hc2) rfl rfl (OV.quiet (ov_move rfl rfl)) ?_
      refine WL.quiet (Runs.yes rfl rfl rfl hc2) rfl rfl (OV.quiet (ov_len_slice Tryd.underlying58 rfl rfl)) ?_
      refine WL.quiet (Runs.yes rfl rfl rfl hc2) rfl rfl (OV.quiet (ov_leq rfl rfl rfl)) ?_
      refine WL.quiet (Runs.free rfl) rfl rfl (OV.quiet (ov_pick_true rfl (guard_eq rfl hc2) rfl)) ?_
      exact WL.nil ⟨Sub.cons' rfl (congrArg Value.bool (by rw [hc2]; rfl)) (Sub.skip rfl (Sub.skip rfl (Sub.skip rfl (Sub.skip rfl (Sub.refl _))))), fun _ s => s⟩
    · skip
      refine WL.idle (Idle.no rfl rfl rfl hc2) rfl rfl ?_
      refine WL.idle (Idle.no rfl rfl rfl hc2) rfl rfl ?_
      refine WL.idle (Idle.no rfl rfl rfl hc2) rfl rfl ?_
      refine WL.quiet (Runs.free rfl) rfl rfl (OV.quiet (ov_pick_false rfl (guard_eq rfl hc2) rfl)) ?_
      exact WL.nil ⟨Sub.cons' rfl (congrArg Value.bool (by rw [hc2]; rfl)) (Sub.skip rfl (Sub.skip rfl (Sub.skip rfl (Sub.skip rfl (Sub.refl _))))), fun _ s => s⟩
  refine WL.quiet (Runs.free rfl) rfl rfl (OV.quiet (ov_move rfl rfl)) ?_
  refine WL.cut_bool 4 16 (x := (((decide ((p_l.length : Int) > 20)) && (decide ((p_l.length : Int) ≤ 4096))) || (decide ((p_l.length : Int) > 8192)))) ?_ ?_
  · rcases Bool.eq_false_or_eq_true ((decide ((p_l.length : Int) > 20)) && (decide ((p_l.length : Int) ≤ 4096))) with hc3 | hc3
    · skip
      refine WL.idle (Idle.no rfl rfl rfl hc3) rfl rfl ?_
      refine WL.idle (Idle.no rfl rfl rfl hc3) rfl rfl ?_
      refine WL.idle (Idle.no rfl rfl rfl hc3) rfl rfl ?_
      refine WL.quiet (Runs.free rfl) rfl rfl (OV.quiet (ov_pick_true rfl (guard_eq rfl hc3) rfl)) ?_
      exact WL.nil ⟨Sub.cons' rfl (congrArg Value.bool (by rw [hc3]; rfl)) (Sub.skip rfl (Sub.skip rfl (Sub.skip rfl (Sub.skip rfl (Sub.refl _))))), fun _ s => s⟩
    · skip
      refine WL.quiet (Runs.yes rfl rfl rfl hc3) rfl rfl (OV.quiet (ov_move rfl rfl)) ?_
      refine WL.quiet (Runs.yes rfl rfl rfl hc3) rfl rfl (OV.quiet (ov_len_slice Tryd.underlying58 rfl rfl)) ?_
      refine WL.quiet (Runs.yes rfl rfl rfl hc3) rfl rfl (OV.quiet (ov_gtr rfl rfl rfl)) ?_
      refine WL.quiet (Runs.free rfl) rfl rfl (OV.quiet (ov_pick_false rfl (guard_eq rfl hc3) rfl)) ?_
      exact WL.nil ⟨Sub.cons' rfl (congrArg Value.bool (by rw [hc3]; rfl)) (Sub.skip rfl (Sub.skip rfl (Sub.skip rfl (Sub.skip rfl (Sub.refl _))))), fun _ s => s⟩
  refine WL.nil ?_
  refine then_normal ?_
  refine WP.cond rfl (fun hc4 => ?_) (fun hc4 => ?_)
  · replace hm := ite_t hc4 hm
    refine WP.seq ?_
    refine WP.region ?_
    refine WL.quiet (Runs.free rfl) rfl rfl (OV.quiet (ov_assign rfl rfl)) ?_
    refine WL.nil ?_
    refine then_normal ?_
    refine WP.ret ?_
    refine then_ret ?_
    obtain rfl := Option.some.inj hm
    refine retQ_ret Tryd.results23 (Res.tmp rfl Res.nil) rfl (fun w' s => ⟨s.below, ?_⟩)
    exact rfl
  · replace hm := ite_f hc4 hm
    refine WP.skip ?_
    refine then_normal ?_
    obtain ⟨k1, hk1, hm⟩ := joinK_some hm
    refine WP.seq_join (fun g' S' => Sub [] g' ∧ (∀ w', S' w' → St w H [] H w') ∧ k1 = some r) ?_ ?_
    · skip
      refine WP.seq ?_
      refine WP.region ?_
      refine WL.quiet (Runs.free rfl) rfl rfl (OV.quiet (ov_assign rfl rfl)) ?_
      refine WL.nil ?_
      refine then_normal ?_
      refine WP.block ?_
      refine WP.loop (fun m1 g' S' => ∃ (i1 : Int), Sub [(0, (.slice ao1 p_l.length cap1)), (3, (.int .i64 i1))] g' ∧ (∀ w', S' w' → St w H [] H w') ∧ ref58_FewEntries_loop1 p_l k1 m1 i1 = some r) ((Int.toNat ((p_l.length : Int) - 0) + 1)) ⟨0, (Sub.cons rfl (Sub.cons rfl (Sub.nil _))), fun w' s => s, hm⟩ ?_ ?_
      · rintro g' S' ⟨_, _, _, hm⟩
        exact none_some hm
      · rintro m1 g' S' ⟨i1, hsub1, hS1, hm⟩
        refine WP.sub hsub1 (WP.weaken hS1 ?_)
        rw [ref58_FewEntries_loop1] at hm
        refine WP.seq ?_
        refine WP.seq ?_
        refine WP.region ?_
        refine WL.quiet (Runs.free rfl) rfl rfl (OV.quiet (ov_move rfl rfl)) ?_
        refine WL.quiet (Runs.free rfl) rfl rfl (OV.quiet (ov_move rfl rfl)) ?_
        refine WL.quiet (Runs.free rfl) rfl rfl (OV.quiet (ov_len_slice Tryd.underlying58 rfl rfl)) ?_
        refine WL.quiet (Runs.free rfl) rfl rfl (OV.quiet (ov_lss rfl rfl rfl)) ?_
        refine WL.nil ?_
        refine then_normal ?_
        refine WP.cond rfl (fun hc5 => ?_) (fun hc5 => ?_)
        · replace hm := ite_t hc5 hm
          refine WP.skip ?_
          refine then_normal ?_
          refine WP.seq ?_
          refine WP.block ?_
          refine WP.seq ?_
          refine WP.region ?_
          refine WL.quiet (Runs.free rfl) rfl rfl (OV.quiet (ov_move rfl rfl)) ?_
          refine WL.quiet (Runs.free rfl) rfl rfl (OV.quiet (ov_move rfl rfl)) ?_
          obtain ⟨x1, e1, hm⟩ := bind_some hm
          obtain ⟨h2, h3, h4, cs1, h5, h6⟩ := h1.get e1 (by decide)
          obtain rfl : cs1 = [(.int .i64 x1.kind), (mkS x1.name), (.int .i64 x1.count), (.int .i64 x1.strokes)] := h5
          refine WL.quiet (Runs.free rfl) rfl rfl (OV.quiet (ov_indexAddr Tryd.underlying58 Tryd.sizeOf38 rfl rfl rfl h2 h3 h4)) ?_
          refine WL.quiet (Runs.free rfl) rfl rfl (OV.quiet (ov_fieldAddrE Tryd.underlying38 rfl rfl rfl Tryd.sizeOf9 rfl rfl)) ?_
          refine WL.quiet (Runs.free rfl) rfl rfl (OV.quiet (ov_load_elem (v := (mkS x1.name)) Tryd.isAgg9 rfl rfl (h6.one (off := 1) rfl))) ?_
          refine WL.quiet (Runs.free rfl) rfl rfl (OV.quiet (ov_len_string Tryd.underlying9 rfl rfl)) ?_
          refine WL.quiet (Runs.free rfl) rfl rfl (OV.quiet (ov_gtr rfl rfl rfl)) ?_
          refine WL.nil ?_
          refine then_normal ?_
          refine WP.cond rfl (fun hc6 => ?_) (fun hc6 => ?_)
          · replace hm := ite_t hc6 hm
            refine WP.seq ?_
            refine WP.region ?_
            refine WL.quiet (Runs.free rfl) rfl rfl (OV.quiet (ov_assign rfl rfl)) ?_
            refine WL.nil ?_
            refine then_normal ?_
            refine WP.ret ?_
            refine block_ret ?_
            refine then_ret ?_
            refine then_ret ?_
            refine block_ret ?_
            refine then_ret ?_
            obtain rfl := Option.some.inj hm
            refine retQ_ret Tryd.results23 (Res.tmp rfl Res.nil) rfl (fun w' s => ⟨s.below, ?_⟩)
            exact rfl
          · replace hm := ite_f hc6 hm
            refine WP.skip ?_
            refine block_normal ?_
            refine then_normal ?_
            refine WP.region ?_
            refine WL.quiet (Runs.free rfl) rfl rfl (OV.quiet (ov_move rfl rfl)) ?_
            refine WL.quiet (Runs.free rfl) rfl rfl (OV.quiet (ov_add rfl rfl rfl)) ?_
            refine WL.quiet (Runs.free rfl) rfl rfl (OV.quiet (ov_assign rfl rfl)) ?_
            refine WL.nil ?_
            refine then_normal ?_
            exact ⟨(IntKind.wrap .i64 (i1 + 1)), (Sub.cons rfl (Sub.cons rfl (Sub.nil _))), fun w' s => s, hm⟩
        · replace hm := ite_f hc5 hm
          refine WP.exit ?_
          refine then_exit ?_
          refine then_exit ?_
          refine block_here ?_
          refine then_normal ?_
          exact ⟨(Sub.nil _), fun w' s => s, hm⟩
    · rintro g' S' ⟨hsub2, hS2, hm⟩
      refine WP.sub hsub2 (WP.weaken hS2 ?_)
      replace hm := hk1.symm.trans hm
      refine WP.seq ?_
      refine WP.region ?_
      refine WL.quiet (Runs.free rfl) rfl rfl (OV.quiet (ov_assign rfl rfl)) ?_
      refine WL.nil ?_
      refine then_normal ?_
      refine WP.ret ?_
      obtain rfl := Option.some.inj hm
      refine retQ_ret Tryd.results23 (Res.tmp rfl Res.nil) rfl (fun w' s => ⟨s.below, ?_⟩)
      exact rfl

theorem law58_entries_con (p_l : (List Entry)) (ao1 : Option Addr) (cap1 : Nat) (w : World) (H : Heap) (hH : Le H (hp w)) (h1 : SL H encEntry ao1 p_l) (hc1 : p_l.length ≤ cap1) (hG : Glob H) (r : (List Entry)) (hm : law58_entries p_l = some r) :
    Con Tryd.prog 24 [(.slice ao1 p_l.length cap1)] w H (fun v H' => ∃ (ao2 : Option Addr) (cap2 : Nat), v = (.slice ao2 r.length cap2) ∧ SL H' encEntry ao2 r ∧ r.length ≤ cap2) := by
  unfold law58_entries at hm
  refine con_of hH Tryd.func24 rfl 18 Tryd.ntmps24 rfl ?_
  refine WP.seq ?_
  refine WP.region ?_
  refine WL.quiet (Runs.free rfl) rfl rfl (OV.quiet (ov_assign rfl rfl)) ?_
  refine WL.nil ?_
  refine then_normal ?_
  refine WP.seq ?_
  refine WP.region ?_
  refine WL.quiet (Runs.free rfl) rfl rfl (OV.quiet (ov_assign rfl rfl)) ?_
  refine WL.nil ?_
  refine then_normal ?_
  obtain ⟨k1, hk1, hm⟩ := joinK_some hm
  refine WP.seq_join (fun g' S' => ∃ (l3 : (List Entry)) (ao5 : Option Addr) (cap5 : Nat) (xs2 : List Value), RL H encEntry l3 xs2 ∧ Sub [(3, (.slice ao5 l3.length cap5))] g' ∧ (∀ w', S' w' → St w H [.row 38 (encEntry).size l3.length (.slice ao5 l3.length cap5) xs2] H w') ∧ k1 l3 = some r) ?_ ?_
  · skip
    refine WP.seq ?_
    refine WP.region ?_
    refine WL.quiet (Runs.free rfl) rfl rfl (OV.quiet (ov_move rfl rfl)) ?_
    refine WL.quiet (Runs.free rfl) rfl rfl (OV.quiet (ov_len_slice Tryd.underlying56 rfl rfl)) ?_
    refine WL.quiet (Runs.free rfl) rfl rfl (OV.quiet (ov_move rfl rfl)) ?_
    refine WL.nil ?_
    refine then_normal ?_
    refine WP.block ?_
    have rl1 := RL.nil (α := Entry) H encEntry
    refine WP.weaken (fun _ s => s.nilrow 38 (encEntry).size) ?_
    refine WP.loop (fun m1 g' S' => ∃ (i1 : Int) (l1 : (List Entry)) (ao3 : Option Addr) (cap3 : Nat) (xs1 : List Value), RL H encEntry l1 xs1 ∧ Sub [(3, (.slice ao3 l1.length cap3)), (6, (.slice ao1 p_l.length cap1)), (7, (.int .i64 (p_l.length : Int))), (8, (.int .i64 i1))] g' ∧ (∀ w', S' w' → St w H [.row 38 (encEntry).size l1.length (.slice ao3 l1.length cap3) xs1] H w') ∧ law58_entries_loop1 p_l k1 m1 i1 l1 = some r) ((Int.toNat ((p_l.length : Int) - 0) + 1)) ⟨0, ([] : List Entry), none, 0, [], rl1, (Sub.cons rfl (Sub.cons rfl (Sub.cons rfl (Sub.cons rfl (Sub.nil _))))), fun w' s => s, hm⟩ ?_ ?_
    · rintro g' S' ⟨_, _, _, _, _, _, _, _, hm⟩
      exact none_some hm
    · rintro m1 g' S' ⟨i1, l1, ao3, cap3, xs1, rl2, hsub1, hS1, hm⟩
      refine WP.sub hsub1 (WP.weaken hS1 ?_)
      rw [law58_entries_loop1] at hm
      refine WP.seq ?_
      refine WP.region ?_
      refine WL.quiet (Runs.free rfl) rfl rfl (OV.quiet (ov_lss rfl rfl rfl)) ?_
      refine WL.nil ?_
      refine then_normal ?_
      refine WP.seq ?_
      refine WP.cond rfl (fun hc3 => ?_) (fun hc3 => ?_)
      · replace hm := ite_t hc3 hm
        refine WP.skip ?_
        refine then_normal ?_
        refine WP.seq ?_
        refine WP.block ?_
        refine WP.seq ?_
        refine WP.region ?_
        obtain ⟨x1, e1, hm⟩ := bind_some hm
        obtain ⟨h3, h4, h5, cs1, h6, h7⟩ := h1.get e1 (by decide)
        obtain rfl : cs1 = [(.int .i64 x1.kind), (mkS x1.name), (.int .i64 x1.count), (.int .i64 x1.strokes)] := h6
        refine WL.quiet (Runs.free rfl) rfl rfl (OV.quiet (ov_indexAddr Tryd.underlying56 Tryd.sizeOf26 rfl rfl rfl h3 h4 h5)) ?_
        refine WL.quiet (Runs.free rfl) rfl rfl (OV.quiet (ov_load_elems (vs := [(.int .i64 x1.kind), (mkS x1.name), (.int .i64 x1.count), (.int .i64 x1.strokes)]) Tryd.isAgg26 Tryd.sizeOf26 rfl rfl rfl h7 h5)) ?_
        refine WL.step (Runs.free rfl) rfl rfl (os_alloc (cs := [(.int .i64 0), (mkS []), (.int .i64 0), (.int .i64 0)]) Tryd.zeroValue26 rfl rfl (fun b1 => ?_))
        refine WL.step0 (Runs.free rfl) rfl (os_store (i := 0) (vs := [(.int .i64 x1.kind), (mkS x1.name), (.int .i64 x1.count), (.int .i64 x1.strokes)]) (cs' := [(.int .i64 x1.kind), (mkS x1.name), (.int .i64 x1.count), (.int .i64 x1.strokes)]) Tryd.sizeOf26 rfl rfl rfl rfl rfl rfl rfl rfl rfl ?_)
        refine WL.nil ?_
        refine then_normal ?_
        refine WP.region ?_
        refine WL.quiet (Runs.free rfl) rfl rfl (OV.quiet (ov_move rfl rfl)) ?_
        refine WL.quiet (Runs.free rfl) rfl rfl (OV.quiet (ov_load_whole (i := 0) Tryd.isAgg26 Tryd.sizeOf26 rfl rfl rfl rfl)) ?_
        have rl3 : RL H encEntry ([x1] : List Entry) [(.int .i64 x1.kind), (mkS x1.name), (.int .i64 x1.count), (.int .i64 x1.strokes)] := RL.cons (cs := [(.int .i64 x1.kind), (mkS x1.name), (.int .i64 x1.count), (.int .i64 x1.strokes)]) (xs := []) rfl (RL.nil _ _)
        refine WL.step (Runs.free rfl) rfl rfl (os_buildSlice (cs := [(.int .i64 x1.kind), (mkS x1.name), (.int .i64 x1.count), (.int .i64 x1.strokes)]) (E := 38) (sz := 4) rfl rfl (fun _ => by kernel_rfl) rfl (by decide) (fun b2 => ?_))
        obtain ⟨l2, e2, hm⟩ := bind_some hm
        refine WL.step (Runs.free rfl) rfl rfl (os_app (i := 2) (j := 0) (En := encEntry) (xs := xs1) (ys := [(.int .i64 x1.kind), (mkS x1.name), (.int .i64 x1.count), (.int .i64 x1.strokes)]) Tryd.underlying58 (by kernel_rfl : (Tryd.prog.info? 38).map (fun i => (i.zero, i.size, i.bytes)) = some (some (.agg #[(.int .i64 0), (mkS []), (.int .i64 0), (.int .i64 0)]), (encEntry).size, 40)) rfl (by decide) rfl rfl rfl rfl rfl rfl rl2 rl3 e2 (fun ao4 cap4 rl4 => ?_))
        refine WL.quiet (Runs.free rfl) rfl rfl (OV.quiet (ov_assign rfl rfl)) ?_
        refine WL.nil ?_
        refine block_normal ?_
        refine then_normal ?_
        refine WP.region ?_
        refine WL.quiet (Runs.free rfl) rfl rfl (OV.quiet (ov_add rfl rfl rfl)) ?_
        refine WL.quiet (Runs.free rfl) rfl rfl (OV.quiet (ov_move rfl rfl)) ?_
        refine WL.nil ?_
        refine then_normal ?_
        exact ⟨(IntKind.wrap .i64 (i1 + 1)), (l1 ++ ([x1] : List Entry)), ao4, cap4, (xs1 ++ [(.int .i64 x1.kind), (mkS x1.name), (.int .i64 x1.count), (.int .i64 x1.strokes)]), rl4, (Sub.cons rfl (Sub.cons rfl (Sub.cons rfl (Sub.cons rfl (Sub.nil _))))), fun w' s => (s.select [2] (by decide) rfl), hm⟩
      · replace hm := ite_f hc3 hm
        refine WP.exit ?_
        refine then_exit ?_
        refine then_exit ?_
        refine block_here ?_
        refine then_normal ?_
        exact ⟨l1, ao3, cap3, xs1, rl2, (Sub.cons rfl (Sub.nil _)), fun w' s => s, hm⟩
  · rintro g' S' ⟨l3, ao5, cap5, xs2, rl5, hsub2, hS2, hm⟩
    refine WP.sub hsub2 (WP.weaken hS2 ?_)
    replace hm := (congrFun hk1 l3).symm.trans hm
    refine WP.seq ?_
    refine WP.region ?_
    refine WL.quiet (Runs.free rfl) rfl rfl (OV.quiet (ov_move rfl rfl)) ?_
    refine WL.quiet (Runs.free rfl) rfl rfl (OV.quiet (ov_assign rfl rfl)) ?_
    refine WL.nil ?_
    refine then_normal ?_
    refine WP.ret ?_
    obtain rfl := Option.some.inj hm
    refine retQ_ret Tryd.results24 (Res.tmp rfl Res.nil) rfl (fun w' s => ⟨s.below, ?_⟩)
    obtain ⟨h8, hc4⟩ := s.ret_row (i := 0) rfl rl5
    exact ⟨ao5, cap5, rfl, h8, hc4⟩

theorem ref58_Run_con (p_l : (List Entry)) (ao1 : Option Addr) (cap1 : Nat) (w : World) (H : Heap) (hH : Le H (hp w)) (h1 : SL H encEntry ao1 p_l) (hc1 : p_l.length ≤ cap1) (hG : Glob H) (r : (Machine × Int × Int)) (hm : ref58_Run p_l = some r) :
    Con Tryd.prog 26 [(.slice ao1 p_l.length cap1)] w H (fun v H' => ∃ (ao2 : Option Addr) (cap2 : Nat), v = (.tuple #[(.agg #[(.slice ao2 r.1.items.length cap2), (.int .i64 r.1.cycles)]), (.int .i64 r.2.1), (.int .i64 r.2.2)]) ∧ SL H' encItem ao2 r.1.items ∧ r.1.items.length ≤ cap2) := by
  unfold ref58_Run at hm
  refine con_of hH Tryd.func26 rfl 35 Tryd.ntmps26 rfl ?_
  refine WP.seq ?_
  refine WP.region ?_
  refine WL.step (Runs.free rfl) rfl rfl (os_alloc (cs := [(.slice none 0 0), (.int .i64 0)]) Tryd.zeroValue34 rfl rfl (fun b1 => ?_))
  refine WL.quiet (Runs.free rfl) rfl rfl (OV.quiet (ov_assign rfl rfl)) ?_
  refine WL.quiet (Runs.free rfl) rfl rfl (OV.quiet (ov_assign rfl rfl)) ?_
  refine WL.nil ?_
  refine then_normal ?_
  refine WP.seq ?_
  refine WP.seq ?_
  refine WP.region ?_
  refine WL.quiet (Runs.free rfl) rfl rfl (OV.quiet (ov_move rfl rfl)) ?_
  refine WL.quiet (Runs.free rfl) rfl rfl (OV.quiet (ov_len_slice Tryd.underlying58 rfl rfl)) ?_
  refine WL.quiet (Runs.free rfl) rfl rfl (OV.quiet (ov_gtr rfl rfl rfl)) ?_
  refine WL.nil ?_
  refine then_normal ?_
  refine WP.cond rfl (fun hc3 => ?_) (fun hc3 => ?_)
  · replace hm := ite_t hc3 hm
    refine WP.seq ?_
    refine WP.region ?_
    refine WL.quiet (Runs.free rfl) rfl rfl (OV.quiet (ov_build (r := (.agg #[(.slice none 0 0), (.int .i64 0)])) rfl rfl (fun _ => by kernel_rfl))) ?_
    refine WL.step0 (Runs.free rfl) rfl (os_store (i := 0) (vs := [(.slice none 0 0), (.int .i64 0)]) (cs' := [(.slice none 0 0), (.int .i64 0)]) Tryd.sizeOf34 rfl rfl rfl rfl rfl rfl rfl rfl rfl ?_)
    refine WL.quiet (Runs.free rfl) rfl rfl (OV.quiet (ov_assign rfl rfl)) ?_
    refine WL.quiet (Runs.free rfl) rfl rfl (OV.quiet (ov_assign rfl rfl)) ?_
    refine WL.nil ?_
    refine then_normal ?_
    refine WP.ret ?_
    refine then_ret ?_
    obtain rfl := Option.some.inj hm
    refine retQ_ret Tryd.results26 (Res.cell rfl (box_loads (i := 0) Tryd.isAgg34 Tryd.sizeOf34 rfl rfl) (Res.tmp rfl (Res.tmp rfl Res.nil))) rfl (fun w' s => ⟨s.below, ?_⟩)
    exact ⟨none, 0, rfl, SL.nil _ _ _, Nat.le_refl _⟩
  · replace hm := ite_f hc3 hm
    refine WP.skip ?_
    refine then_normal ?_
    refine WP.seq ?_
    refine WP.region ?_
    refine WL.step (Runs.free rfl) rfl rfl (os_alloc (cs := [(.slice none 0 0), (.int .i64 0)]) Tryd.zeroValue34 rfl rfl (fun b2 => ?_))
    refine WL.nil ?_
    refine then_normal ?_
    obtain ⟨k1, hk1, hm⟩ := joinK_some hm
    refine WP.seq_join (fun g' S' => ∃ (H5 : Heap) (l3 : (List Item)) (ao7 : Option Addr) (cap7 : Nat) (i5 : Int), Le H H5 ∧ SL H5 encItem ao7 l3 ∧ l3.length ≤ cap7 ∧ Sub [(2, (pB b1 0)), (5, (pB b2 0))] g' ∧ (∀ w', S' w' → St w H [.blk b2 34 [(.slice ao7 l3.length cap7), (.int .i64 i5)], .blk b1 34 [(.slice none 0 0), (.int .i64 0)]] H5 w') ∧ k1 l3 i5 = some r) ?_ ?_
    · skip
      refine WP.seq ?_
      refine WP.region ?_
      refine WL.quiet (Runs.free rfl) rfl rfl (OV.quiet (ov_assign rfl rfl)) ?_
      refine WL.nil ?_
      refine then_normal ?_
      refine WP.block ?_
      refine WP.loop (fun m1 g' S' => ∃ (H1 : Heap) (i1 : Int) (l1 : (List Item)) (ao3 : Option Addr) (cap3 : Nat) (i2 : Int), Le H H1 ∧ SL H1 encItem ao3 l1 ∧ l1.length ≤ cap3 ∧ Sub [(0, (.slice ao1 p_l.length cap1)), (2, (pB b1 0)), (5, (pB b2 0)), (6, (.int .i64 i1))] g' ∧ (∀ w', S' w' → St w H [.blk b2 34 [(.slice ao3 l1.length cap3), (.int .i64 i2)], .blk b1 34 [(.slice none 0 0), (.int .i64 0)]] H1 w') ∧ ref58_Run_loop1 p_l k1 m1 i1 l1 i2 = some r) ((Int.toNat ((p_l.length : Int) - 0) + 1)) ⟨H, 0, [], none, 0, 0, (Le.refl _), (SL.nil _ _ _), (Nat.le_refl _), (Sub.cons rfl (Sub.cons rfl (Sub.cons rfl (Sub.cons rfl (Sub.nil _))))), fun w' s => s, hm⟩ ?_ ?_
      · rintro g' S' ⟨_, _, _, _, _, _, _, _, _, _, _, hm⟩
        exact none_some hm
      · rintro m1 g' S' ⟨H1, i1, l1, ao3, cap3, i2, hle1, h3, hc4, hsub1, hS1, hm⟩
        refine WP.sub hsub1 (WP.weaken hS1 ?_)
        rw [ref58_Run_loop1] at hm
        replace h1 := h1.mono hle1
        replace hG := hG.mono hle1
        refine WP.seq ?_
        refine WP.seq ?_
        refine WP.region ?_
        refine WL.quiet (Runs.free rfl) rfl rfl (OV.quiet (ov_move rfl rfl)) ?_
        refine WL.quiet (Runs.free rfl) rfl rfl (OV.quiet (ov_move rfl rfl)) ?_
        refine WL.quiet (Runs.free rfl) rfl rfl (OV.quiet (ov_len_slice Tryd.underlying58 rfl rfl)) ?_
        refine WL.quiet (Runs.free rfl) rfl rfl (OV.quiet (ov_lss rfl rfl rfl)) ?_
        refine WL.nil ?_
        refine then_normal ?_
        refine WP.cond rfl (fun hc5 => ?_) (fun hc5 => ?_)
        · replace hm := ite_t hc5 hm
          refine WP.skip ?_
          refine then_normal ?_
          refine WP.seq ?_
          refine WP.block ?_
          obtain ⟨k2, hk2, hm⟩ := joinK_some hm
          refine WP.seq_join (fun g' S' => ∃ (H4 : Heap) (b5 : Nat) (i3 : Int) (l2 : (List Item)) (ao6 : Option Addr) (cap6 : Nat) (i4 : Int), Le H1 H4 ∧ SL H4 encItem ao6 l2 ∧ l2.length ≤ cap6 ∧ Sub [(0, (.slice ao1 p_l.length cap1)), (2, (pB b1 0)), (5, (pB b2 0)), (6, (.int .i64 i1)), (7, (pB b5 0)), (8, (.int .i64 i3))] g' ∧ (∀ w', S' w' → St w H [.blk b5 34 [(.slice ao6 l2.length cap6), (.int .i64 i4)], .blk b2 34 [(.slice ao3 l1.length cap3), (.int .i64 i2)], .blk b1 34 [(.slice none 0 0), (.int .i64 0)]] H4 w') ∧ k2 i3 l2 i4 = some r) ?_ ?_
          · skip
            refine WP.region_any (S₀ := St w H [.blk b2 34 [(.slice ao3 l1.length cap3), (.int .i64 i2)], .blk b1 34 [(.slice none 0 0), (.int .i64 0)]] H1) 12 rfl (by kernel_rfl) (fun w' s => s) (fun _ s => s.drew) ?_
            refine AL.take (i := 0) rfl (by kernel_rfl) (by kernel_rfl) (by kernel_rfl) (Runs.free rfl) rfl rfl (ov_load_whole (i := 0) Tryd.isAgg34 Tryd.sizeOf34 rfl rfl rfl rfl) ?_
            refine AL.take (i := 1) rfl (by kernel_rfl) (by kernel_rfl) (by kernel_rfl) (Runs.free rfl) rfl rfl (ov_move rfl rfl) ?_
            refine AL.take (i := 2) rfl (by kernel_rfl) (by kernel_rfl) (by kernel_rfl) (Runs.free rfl) rfl rfl (ov_move rfl rfl) ?_
            obtain ⟨x1, e1, hm⟩ := bind_some hm
            obtain ⟨h4, h5, h6, cs1, h7, h8⟩ := h1.get e1 (by decide)
            obtain rfl : cs1 = [(.int .i64 x1.kind), (mkS x1.name), (.int .i64 x1.count), (.int .i64 x1.strokes)] := h7
            refine AL.take (i := 3) rfl (by kernel_rfl) (by kernel_rfl) (by kernel_rfl) (Runs.free rfl) rfl rfl (ov_indexAddr Tryd.underlying58 Tryd.sizeOf38 rfl rfl rfl h4 h5 h6) ?_
            refine AL.take (i := 4) rfl (by kernel_rfl) (by kernel_rfl) (by kernel_rfl) (Runs.free rfl) rfl rfl (ov_load_elems (vs := [(.int .i64 x1.kind), (mkS x1.name), (.int .i64 x1.count), (.int .i64 x1.strokes)]) Tryd.isAgg38 Tryd.sizeOf38 rfl rfl rfl h8 h6) ?_
            refine AL.any (rs := [5, 9]) (by kernel_rfl) (by decide) ?_
            refine ALs.cons (i := 5) rfl (Runs.free rfl) rfl rfl ?_ ?_
            · skip
              obtain ⟨r1, e2, hm⟩ := bind_some hm
              refine os_con Tryd.call11 rfl rfl (fun w' s => (ref58_Do_con (Machine.mk l1 i2) x1 ao3 cap3  w' H1 s.hold h3 hc4 hG r1 e2)) (fun rr1 H2 hle2 hR1 => ?_)
              replace h1 := h1.mono hle2
              replace h3 := h3.mono hle2
              replace h8 := h8.mono hle2
              replace hG := hG.mono hle2
              obtain ⟨ao4, cap4, rfl, h9, hc6⟩ := hR1
              refine ⟨fun w' s => (s.heap hle2), ?_⟩
              refine AL.take (i := 6) rfl (by kernel_rfl) (by kernel_rfl) (by kernel_rfl) (Runs.free rfl) rfl rfl (ov_move rfl rfl) ?_
              refine AL.take (i := 7) rfl (by kernel_rfl) (by kernel_rfl) (by kernel_rfl) (Runs.free rfl) rfl rfl (ov_extract rfl rfl rfl) ?_
              refine AL.take (i := 8) rfl (by kernel_rfl) (by kernel_rfl) (by kernel_rfl) (Runs.free rfl) rfl rfl (ov_extract rfl rfl rfl) ?_
              refine AL.any (rs := [9]) (by kernel_rfl) (by decide) ?_
              refine ALs.cons (i := 9) rfl (Runs.free rfl) rfl rfl ?_ ?_
              · skip
                refine os_alloc (cs := [(.slice none 0 0), (.int .i64 0)]) Tryd.zeroValue34 rfl rfl (fun b3 => ?_)
                refine ⟨fun w' s => ((s.select [1, 2] (by decide) rfl).heap hle2), ?_⟩
                refine AL.any (rs := [10]) (by kernel_rfl) (by decide) ?_
                refine ALs.cons0 (i := 10) rfl (Runs.free rfl) rfl ?_ ?_
                · skip
                  refine os_store (i := 0) (vs := [(.slice ao4 r1.1.items.length cap4), (.int .i64 r1.1.cycles)]) (cs' := [(.slice ao4 r1.1.items.length cap4), (.int .i64 r1.1.cycles)]) Tryd.sizeOf34 rfl rfl rfl rfl rfl rfl rfl rfl rfl ?_
                  refine ⟨fun w' s => ((s.select [1, 2] (by decide) rfl).heap hle2), ?_⟩
                  refine AL.take (i := 11) rfl (by kernel_rfl) (by kernel_rfl) (by kernel_rfl) (Runs.free rfl) rfl rfl (ov_assign rfl rfl) ?_
                  refine AL.done (by kernel_rfl) ?_
                  refine then_normal ?_
                  exact ⟨H2, b3, r1.2, r1.1.items, ao4, cap4, r1.1.cycles, hle2, h9, hc6, (Sub.cons rfl (Sub.cons rfl (Sub.cons rfl (Sub.cons rfl (Sub.cons rfl (Sub.cons rfl (Sub.nil _))))))), fun w' s => s, hm⟩
                exact ALs.nil
              exact ALs.nil
            refine ALs.cons (i := 9) rfl (Runs.free rfl) rfl rfl ?_ ?_
            · skip
              refine os_alloc (cs := [(.slice none 0 0), (.int .i64 0)]) Tryd.zeroValue34 rfl rfl (fun b4 => ?_)
              refine ⟨fun w' s => (s.select [1, 2] (by decide) rfl), ?_⟩
              refine AL.any (rs := [5]) (by kernel_rfl) (by decide) ?_
              refine ALs.cons (i := 5) rfl (Runs.free rfl) rfl rfl ?_ ?_
              · skip
                obtain ⟨r2, e3, hm⟩ := bind_some hm
                refine os_con Tryd.call11 rfl rfl (fun w' s => (ref58_Do_con (Machine.mk l1 i2) x1 ao3 cap3  w' H1 s.hold h3 hc4 hG r2 e3)) (fun rr2 H3 hle3 hR2 => ?_)
                replace h1 := h1.mono hle3
                replace h3 := h3.mono hle3
                replace h8 := h8.mono hle3
                replace hG := hG.mono hle3
                obtain ⟨ao5, cap5, rfl, h10, hc7⟩ := hR2
                refine ⟨fun w' s => ((s.select [1, 2] (by decide) rfl).heap hle3), ?_⟩
                refine AL.take (i := 6) rfl (by kernel_rfl) (by kernel_rfl) (by kernel_rfl) (Runs.free rfl) rfl rfl (ov_move rfl rfl) ?_
                refine AL.take (i := 7) rfl (by kernel_rfl) (by kernel_rfl) (by kernel_rfl) (Runs.free rfl) rfl rfl (ov_extract rfl rfl rfl) ?_
                refine AL.take (i := 8) rfl (by kernel_rfl) (by kernel_rfl) (by kernel_rfl) (Runs.free rfl) rfl rfl (ov_extract rfl rfl rfl) ?_
                refine AL.any (rs := [10]) (by kernel_rfl) (by decide) ?_
                refine ALs.cons0 (i := 10) rfl (Runs.free rfl) rfl ?_ ?_
                · skip
                  refine os_store (i := 0) (vs := [(.slice ao5 r2.1.items.length cap5), (.int .i64 r2.1.cycles)]) (cs' := [(.slice ao5 r2.1.items.length cap5), (.int .i64 r2.1.cycles)]) Tryd.sizeOf34 rfl rfl rfl rfl rfl rfl rfl rfl rfl ?_
                  refine ⟨fun w' s => ((s.select [1, 2] (by decide) rfl).heap hle3), ?_⟩
                  refine AL.take (i := 11) rfl (by kernel_rfl) (by kernel_rfl) (by kernel_rfl) (Runs.free rfl) rfl rfl (ov_assign rfl rfl) ?_
                  refine AL.done (by kernel_rfl) ?_
                  refine then_normal ?_
                  exact ⟨H3, b4, r2.2, r2.1.items, ao5, cap5, r2.1.cycles, hle3, h10, hc7, (Sub.cons rfl (Sub.cons rfl (Sub.cons rfl (Sub.cons rfl (Sub.cons rfl (Sub.cons rfl (Sub.nil _))))))), fun w' s => s, hm⟩
                exact ALs.nil
              exact ALs.nil
            exact ALs.nil
          · rintro g' S' ⟨H4, b5, i3, l2, ao6, cap6, i4, hle4, h11, hc8, hsub2, hS2, hm⟩
            refine WP.sub hsub2 (WP.weaken hS2 ?_)
            replace hm := (congrFun (congrFun (congrFun hk2 i3) l2) i4).symm.trans hm
            replace h1 := h1.mono hle4
            replace h3 := h3.mono hle4
            replace hG := hG.mono hle4
            refine WP.seq ?_
            refine WP.seq ?_
            refine WP.region ?_
            refine WL.quiet (Runs.free rfl) rfl rfl (OV.quiet (ov_move rfl rfl)) ?_
            refine WL.quiet (Runs.free rfl) rfl rfl (OV.quiet (ov_neq rfl rfl rfl)) ?_
            refine WL.nil ?_
            refine then_normal ?_
            refine WP.cond rfl (fun hc9 => ?_) (fun hc9 => ?_)
            · replace hm := ite_t hc9 hm
              refine WP.seq ?_
              refine WP.region ?_
              refine WL.quiet (Runs.free rfl) rfl rfl (OV.quiet (ov_build (r := (.agg #[(.slice none 0 0), (.int .i64 0)])) rfl rfl (fun _ => by kernel_rfl))) ?_
              refine WL.quiet (Runs.free rfl) rfl rfl (OV.quiet (ov_move rfl rfl)) ?_
              refine WL.quiet (Runs.free rfl) rfl rfl (OV.quiet (ov_move rfl rfl)) ?_
              refine WL.step0 (Runs.free rfl) rfl (os_store (i := 2) (vs := [(.slice none 0 0), (.int .i64 0)]) (cs' := [(.slice none 0 0), (.int .i64 0)]) Tryd.sizeOf34 rfl rfl rfl rfl rfl rfl rfl rfl rfl ?_)
              refine WL.quiet (Runs.free rfl) rfl rfl (OV.quiet (ov_assign rfl rfl)) ?_
              refine WL.quiet (Runs.free rfl) rfl rfl (OV.quiet (ov_assign rfl rfl)) ?_
              refine WL.nil ?_
              refine then_normal ?_
              refine WP.ret ?_
              refine then_ret ?_
              refine block_ret ?_
              refine then_ret ?_
              refine then_ret ?_
              refine block_ret ?_
              refine then_ret ?_
              obtain rfl := Option.some.inj hm
              refine retQ_ret Tryd.results26 (Res.cell rfl (box_loads (i := 2) Tryd.isAgg34 Tryd.sizeOf34 rfl rfl) (Res.tmp rfl (Res.tmp rfl Res.nil))) rfl (fun w' s => ⟨s.below, ?_⟩)
              exact ⟨none, 0, rfl, SL.nil _ _ _, Nat.le_refl _⟩
            · replace hm := ite_f hc9 hm
              refine WP.skip ?_
              refine then_normal ?_
              refine WP.region ?_
              refine WL.quiet (Runs.free rfl) rfl rfl (OV.quiet (ov_load_whole (i := 0) Tryd.isAgg34 Tryd.sizeOf34 rfl rfl rfl rfl)) ?_
              refine WL.step0 (Runs.free rfl) rfl (os_store (i := 1) (vs := [(.slice ao6 l2.length cap6), (.int .i64 i4)]) (cs' := [(.slice ao6 l2.length cap6), (.int .i64 i4)]) Tryd.sizeOf34 rfl rfl rfl rfl rfl rfl rfl rfl rfl ?_)
              refine WL.nil ?_
              refine block_normal ?_
              refine then_normal ?_
              refine WP.region ?_
              refine WL.quiet (Runs.free rfl) rfl rfl (OV.quiet (ov_move rfl rfl)) ?_
              refine WL.quiet (Runs.free rfl) rfl rfl (OV.quiet (ov_add rfl rfl rfl)) ?_
              refine WL.quiet (Runs.free rfl) rfl rfl (OV.quiet (ov_assign rfl rfl)) ?_
              refine WL.nil ?_
              refine then_normal ?_
              exact ⟨H4, (IntKind.wrap .i64 (i1 + 1)), l2, ao6, cap6, i4, (hle1.trans hle4), h11, hc8, (Sub.cons rfl (Sub.cons rfl (Sub.cons rfl (Sub.cons rfl (Sub.nil _))))), fun w' s => (s.select [1, 2] (by decide) rfl), hm⟩
        · replace hm := ite_f hc5 hm
          refine WP.exit ?_
          refine then_exit ?_
          refine then_exit ?_
          refine block_here ?_
          refine then_normal ?_
          exact ⟨H1, l1, ao3, cap3, i2, hle1, h3, hc4, (Sub.cons rfl (Sub.cons rfl (Sub.nil _))), fun w' s => s, hm⟩
    · rintro g' S' ⟨H5, l3, ao7, cap7, i5, hle5, h12, hc10, hsub3, hS3, hm⟩
      refine WP.sub hsub3 (WP.weaken hS3 ?_)
      replace hm := (congrFun (congrFun hk1 l3) i5).symm.trans hm
      replace hG := hG.mono hle5
      refine WP.seq ?_
      refine WP.region ?_
      refine WL.quiet (Runs.free rfl) rfl rfl (OV.quiet (ov_load_whole (i := 0) Tryd.isAgg34 Tryd.sizeOf34 rfl rfl rfl rfl)) ?_
      refine WL.step0 (Runs.free rfl) rfl (os_store (i := 1) (vs := [(.slice ao7 l3.length cap7), (.int .i64 i5)]) (cs' := [(.slice ao7 l3.length cap7), (.int .i64 i5)]) Tryd.sizeOf34 rfl rfl rfl rfl rfl rfl rfl rfl rfl ?_)
      refine WL.quiet (Runs.free rfl) rfl rfl (OV.quiet (ov_assign rfl rfl)) ?_
      refine WL.quiet (Runs.free rfl) rfl rfl (OV.quiet (ov_assign rfl rfl)) ?_
      refine WL.nil ?_
      refine then_normal ?_
      refine WP.ret ?_
      obtain rfl := Option.some.inj hm
      refine retQ_ret Tryd.results26 (Res.cell rfl (box_loads (i := 1) Tryd.isAgg34 Tryd.sizeOf34 rfl rfl) (Res.tmp rfl (Res.tmp rfl Res.nil))) rfl (fun w' s => ⟨s.below, ?_⟩)
      exact ⟨ao7, cap7, rfl, h12.mono s.le_newer, hc10⟩

theorem ref58_Line_con (p_before : Int) (p_s : (List UInt8)) (w : World) (H : Heap) (hH : Le H (hp w)) (hG : Glob H) (r : ((List UInt8) × Int)) (hm : ref58_Line p_before p_s = some r) :
    Con Tryd.prog 72 [(.int .i64 p_before), (mkS p_s)] w H (fun v _ => v = (.tuple #[(mkS r.1), (.int .i64 r.2)])) := by
  unfold ref58_Line at hm
  refine con_of hH Tryd.func72 rfl 17 Tryd.ntmps72 rfl ?_
  refine WP.seq ?_
  refine WP.region ?_
  refine WL.quiet (Runs.free rfl) rfl rfl (OV.quiet (ov_assign rfl rfl)) ?_
  refine WL.quiet (Runs.free rfl) rfl rfl (OV.quiet (ov_assign rfl rfl)) ?_
  refine WL.nil ?_
  refine then_normal ?_
  refine WP.seq ?_
  refine WP.region ?_
  refine WL.quiet (Runs.free rfl) rfl rfl (OV.quiet (ov_move rfl rfl)) ?_
  refine WL.quiet (Runs.free rfl) rfl rfl (OV.quiet (ov_move rfl rfl)) ?_
  obtain ⟨r1, e1, hm⟩ := bind_some hm
  refine WL.quiet (Runs.free rfl) rfl rfl (oq_con (r := (.int .i64 r1)) Tryd.call34 rfl rfl (fun w' s => ⟨_, (ref58_Mark_con p_before p_s  w' H s.hold hG r1 e1)⟩)) ?_
  refine WL.quiet (Runs.free rfl) rfl rfl (OV.quiet (ov_assign rfl rfl)) ?_
  refine WL.nil ?_
  refine then_normal ?_
  refine WP.seq ?_
  refine WP.region ?_
  refine WL.quiet (Runs.free rfl) rfl rfl (OV.quiet (ov_move rfl rfl)) ?_
  obtain ⟨s1, e2, hm⟩ := bind_some hm
  refine WL.quiet (Runs.free rfl) rfl rfl (OV.quiet (ov_sadd' e2 rfl rfl rfl)) ?_
  refine WL.quiet (Runs.free rfl) rfl rfl (OV.quiet (ov_move rfl rfl)) ?_
  obtain ⟨r2, e3, hm⟩ := bind_some hm
  refine WL.quiet (Runs.free rfl) rfl rfl (oq_con (r := (mkS r2)) Tryd.call33 rfl rfl (fun w' s => ⟨_, (ref12_Digits_con r1  w' H s.hold hG r2 e3)⟩)) ?_
  obtain ⟨s2, e4, hm⟩ := bind_some hm
  refine WL.quiet (Runs.free rfl) rfl rfl (OV.quiet (ov_sadd' e4 rfl rfl rfl)) ?_
  obtain ⟨s3, e5, hm⟩ := bind_some hm
  refine WL.quiet (Runs.free rfl) rfl rfl (OV.quiet (ov_sadd' e5 rfl rfl rfl)) ?_
  refine WL.quiet (Runs.free rfl) rfl rfl (OV.quiet (ov_move rfl rfl)) ?_
  refine WL.quiet (Runs.free rfl) rfl rfl (OV.quiet (ov_assign rfl rfl)) ?_
  refine WL.quiet (Runs.free rfl) rfl rfl (OV.quiet (ov_assign rfl rfl)) ?_
  refine WL.nil ?_
  refine then_normal ?_
  refine WP.ret ?_
  obtain rfl := Option.some.inj hm
  refine retQ_ret Tryd.results72 (Res.tmp rfl (Res.tmp rfl Res.nil)) rfl (fun w' s => ⟨s.below, ?_⟩)
  exact rfl

theorem ref58_words_con  (w : World) (H : Heap) (hH : Le H (hp w)) (hG : Glob H) (r : (List (List UInt8))) (hm : ref58_words  = some r) :
    Con Tryd.prog 82 [] w H (fun v H' => ∃ (ao1 : Option Addr) (cap1 : Nat), v = (.slice ao1 r.length cap1) ∧ SL H' encStr ao1 r ∧ r.length ≤ cap1) := by
  unfold ref58_words at hm
  refine con_of hH Tryd.func82 rfl 2 Tryd.ntmps82 rfl ?_
  refine WP.seq ?_
  refine WP.region ?_
  refine WL.quiet (Runs.free rfl) rfl rfl (OV.quiet (ov_assign rfl rfl)) ?_
  refine WL.nil ?_
  refine then_normal ?_
  refine WP.seq ?_
  refine WP.region ?_
  have rl1 : RL H encStr ([[112, 97, 114, 116], [99, 121, 99, 108, 101, 115], [102, 97, 117, 108, 116], [114, 101, 112, 97, 105, 114], [114, 101, 112, 108, 97, 99, 101], [114, 101, 109, 111, 118, 101]] : List (List UInt8)) [(mkS [112, 97, 114, 116]), (mkS [99, 121, 99, 108, 101, 115]), (mkS [102, 97, 117, 108, 116]), (mkS [114, 101, 112, 97, 105, 114]), (mkS [114, 101, 112, 108, 97, 99, 101]), (mkS [114, 101, 109, 111, 118, 101])] := RL.cons (cs := [(mkS [112, 97, 114, 116])]) (xs := [(mkS [99, 121, 99, 108, 101, 115]), (mkS [102, 97, 117, 108, 116]), (mkS [114, 101, 112, 97, 105, 114]), (mkS [114, 101, 112, 108, 97, 99, 101]), (mkS [114, 101, 109, 111, 118, 101])]) rfl (RL.cons (cs := [(mkS [99, 121, 99, 108, 101, 115])]) (xs := [(mkS [102, 97, 117, 108, 116]), (mkS [114, 101, 112, 97, 105, 114]), (mkS [114, 101, 112, 108, 97, 99, 101]), (mkS [114, 101, 109, 111, 118, 101])]) rfl (RL.cons (cs := [(mkS [102, 97, 117, 108, 116])]) (xs := [(mkS [114, 101, 112, 97, 105, 114]), (mkS [114, 101, 112, 108, 97, 99, 101]), (mkS [114, 101, 109, 111, 118, 101])]) rfl (RL.cons (cs := [(mkS [114, 101, 112, 97, 105, 114])]) (xs := [(mkS [114, 101, 112, 108, 97, 99, 101]), (mkS [114, 101, 109, 111, 118, 101])]) rfl (RL.cons (cs := [(mkS [114, 101, 112, 108, 97, 99, 101])]) (xs := [(mkS [114, 101, 109, 111, 118, 101])]) rfl (RL.cons (cs := [(mkS [114, 101, 109, 111, 118, 101])]) (xs := []) rfl (RL.nil _ _))))))
  refine WL.step (Runs.free rfl) rfl rfl (os_buildSlice (cs := [(mkS [112, 97, 114, 116]), (mkS [99, 121, 99, 108, 101, 115]), (mkS [102, 97, 117, 108, 116]), (mkS [114, 101, 112, 97, 105, 114]), (mkS [114, 101, 112, 108, 97, 99, 101]), (mkS [114, 101, 109, 111, 118, 101])]) (E := 9) (sz := 1) rfl rfl (fun _ => by kernel_rfl) rfl (by decide) (fun b1 => ?_))
  refine WL.held rl1 (fun H1 hc2 hle1 h2 => ?_)
  replace hG := hG.mono hle1
  refine WL.quiet (Runs.free rfl) rfl rfl (OV.quiet (ov_assign rfl rfl)) ?_
  refine WL.nil ?_
  refine then_normal ?_
  refine WP.ret ?_
  obtain rfl := Option.some.inj hm
  refine retQ_ret Tryd.results82 (Res.tmp rfl Res.nil) rfl (fun w' s => ⟨s.below, ?_⟩)
  exact ⟨(some ⟨b1, 0, none⟩), 6, rfl, h2.mono s.le_newer, hc2⟩

theorem ref58_Written_con (p_x : Entry) (w : World) (H : Heap) (hH : Le H (hp w)) (hG : Glob H) (r : (List UInt8)) (hm : ref58_Written p_x = some r) :
    Con Tryd.prog 73 [(.agg #[(.int .i64 p_x.kind), (mkS p_x.name), (.int .i64 p_x.count), (.int .i64 p_x.strokes)])] w H (fun v _ => v = (mkS r)) := by
  unfold ref58_Written at hm
  refine con_of hH Tryd.func73 rfl 32 Tryd.ntmps73 rfl ?_
  refine WP.seq ?_
  refine WP.region ?_
  refine WL.step (Runs.free rfl) rfl rfl (os_box (cs := [(.int .i64 p_x.kind), (mkS p_x.name), (.int .i64 p_x.count), (.int .i64 p_x.strokes)]) rfl rfl rfl (fun b1 => ?_))
  refine WL.quiet (Runs.free rfl) rfl rfl (OV.quiet (ov_assign rfl rfl)) ?_
  refine WL.nil ?_
  refine then_normal ?_
  refine WP.seq ?_
  refine WP.region_any (S₀ := St w H [.blk b1 38 [(.int .i64 p_x.kind), (mkS p_x.name), (.int .i64 p_x.count), (.int .i64 p_x.strokes)]] H) 10 rfl (by kernel_rfl) (fun w' s => s) (fun _ s => s.drew) ?_
  refine AL.take (i := 1) rfl (by kernel_rfl) (by kernel_rfl) (by kernel_rfl) (Runs.free rfl) rfl rfl (ov_fieldAddr Tryd.underlying38 rfl rfl rfl Tryd.sizeOf3 rfl rfl) ?_
  refine AL.take (i := 2) rfl (by kernel_rfl) (by kernel_rfl) (by kernel_rfl) (Runs.free rfl) rfl rfl (ov_load_box (i := 0) Tryd.isAgg3 rfl rfl rfl rfl) ?_
  refine AL.take (i := 6) rfl (by kernel_rfl) (by kernel_rfl) (by kernel_rfl) (Runs.free rfl) rfl rfl (ov_fieldAddr Tryd.underlying38 rfl rfl rfl Tryd.sizeOf9 rfl rfl) ?_
  refine AL.take (i := 7) rfl (by kernel_rfl) (by kernel_rfl) (by kernel_rfl) (Runs.free rfl) rfl rfl (ov_load_box (i := 0) Tryd.isAgg9 rfl rfl rfl rfl) ?_
  refine AL.any (rs := [0]) (by kernel_rfl) (by decide) ?_
  refine ALs.cons (i := 0) rfl (Runs.free rfl) rfl rfl ?_ ?_
  · skip
    obtain ⟨r1, e1, hm⟩ := bind_some hm
    refine os_con Tryd.call82 rfl rfl (fun w' s => (ref58_words_con   w' H s.hold hG r1 e1)) (fun rr1 H1 hle1 hR1 => ?_)
    replace hG := hG.mono hle1
    obtain ⟨ao1, cap1, rfl, h1, hc1⟩ := hR1
    refine ⟨fun w' s => (s.heap hle1), ?_⟩
    refine AL.any (rs := [3]) (by kernel_rfl) (by decide) ?_
    refine ALs.cons (i := 3) rfl (Runs.free rfl) rfl rfl ?_ ?_
    · skip
      obtain ⟨x1, e2, hm⟩ := bind_some hm
      obtain ⟨h2, h3, h4, cs1, h5, h6⟩ := h1.get e2 (by decide)
      obtain rfl : cs1 = [(mkS x1)] := h5
      refine OQ.step (OV.quiet (ov_indexAddr Tryd.underlying45 Tryd.sizeOf9 rfl rfl rfl h2 h3 h4)) ?_
      refine ⟨fun w' s => (s.heap hle1), ?_⟩
      refine AL.any (rs := [4]) (by kernel_rfl) (by decide) ?_
      refine ALs.cons (i := 4) rfl (Runs.free rfl) rfl rfl ?_ ?_
      · skip
        refine OQ.step (OV.quiet (ov_load_elem (v := (mkS x1)) Tryd.isAgg9 rfl rfl h6)) ?_
        refine ⟨fun w' s => (s.heap hle1), ?_⟩
        obtain ⟨s1, e3, hm⟩ := bind_some hm
        refine AL.take (i := 5) rfl (by kernel_rfl) (by kernel_rfl) (by kernel_rfl) (Runs.free rfl) rfl rfl (ov_sadd' e3 rfl rfl rfl) ?_
        obtain ⟨s2, e4, hm⟩ := bind_some hm
        refine AL.take (i := 8) rfl (by kernel_rfl) (by kernel_rfl) (by kernel_rfl) (Runs.free rfl) rfl rfl (ov_sadd' e4 rfl rfl rfl) ?_
        refine AL.take (i := 9) rfl (by kernel_rfl) (by kernel_rfl) (by kernel_rfl) (Runs.free rfl) rfl rfl (ov_assign rfl rfl) ?_
        refine AL.done (by kernel_rfl) ?_
        refine then_normal ?_
        obtain ⟨k1, hk1, hm⟩ := joinK_some hm
        refine WP.seq_join (fun g' S' => ∃ (s5 : (List UInt8)), Sub [(1, (pB b1 0)), (3, (mkS s5))] g' ∧ (∀ w', S' w' → St w H [.blk b1 38 [(.int .i64 p_x.kind), (mkS p_x.name), (.int .i64 p_x.count), (.int .i64 p_x.strokes)]] H1 w') ∧ k1 s5 = some r) ?_ ?_
        · skip
          refine WP.seq ?_
          refine WP.region ?_
          refine WL.quiet (Runs.free rfl) rfl rfl (OV.quiet (ov_fieldAddr Tryd.underlying38 rfl rfl rfl Tryd.sizeOf3 rfl rfl)) ?_
          refine WL.quiet (Runs.free rfl) rfl rfl (OV.quiet (ov_load_box (i := 0) Tryd.isAgg3 rfl rfl rfl rfl)) ?_
          obtain ⟨r2, e5, hm⟩ := bind_some hm
          refine WL.quiet (Runs.free rfl) rfl rfl (oq_con (r := (.bool r2)) Tryd.call44 rfl rfl (fun w' s => ⟨_, (ref58_counted_con p_x.kind  w' H1 s.hold hG r2 e5)⟩)) ?_
          refine WL.nil ?_
          refine then_normal ?_
          refine WP.cond rfl (fun hc2 => ?_) (fun hc2 => ?_)
          · replace hm := ite_t hc2 hm
            refine WP.region ?_
            refine WL.quiet (Runs.free rfl) rfl rfl (OV.quiet (ov_move rfl rfl)) ?_
            refine WL.quiet (Runs.free rfl) rfl rfl (OV.quiet (ov_fieldAddr Tryd.underlying38 rfl rfl rfl Tryd.sizeOf3 rfl rfl)) ?_
            refine WL.quiet (Runs.free rfl) rfl rfl (OV.quiet (ov_load_box (i := 0) Tryd.isAgg3 rfl rfl rfl rfl)) ?_
            obtain ⟨r3, e6, hm⟩ := bind_some hm
            refine WL.quiet (Runs.free rfl) rfl rfl (oq_con (r := (mkS r3)) Tryd.call33 rfl rfl (fun w' s => ⟨_, (ref12_Digits_con p_x.count  w' H1 s.hold hG r3 e6)⟩)) ?_
            obtain ⟨s3, e7, hm⟩ := bind_some hm
            refine WL.quiet (Runs.free rfl) rfl rfl (OV.quiet (ov_sadd' e7 rfl rfl rfl)) ?_
            obtain ⟨s4, e8, hm⟩ := bind_some hm
            refine WL.quiet (Runs.free rfl) rfl rfl (OV.quiet (ov_sadd' e8 rfl rfl rfl)) ?_
            refine WL.quiet (Runs.free rfl) rfl rfl (OV.quiet (ov_assign rfl rfl)) ?_
            refine WL.nil ?_
            refine then_normal ?_
            exact ⟨s4, (Sub.cons rfl (Sub.cons rfl (Sub.nil _))), fun w' s => s, hm⟩
          · replace hm := ite_f hc2 hm
            refine WP.skip ?_
            refine then_normal ?_
            exact ⟨s2, (Sub.cons rfl (Sub.cons rfl (Sub.nil _))), fun w' s => s, hm⟩
        · rintro g' S' ⟨s5, hsub1, hS1, hm⟩
          refine WP.sub hsub1 (WP.weaken hS1 ?_)
          replace hm := (congrFun hk1 s5).symm.trans hm
          obtain ⟨k2, hk2, hm⟩ := joinK_some hm
          refine WP.seq_join (fun g' S' => ∃ (s8 : (List UInt8)), Sub [(3, (mkS s8))] g' ∧ (∀ w', S' w' → St w H [] H1 w') ∧ k2 s8 = some r) ?_ ?_
          · skip
            refine WP.seq ?_
            refine WP.region ?_
            refine WL.quiet (Runs.free rfl) rfl rfl (OV.quiet (ov_fieldAddr Tryd.underlying38 rfl rfl rfl Tryd.sizeOf3 rfl rfl)) ?_
            refine WL.quiet (Runs.free rfl) rfl rfl (OV.quiet (ov_load_box (i := 0) Tryd.isAgg3 rfl rfl rfl rfl)) ?_
            refine WL.quiet (Runs.free rfl) rfl rfl (OV.quiet (ov_eql rfl rfl rfl)) ?_
            refine WL.nil ?_
            refine then_normal ?_
            refine WP.cond rfl (fun hc3 => ?_) (fun hc3 => ?_)
            · replace hm := ite_t hc3 hm
              refine WP.region ?_
              refine WL.quiet (Runs.free rfl) rfl rfl (OV.quiet (ov_move rfl rfl)) ?_
              refine WL.quiet (Runs.free rfl) rfl rfl (OV.quiet (ov_fieldAddr Tryd.underlying38 rfl rfl rfl Tryd.sizeOf3 rfl rfl)) ?_
              refine WL.quiet (Runs.free rfl) rfl rfl (OV.quiet (ov_load_box (i := 0) Tryd.isAgg3 rfl rfl rfl rfl)) ?_
              obtain ⟨r4, e9, hm⟩ := bind_some hm
              refine WL.quiet (Runs.free rfl) rfl rfl (oq_con (r := (mkS r4)) Tryd.call33 rfl rfl (fun w' s => ⟨_, (ref12_Digits_con p_x.strokes  w' H1 s.hold hG r4 e9)⟩)) ?_
              obtain ⟨s6, e10, hm⟩ := bind_some hm
              refine WL.quiet (Runs.free rfl) rfl rfl (OV.quiet (ov_sadd' e10 rfl rfl rfl)) ?_
              obtain ⟨s7, e11, hm⟩ := bind_some hm
              refine WL.quiet (Runs.free rfl) rfl rfl (OV.quiet (ov_sadd' e11 rfl rfl rfl)) ?_
              refine WL.quiet (Runs.free rfl) rfl rfl (OV.quiet (ov_assign rfl rfl)) ?_
              refine WL.nil ?_
              refine then_normal ?_
              exact ⟨s7, (Sub.cons rfl (Sub.nil _)), fun w' s => (s.select [] (by decide) rfl), hm⟩
            · replace hm := ite_f hc3 hm
              refine WP.skip ?_
              refine then_normal ?_
              exact ⟨s5, (Sub.cons rfl (Sub.nil _)), fun w' s => (s.select [] (by decide) rfl), hm⟩
          · rintro g' S' ⟨s8, hsub2, hS2, hm⟩
            refine WP.sub hsub2 (WP.weaken hS2 ?_)
            replace hm := (congrFun hk2 s8).symm.trans hm
            refine WP.seq ?_
            refine WP.region ?_
            refine WL.quiet (Runs.free rfl) rfl rfl (OV.quiet (ov_move rfl rfl)) ?_
            refine WL.quiet (Runs.free rfl) rfl rfl (OV.quiet (ov_assign rfl rfl)) ?_
            refine WL.nil ?_
            refine then_normal ?_
            refine WP.ret ?_
            obtain rfl := Option.some.inj hm
            refine retQ_ret Tryd.results73 (Res.tmp rfl Res.nil) rfl (fun w' s => ⟨s.below, ?_⟩)
            exact rfl
      exact ALs.nil
    exact ALs.nil
  exact ALs.nil

end Go.Proofs.YtpigfknmlmeihaaDoor.W
