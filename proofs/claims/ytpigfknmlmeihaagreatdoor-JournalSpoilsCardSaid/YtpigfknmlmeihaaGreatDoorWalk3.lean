/- The walks. Written by our own program gen.py; Lean checks it. -/
import Derived.Test.YtpigfknmlmeihaaGreatDoorPlain
import Derived.Test.YtpigfknmlmeihaaGreatDoorEqs
import Derived.Test.YtpigfknmlmeihaaGreatDoorProg
import Derived.Test.YtpigfknmlmeihaaGreatDoorExt
import Derived.Test.YtpigfknmlmeihaaGreatDoorClone
import Derived.Test.YtpigfknmlmeihaaGreatDoorInsert
import Derived.Test.YtpigfknmlmeihaaGreatDoorBuild
import Derived.Test.YtpigfknmlmeihaaGreatDoorWalk1
import Derived.Test.YtpigfknmlmeihaaGreatDoorWalk2
set_option linter.unusedVariables false
set_option maxRecDepth 100000
set_option maxHeartbeats 4000000
namespace Go.Proofs.YtpigfknmlmeihaaGreatDoor.W
open Go Go.RowKit
theorem journal_Do_con (p_m : Machine) (p_x : Entry) (ao1 : Option Addr) (cap1 : Nat) (w : World) (H : Heap) (hH : Le H (hp w)) (h1 : SL H encItem ao1 p_m.items) (hc1 : p_m.items.length ≤ cap1) (hG : Glob H) (r : (Machine × Int)) (hm : journal_Do p_m p_x = some r) :
  Con Tryz.prog 29 [(.agg #[(.slice ao1 p_m.items.length cap1), (.int .i64 p_m.cycles)]), (.agg #[(.int .i64 p_x.kind), (mkS p_x.name), (.int .i64 p_x.count), (.int .i64 p_x.strokes)])] w H (fun v H' => ∃ (ao2 : Option Addr) (cap2 : Nat), v = (.tuple #[(.agg #[(.slice ao2 r.1.items.length cap2), (.int .i64 r.1.cycles)]), (.int .i64 r.2)]) ∧ SL H' encItem ao2 r.1.items ∧ r.1.items.length ≤ cap2) := by
 unfold journal_Do at hm
 refine con_of hH Tryz.func29 rfl 25 Tryz.ntmps29 rfl ?_
 refine WP.seq (WP.region ?_)
 refine WL.step (Runs.free rfl) rfl rfl (os_box (cs := [(.slice ao1 p_m.items.length cap1), (.int .i64 p_m.cycles)]) rfl rfl rfl (fun b1 => ?_))
 refine WL.step (Runs.free rfl) rfl rfl (os_box (cs := [(.int .i64 p_x.kind), (mkS p_x.name), (.int .i64 p_x.count), (.int .i64 p_x.strokes)]) rfl rfl rfl (fun b2 => ?_))
 refine WL.step (Runs.free rfl) rfl rfl (os_alloc (cs := [(.slice none 0 0), (.int .i64 0)]) Tryz.zeroValue41 rfl rfl (fun b3 => ?_))
 refine wq rfl rfl rfl (ov_assign rfl rfl) ?_
 refine WL.nil (then_normal (WP.seq (WP.seq (WP.region ?_))))
 refine wq rfl rfl rfl (ov_load_whole (i := 2) Tryz.isAgg41 Tryz.sizeOf41 rfl rfl rfl rfl) ?_
 obtain ⟨r1, e1, hm⟩ := bind_some hm
 refine WL.quiet (Runs.free rfl) rfl rfl (oq_con (r := (.int .i64 r1)) Tryz.call63 rfl rfl (fun w' s => ⟨_, (journal_Check_con p_m ao1 cap1  w' H s.hold h1 hc1 hG r1 e1)⟩)) ?_
 refine wq rfl rfl rfl (ov_assign rfl rfl) ?_
 refine WL.nil (then_normal (WP.seq (WP.region ?_)))
 refine wq rfl rfl rfl (ov_move rfl rfl) ?_
 refine wq rfl rfl rfl (ov_neq rfl rfl rfl) ?_
 refine WL.nil (then_normal ?_)
 refine WP.cond rfl (fun hc3 => ?_) (fun hc3 => ?_)
 ·
  replace hm := ite_t hc3 hm
  refine WP.seq (WP.region ?_)
  refine wq rfl rfl rfl (ov_build (r := (.agg #[(.slice none 0 0), (.int .i64 0)])) rfl rfl (fun _ => by kernel_rfl)) ?_
  refine wq rfl rfl rfl (ov_move rfl rfl) ?_
  refine WL.step0 (Runs.free rfl) rfl (os_store (i := 0) (vs := [(.slice none 0 0), (.int .i64 0)]) (cs' := [(.slice none 0 0), (.int .i64 0)]) Tryz.sizeOf41 rfl rfl rfl rfl rfl rfl rfl rfl rfl ?_)
  refine wq rfl rfl rfl (ov_assign rfl rfl) ?_
  refine WL.nil (then_normal (WP.ret (then_ret ?_)))
  obtain rfl := Option.some.inj hm
  refine retQ_ret Tryz.results29 (Res.cell rfl (box_loads (i := 0) Tryz.isAgg41 Tryz.sizeOf41 rfl rfl) (Res.tmp rfl Res.nil)) rfl (fun w' s => ⟨s.below, ?_⟩)
  exact ⟨none, 0, rfl, SL.nil _ _ _, Nat.le_refl _⟩
 ·
  replace hm := ite_f hc3 hm
  refine WP.skip (then_normal (WP.seq (WP.seq (WP.region ?_))))
  refine wq rfl rfl rfl (ov_load_whole (i := 1) Tryz.isAgg23 Tryz.sizeOf23 rfl rfl rfl rfl) ?_
  obtain ⟨r2, e2, hm⟩ := bind_some hm
  refine WL.quiet (Runs.free rfl) rfl rfl (oq_con (r := (.int .i64 r2)) Tryz.call33 rfl rfl (fun w' s => ⟨_, (journal_Right_con p_x  w' H s.hold hG r2 e2)⟩)) ?_
  refine wq rfl rfl rfl (ov_assign rfl rfl) ?_
  refine WL.nil (then_normal (WP.seq (WP.region ?_)))
  refine wq rfl rfl rfl (ov_move rfl rfl) ?_
  refine wq rfl rfl rfl (ov_neq rfl rfl rfl) ?_
  refine WL.nil (then_normal ?_)
  refine WP.cond rfl (fun hc4 => ?_) (fun hc4 => ?_)
  ·
   replace hm := ite_t hc4 hm
   refine WP.seq (WP.region ?_)
   refine wq rfl rfl rfl (ov_build (r := (.agg #[(.slice none 0 0), (.int .i64 0)])) rfl rfl (fun _ => by kernel_rfl)) ?_
   refine wq rfl rfl rfl (ov_move rfl rfl) ?_
   refine WL.step0 (Runs.free rfl) rfl (os_store (i := 0) (vs := [(.slice none 0 0), (.int .i64 0)]) (cs' := [(.slice none 0 0), (.int .i64 0)]) Tryz.sizeOf41 rfl rfl rfl rfl rfl rfl rfl rfl rfl ?_)
   refine wq rfl rfl rfl (ov_assign rfl rfl) ?_
   refine WL.nil (then_normal (WP.ret (then_ret ?_)))
   obtain rfl := Option.some.inj hm
   refine retQ_ret Tryz.results29 (Res.cell rfl (box_loads (i := 0) Tryz.isAgg41 Tryz.sizeOf41 rfl rfl) (Res.tmp rfl Res.nil)) rfl (fun w' s => ⟨s.below, ?_⟩)
   exact ⟨none, 0, rfl, SL.nil _ _ _, Nat.le_refl _⟩
  ·
   replace hm := ite_f hc4 hm
   refine WP.skip (then_normal (WP.seq (WP.region ?_)))
   refine wq rfl rfl rfl (ov_load_whole (i := 2) Tryz.isAgg41 Tryz.sizeOf41 rfl rfl rfl rfl) ?_
   refine wq rfl rfl rfl (ov_load_whole (i := 1) Tryz.isAgg23 Tryz.sizeOf23 rfl rfl rfl rfl) ?_
   obtain ⟨r3, e3, hm⟩ := bind_some hm
   refine WL.step (Runs.free rfl) rfl rfl (os_con Tryz.call57 rfl rfl (fun w' s => (journal_done_con p_m p_x ao1 cap1  w' H s.hold h1 hc1 hG r3 e3)) (fun rr1 H1 hle1 hR1 => ?_))
   replace h1 := h1.mono hle1
   replace hG := hG.mono hle1
   obtain ⟨ao3, cap3, rfl, h3, hc5⟩ := hR1
   refine wq rfl rfl rfl (ov_extract rfl rfl rfl) ?_
   refine wq rfl rfl rfl (ov_extract rfl rfl rfl) ?_
   refine WL.step0 (Runs.free rfl) rfl (os_store (i := 0) (vs := [(.slice ao3 r3.1.items.length cap3), (.int .i64 r3.1.cycles)]) (cs' := [(.slice ao3 r3.1.items.length cap3), (.int .i64 r3.1.cycles)]) Tryz.sizeOf41 rfl rfl rfl rfl rfl rfl rfl rfl rfl ?_)
   refine wq rfl rfl rfl (ov_assign rfl rfl) ?_
   refine WL.nil (then_normal (WP.ret ?_))
   obtain rfl := Option.some.inj hm
   refine retQ_ret Tryz.results29 (Res.cell rfl (box_loads (i := 0) Tryz.isAgg41 Tryz.sizeOf41 rfl rfl) (Res.tmp rfl Res.nil)) rfl (fun w' s => ⟨s.below, ?_⟩)
   exact ⟨ao3, cap3, rfl, h3.mono s.le_newer, hc5⟩

theorem ref12_Digits_con (p_n : Int) (w : World) (H : Heap) (hH : Le H (hp w)) (hG : Glob H) (r : (List UInt8)) (hm : ref12_Digits p_n = some r) :
  Con Tryz.prog 30 [(.int .i64 p_n)] w H (fun v _ => v = (mkS r)) := by
 unfold ref12_Digits at hm
 refine con_of hH Tryz.func30 rfl 25 Tryz.ntmps30 rfl ?_
 refine WP.seq (WP.region ?_)
 refine wq rfl rfl rfl (ov_assign rfl rfl) ?_
 refine WL.nil (then_normal (WP.seq (WP.region ?_)))
 refine wq rfl rfl rfl (ov_move rfl rfl) ?_
 refine wq rfl rfl rfl (ov_rem rfl rfl rfl (by decide)) ?_
 refine wq rfl rfl rfl (ov_move rfl rfl) ?_
 refine wq rfl rfl rfl (ov_rem rfl rfl rfl (by decide)) ?_
 refine wq rfl rfl rfl (ov_add rfl rfl rfl) ?_
 obtain ⟨s1, e1, hm⟩ := bind_some hm
 refine wq rfl rfl rfl (ov_slice_string Tryz.underlying9 rfl rfl rfl rfl e1) ?_
 refine wq rfl rfl rfl (ov_assign rfl rfl) ?_
 refine WL.nil (then_normal ?_)
 obtain ⟨k1, hk1, hm⟩ := joinK_some hm
 refine WP.seq_join (fun g' S' => ∃ (s5 : (List UInt8)), Sub [(3, (mkS s5)), (1000000007, (.bool false))] g' ∧ (∀ w', S' w' → St w H [] H w') ∧ k1 s5 = some r) ?_ ?_
 ·
  skip
  refine WP.seq (WP.region ?_)
  refine wq rfl rfl rfl (ov_move rfl rfl) ?_
  refine wq rfl rfl rfl (ov_quo rfl rfl rfl (by decide)) ?_
  refine wq rfl rfl rfl (ov_assign rfl rfl) ?_
  refine WL.nil (then_normal (WP.block ?_))
  refine WP.loop (fun m1 g' S' => ∃ (i1 : Int) (s2 : (List UInt8)), Sub [(0, (.int .i64 i1)), (3, (mkS s2)), (1000000007, (.bool false))] g' ∧ (∀ w', S' w' → St w H [] H w') ∧ ref12_Digits_loop1 k1 m1 i1 s2 = some r) ((p_n.toNat + 2)) ⟨(IntKind.wrap .i64 (Int.tdiv p_n 10)), s1, (Sub.cons rfl (Sub.cons rfl (Sub.cons rfl (Sub.nil _)))), fun w' s => s, hm⟩ ?_ ?_
  ·
   rintro g' S' ⟨_, _, _, _, hm⟩
   exact none_some hm
  ·
   rintro m1 g' S' ⟨i1, s2, hsub1, hS1, hm⟩
   refine WP.sub hsub1 (WP.weaken hS1 ?_)
   rw [ref12_Digits_loop1] at hm
   refine WP.seq (WP.seq (WP.region ?_))
   refine wq rfl rfl rfl (ov_move rfl rfl) ?_
   refine wq rfl rfl rfl (ov_gtr rfl rfl rfl) ?_
   refine WL.nil (then_normal ?_)
   refine WP.cond rfl (fun hc1 => ?_) (fun hc1 => ?_)
   ·
    replace hm := ite_t hc1 hm
    refine WP.skip (then_normal (WP.seq (WP.block (WP.region ?_))))
    refine wq rfl rfl rfl (ov_move rfl rfl) ?_
    refine wq rfl rfl rfl (ov_rem rfl rfl rfl (by decide)) ?_
    refine wq rfl rfl rfl (ov_move rfl rfl) ?_
    refine wq rfl rfl rfl (ov_rem rfl rfl rfl (by decide)) ?_
    refine wq rfl rfl rfl (ov_add rfl rfl rfl) ?_
    obtain ⟨s3, e2, hm⟩ := bind_some hm
    refine wq rfl rfl rfl (ov_slice_string Tryz.underlying9 rfl rfl rfl rfl e2) ?_
    refine wq rfl rfl rfl (ov_move rfl rfl) ?_
    obtain ⟨s4, e3, hm⟩ := bind_some hm
    refine wq rfl rfl rfl (ov_sadd' e3 rfl rfl rfl) ?_
    refine wq rfl rfl rfl (ov_assign rfl rfl) ?_
    refine WL.nil (block_normal (then_normal (WP.region ?_)))
    refine wq rfl rfl rfl (ov_move rfl rfl) ?_
    refine wq rfl rfl rfl (ov_quo rfl rfl rfl (by decide)) ?_
    refine wq rfl rfl rfl (ov_assign rfl rfl) ?_
    refine WL.nil (then_normal ?_)
    exact ⟨(IntKind.wrap .i64 (Int.tdiv i1 10)), s4, (Sub.cons rfl (Sub.cons rfl (Sub.cons rfl (Sub.nil _)))), fun w' s => s, hm⟩
   ·
    replace hm := ite_f hc1 hm
    refine WP.exit (then_exit (then_exit (block_here (then_normal ?_))))
    exact ⟨s2, (Sub.cons rfl (Sub.cons rfl (Sub.nil _))), fun w' s => s, hm⟩
 ·
  rintro g' S' ⟨s5, hsub2, hS2, hm⟩
  refine WP.sub hsub2 (WP.weaken hS2 ?_)
  replace hm := (congrFun hk1 s5).symm.trans hm
  refine WP.seq (WP.region ?_)
  refine wq rfl rfl rfl (ov_move rfl rfl) ?_
  refine wq rfl rfl rfl (ov_assign rfl rfl) ?_
  refine WL.nil (then_normal (WP.ret ?_))
  obtain rfl := Option.some.inj hm
  refine retQ_ret Tryz.results30 (Res.tmp rfl Res.nil) rfl (fun w' s => ⟨s.below, ?_⟩)
  exact rfl

theorem ref58_Mark_con (p_before : Int) (p_s : (List UInt8)) (w : World) (H : Heap) (hH : Le H (hp w)) (hG : Glob H) (r : Int) (hm : ref58_Mark p_before p_s = some r) :
  Con Tryz.prog 31 [(.int .i64 p_before), (mkS p_s)] w H (fun v _ => v = (.int .i64 r)) := by
 unfold ref58_Mark at hm
 refine con_of hH Tryz.func31 rfl 29 Tryz.ntmps31 rfl ?_
 refine WP.seq (WP.region ?_)
 refine wq rfl rfl rfl (ov_assign rfl rfl) ?_
 refine WL.nil (then_normal (WP.seq (WP.region ?_)))
 refine wq rfl rfl rfl (ov_move rfl rfl) ?_
 refine wq rfl rfl rfl (ov_rem rfl rfl rfl (by decide)) ?_
 refine wq rfl rfl rfl (ov_assign rfl rfl) ?_
 refine WL.nil (then_normal ?_)
 obtain ⟨k1, hk1, hm⟩ := joinK_some hm
 refine WP.seq_join (fun g' S' => ∃ (i1 : Int), Sub [(1, (mkS p_s)), (5, (.int .i64 i1)), (1000000007, (.bool false))] g' ∧ (∀ w', S' w' → St w H [] H w') ∧ k1 i1 = some r) ?_ ?_
 ·
  skip
  refine WP.seq (WP.region ?_)
  refine wq rfl rfl rfl (ov_move rfl rfl) ?_
  refine wq rfl rfl rfl (ov_lss rfl rfl rfl) ?_
  refine WL.nil (then_normal ?_)
  refine WP.cond rfl (fun hc1 => ?_) (fun hc1 => ?_)
  ·
   replace hm := ite_t hc1 hm
   refine WP.region ?_
   refine wq rfl rfl rfl (ov_move rfl rfl) ?_
   refine wq rfl rfl rfl (ov_add rfl rfl rfl) ?_
   refine wq rfl rfl rfl (ov_assign rfl rfl) ?_
   refine WL.nil (then_normal ?_)
   exact ⟨(IntKind.wrap .i64 ((Int.tmod p_before 65521) + 65521)), (Sub.cons rfl (Sub.cons rfl (Sub.cons rfl (Sub.nil _)))), fun w' s => s, hm⟩
  ·
   replace hm := ite_f hc1 hm
   refine WP.skip (then_normal ?_)
   exact ⟨(Int.tmod p_before 65521), (Sub.cons rfl (Sub.cons rfl (Sub.cons rfl (Sub.nil _)))), fun w' s => s, hm⟩
 ·
  rintro g' S' ⟨i1, hsub1, hS1, hm⟩
  refine WP.sub hsub1 (WP.weaken hS1 ?_)
  replace hm := (congrFun hk1 i1).symm.trans hm
  obtain ⟨k2, hk2, hm⟩ := joinK_some hm
  refine WP.seq_join (fun g' S' => ∃ (i4 : Int), Sub [(5, (.int .i64 i4)), (1000000007, (.bool false))] g' ∧ (∀ w', S' w' → St w H [] H w') ∧ k2 i4 = some r) ?_ ?_
  ·
   skip
   refine WP.seq (WP.region ?_)
   refine wq rfl rfl rfl (ov_assign rfl rfl) ?_
   refine WL.nil (then_normal (WP.block ?_))
   refine WP.loop (fun m1 g' S' => ∃ (i2 : Int) (i3 : Int), Sub [(1, (mkS p_s)), (5, (.int .i64 i2)), (6, (.int .i64 i3)), (1000000007, (.bool false))] g' ∧ (∀ w', S' w' → St w H [] H w') ∧ ref58_Mark_loop1 p_s k2 m1 i2 i3 = some r) ((Int.toNat ((p_s.length : Int) - 0) + 1)) ⟨i1, 0, (Sub.cons rfl (Sub.cons rfl (Sub.cons rfl (Sub.cons rfl (Sub.nil _))))), fun w' s => s, hm⟩ ?_ ?_
   ·
    rintro g' S' ⟨_, _, _, _, hm⟩
    exact none_some hm
   ·
    rintro m1 g' S' ⟨i2, i3, hsub2, hS2, hm⟩
    refine WP.sub hsub2 (WP.weaken hS2 ?_)
    rw [ref58_Mark_loop1] at hm
    refine WP.seq (WP.seq (WP.region ?_))
    refine wq rfl rfl rfl (ov_move rfl rfl) ?_
    refine wq rfl rfl rfl (ov_move rfl rfl) ?_
    refine wq rfl rfl rfl (ov_len_string Tryz.underlying9 rfl rfl) ?_
    refine wq rfl rfl rfl (ov_lss rfl rfl rfl) ?_
    refine WL.nil (then_normal ?_)
    refine WP.cond rfl (fun hc2 => ?_) (fun hc2 => ?_)
    ·
     replace hm := ite_t hc2 hm
     refine WP.skip (then_normal (WP.seq (WP.block (WP.region ?_))))
     refine wq rfl rfl rfl (ov_move rfl rfl) ?_
     refine wq rfl rfl rfl (ov_mul rfl rfl rfl) ?_
     refine wq rfl rfl rfl (ov_move rfl rfl) ?_
     refine wq rfl rfl rfl (ov_move rfl rfl) ?_
     obtain ⟨b1, e1, hm⟩ := bind_some hm
     refine wq rfl rfl rfl (ov_index_string Tryz.underlying9 rfl rfl rfl e1) ?_
     refine wq rfl rfl rfl (ov_convert_int Tryz.underlying5 Tryz.underlying3 rfl rfl) ?_
     refine wq rfl rfl rfl (ov_add rfl rfl rfl) ?_
     refine wq rfl rfl rfl (ov_add rfl rfl rfl) ?_
     refine wq rfl rfl rfl (ov_rem rfl rfl rfl (by decide)) ?_
     refine wq rfl rfl rfl (ov_assign rfl rfl) ?_
     refine WL.nil (block_normal (then_normal (WP.region ?_)))
     refine wq rfl rfl rfl (ov_move rfl rfl) ?_
     refine wq rfl rfl rfl (ov_add rfl rfl rfl) ?_
     refine wq rfl rfl rfl (ov_assign rfl rfl) ?_
     refine WL.nil (then_normal ?_)
     exact ⟨(Int.tmod (IntKind.wrap .i64 ((IntKind.wrap .i64 ((IntKind.wrap .i64 (31 * i2)) + (IntKind.wrap .i64 (b1.toNat : Int)))) + 7)) 65521), (IntKind.wrap .i64 (i3 + 1)), (Sub.cons rfl (Sub.cons rfl (Sub.cons rfl (Sub.cons rfl (Sub.nil _))))), fun w' s => s, hm⟩
    ·
     replace hm := ite_f hc2 hm
     refine WP.exit (then_exit (then_exit (block_here (then_normal ?_))))
     exact ⟨i2, (Sub.cons rfl (Sub.cons rfl (Sub.nil _))), fun w' s => s, hm⟩
  ·
   rintro g' S' ⟨i4, hsub3, hS3, hm⟩
   refine WP.sub hsub3 (WP.weaken hS3 ?_)
   replace hm := (congrFun hk2 i4).symm.trans hm
   refine WP.seq (WP.region ?_)
   refine wq rfl rfl rfl (ov_move rfl rfl) ?_
   refine wq rfl rfl rfl (ov_assign rfl rfl) ?_
   refine WL.nil (then_normal (WP.ret ?_))
   obtain rfl := Option.some.inj hm
   refine retQ_ret Tryz.results31 (Res.tmp rfl Res.nil) rfl (fun w' s => ⟨s.below, ?_⟩)
   exact rfl

theorem slices_Equal_journal_Itemjournal_Item_con (p_s1 : (List Item)) (p_s2 : (List Item)) (ao1 : Option Addr) (cap1 : Nat) (ao2 : Option Addr) (cap2 : Nat) (w : World) (H : Heap) (hH : Le H (hp w)) (h1 : SL H encItem ao1 p_s1) (hc1 : p_s1.length ≤ cap1) (h2 : SL H encItem ao2 p_s2) (hc2 : p_s2.length ≤ cap2) (hG : Glob H) (r : Bool) (hm : slices_Equal_journal_Itemjournal_Item p_s1 p_s2 = some r) :
  Con Tryz.prog 32 [(.slice ao1 p_s1.length cap1), (.slice ao2 p_s2.length cap2)] w H (fun v _ => v = (.bool r)) := by
 unfold slices_Equal_journal_Itemjournal_Item at hm
 refine con_of hH Tryz.func32 rfl 26 Tryz.ntmps32 rfl ?_
 refine WP.seq (WP.region ?_)
 refine wq rfl rfl rfl (ov_assign rfl rfl) ?_
 refine WL.nil (then_normal (WP.seq (WP.seq (WP.region ?_))))
 refine wq rfl rfl rfl (ov_move rfl rfl) ?_
 refine wq rfl rfl rfl (ov_len_slice Tryz.underlying39 rfl rfl) ?_
 refine wq rfl rfl rfl (ov_move rfl rfl) ?_
 refine wq rfl rfl rfl (ov_len_slice Tryz.underlying39 rfl rfl) ?_
 refine wq rfl rfl rfl (ov_neq rfl rfl rfl) ?_
 refine WL.nil (then_normal ?_)
 refine WP.cond rfl (fun hc3 => ?_) (fun hc3 => ?_)
 ·
  replace hm := ite_t hc3 hm
  refine WP.seq (WP.region ?_)
  refine wq rfl rfl rfl (ov_assign rfl rfl) ?_
  refine WL.nil (then_normal (WP.ret (then_ret ?_)))
  obtain rfl := Option.some.inj hm
  refine retQ_ret Tryz.results32 (Res.tmp rfl Res.nil) rfl (fun w' s => ⟨s.below, ?_⟩)
  exact rfl
 ·
  replace hm := ite_f hc3 hm
  refine WP.skip (then_normal ?_)
  obtain ⟨k1, hk1, hm⟩ := joinK_some hm
  refine WP.seq_join (fun g' S' => Sub [(1000000007, (.bool false))] g' ∧ (∀ w', S' w' → St w H [] H w') ∧ k1 = some r) ?_ ?_
  ·
   skip
   refine WP.seq (WP.region ?_)
   refine wq rfl rfl rfl (ov_move rfl rfl) ?_
   refine wq rfl rfl rfl (ov_len_slice Tryz.underlying39 rfl rfl) ?_
   refine wq rfl rfl rfl (ov_move rfl rfl) ?_
   refine WL.nil (then_normal (WP.block ?_))
   refine WP.loop (fun m1 g' S' => ∃ (i1 : Int), Sub [(0, (.slice ao1 p_s1.length cap1)), (1, (.slice ao2 p_s2.length cap2)), (12, (.int .i64 (p_s1.length : Int))), (13, (.int .i64 i1)), (1000000007, (.bool false))] g' ∧ (∀ w', S' w' → St w H [] H w') ∧ slices_Equal_journal_Itemjournal_Item_loop1 p_s1 p_s2 k1 m1 i1 = some r) ((Int.toNat ((p_s1.length : Int) - 0) + 1)) ⟨0, (Sub.cons rfl (Sub.cons rfl (Sub.cons rfl (Sub.cons rfl (Sub.cons rfl (Sub.nil _)))))), fun w' s => s, hm⟩ ?_ ?_
   ·
    rintro g' S' ⟨_, _, _, hm⟩
    exact none_some hm
   ·
    rintro m1 g' S' ⟨i1, hsub1, hS1, hm⟩
    refine WP.sub hsub1 (WP.weaken hS1 ?_)
    rw [slices_Equal_journal_Itemjournal_Item_loop1] at hm
    refine WP.seq (WP.region ?_)
    refine wq rfl rfl rfl (ov_lss rfl rfl rfl) ?_
    refine WL.nil (then_normal (WP.seq ?_))
    refine WP.cond rfl (fun hc4 => ?_) (fun hc4 => ?_)
    ·
     replace hm := ite_t hc4 hm
     refine WP.skip (then_normal (WP.seq (WP.block (WP.seq (WP.region ?_)))))
     refine wq rfl rfl rfl (ov_move rfl rfl) ?_
     refine wq rfl rfl rfl (ov_assign rfl rfl) ?_
     refine WL.nil (then_normal (WP.seq ?_))
     refine WP.region_draws (by kernel_rfl) (by kernel_rfl) (fun _ s => s.drew) ?_
     refine QL.quiet (Runs.free rfl) rfl rfl (OV.quiet (ov_move rfl rfl)) ?_
     refine QL.quiet (Runs.free rfl) rfl rfl (OV.quiet (ov_move rfl rfl)) ?_
     obtain ⟨x1, e1, hm⟩ := bind_some hm
     obtain ⟨h3, h4, h5, cs1, h6, h7⟩ := h1.get e1 (by decide)
     obtain rfl : cs1 = [(mkS x1.name), (.int .i64 x1.life), (.int .i64 x1.used), (.int .i64 x1.faults), (.bool x1.faulty), (.int .i64 x1.since), (.int .i64 x1.cycles)] := h6
     refine QL.quiet (Runs.free rfl) rfl rfl (OV.quiet (ov_indexAddr Tryz.underlying39 Tryz.sizeOf73 rfl rfl rfl h3 h4 h5)) ?_
     refine QL.quiet (Runs.free rfl) rfl rfl (OV.quiet (ov_load_elems (vs := [(mkS x1.name), (.int .i64 x1.life), (.int .i64 x1.used), (.int .i64 x1.faults), (.bool x1.faulty), (.int .i64 x1.since), (.int .i64 x1.cycles)]) Tryz.isAgg73 Tryz.sizeOf73 rfl rfl rfl h7 h5)) ?_
     refine QL.quiet (Runs.free rfl) rfl rfl (OV.quiet (ov_move rfl rfl)) ?_
     refine QL.quiet (Runs.free rfl) rfl rfl (OV.quiet (ov_move rfl rfl)) ?_
     obtain ⟨x2, e2, hm⟩ := bind_some hm
     obtain ⟨h8, h9, h10, cs2, h11, h12⟩ := h2.get e2 (by decide)
     obtain rfl : cs2 = [(mkS x2.name), (.int .i64 x2.life), (.int .i64 x2.used), (.int .i64 x2.faults), (.bool x2.faulty), (.int .i64 x2.since), (.int .i64 x2.cycles)] := h11
     refine QL.quiet (Runs.free rfl) rfl rfl (OV.quiet (ov_indexAddr Tryz.underlying39 Tryz.sizeOf73 rfl rfl rfl h8 h9 h10)) ?_
     refine QL.quiet (Runs.free rfl) rfl rfl (OV.quiet (ov_load_elems (vs := [(mkS x2.name), (.int .i64 x2.life), (.int .i64 x2.used), (.int .i64 x2.faults), (.bool x2.faulty), (.int .i64 x2.since), (.int .i64 x2.cycles)]) Tryz.isAgg73 Tryz.sizeOf73 rfl rfl rfl h12 h10)) ?_
     refine QL.quiet (Runs.free rfl) rfl rfl (OV.quiet (neq_struct73 rfl rfl rfl)) ?_
     refine QL.nil ?_
     refine then_normal ?_
     refine WP.cond rfl (fun hc5 => ?_) (fun hc5 => ?_)
     ·
      replace hm := ite_t hc5 hm
      refine WP.seq (WP.region ?_)
      refine wq rfl rfl rfl (ov_assign rfl rfl) ?_
      refine WL.nil (then_normal (WP.ret (block_ret (then_ret (then_ret (block_ret (then_ret ?_)))))))
      obtain rfl := Option.some.inj hm
      refine retQ_ret Tryz.results32 (Res.tmp rfl Res.nil) rfl (fun w' s => ⟨s.below, ?_⟩)
      exact rfl
     ·
      replace hm := ite_f hc5 hm
      refine WP.skip (block_normal (then_normal (WP.region ?_)))
      refine wq rfl rfl rfl (ov_add rfl rfl rfl) ?_
      refine wq rfl rfl rfl (ov_move rfl rfl) ?_
      refine WL.nil (then_normal ?_)
      exact ⟨(IntKind.wrap .i64 (i1 + 1)), (Sub.cons rfl (Sub.cons rfl (Sub.cons rfl (Sub.cons rfl (Sub.cons rfl (Sub.nil _)))))), fun w' s => s, hm⟩
    ·
     replace hm := ite_f hc4 hm
     refine WP.exit (then_exit (then_exit (block_here (then_normal ?_))))
     exact ⟨(Sub.cons rfl (Sub.nil _)), fun w' s => s, hm⟩
  ·
   rintro g' S' ⟨hsub2, hS2, hm⟩
   refine WP.sub hsub2 (WP.weaken hS2 ?_)
   replace hm := hk1.symm.trans hm
   refine WP.seq (WP.region ?_)
   refine wq rfl rfl rfl (ov_assign rfl rfl) ?_
   refine WL.nil (then_normal (WP.ret ?_))
   obtain rfl := Option.some.inj hm
   refine retQ_ret Tryz.results32 (Res.tmp rfl Res.nil) rfl (fun w' s => ⟨s.below, ?_⟩)
   exact rfl

theorem law58_awake_con  (w : World) (H : Heap) (hH : Le H (hp w)) (hG : Glob H) (r : Bool) (hm : law58_awake  = some r) :
  Con Tryz.prog 8 [] w H (fun v _ => v = (.bool r)) := by
 unfold law58_awake at hm
 refine con_of hH Tryz.func8 rfl 123 Tryz.ntmps8 rfl ?_
 refine WP.seq (WP.region ?_)
 refine wq rfl rfl rfl (ov_assign rfl rfl) ?_
 refine WL.nil (then_normal (WP.seq (WP.region ?_)))
 obtain ⟨r1, e1, hm⟩ := bind_some hm
 refine WL.step (Runs.free rfl) rfl rfl (os_con Tryz.call26 rfl rfl (fun w' s => (law58_Four_con   w' H s.hold hG r1 e1)) (fun rr1 H1 hle1 hR1 => ?_))
 replace hG := hG.mono hle1
 obtain ⟨ao1, cap1, rfl, h1, hc1⟩ := hR1
 obtain ⟨r2, e2, hm⟩ := bind_some hm
 refine WL.step (Runs.free rfl) rfl rfl (os_con Tryz.call23 rfl rfl (fun w' s => (journal_Run_con r1 ao1 cap1  w' H1 s.hold h1 hc1 hG r2 e2)) (fun rr2 H2 hle2 hR2 => ?_))
 replace h1 := h1.mono hle2
 replace hG := hG.mono hle2
 obtain ⟨ao2, cap2, rfl, h2, hc2⟩ := hR2
 refine wq rfl rfl rfl (ov_move rfl rfl) ?_
 refine wq rfl rfl rfl (ov_extract rfl rfl rfl) ?_
 refine wq rfl rfl rfl (ov_extract rfl rfl rfl) ?_
 refine wq rfl rfl rfl (ov_extract rfl rfl rfl) ?_
 refine WL.step (Runs.free rfl) rfl rfl (os_alloc (cs := [(.slice none 0 0), (.int .i64 0)]) Tryz.zeroValue41 rfl rfl (fun b1 => ?_))
 refine WL.step0 (Runs.free rfl) rfl (os_store (i := 0) (vs := [(.slice ao2 r2.1.items.length cap2), (.int .i64 r2.1.cycles)]) (cs' := [(.slice ao2 r2.1.items.length cap2), (.int .i64 r2.1.cycles)]) Tryz.sizeOf41 rfl rfl rfl rfl rfl rfl rfl rfl rfl ?_)
 refine wq rfl rfl rfl (ov_assign rfl rfl) ?_
 refine wq rfl rfl rfl (ov_assign rfl rfl) ?_
 refine WL.nil (then_normal (WP.seq (WP.region ?_)))
 refine wq rfl rfl rfl (ov_load_whole (i := 0) Tryz.isAgg41 Tryz.sizeOf41 rfl rfl rfl rfl) ?_
 obtain ⟨r3, e3, hm⟩ := bind_some hm
 refine WL.quiet (Runs.free rfl) rfl rfl (oq_con (r := (.tuple #[(.int .i64 r3.1), (.int .i64 r3.2)])) Tryz.call27 rfl rfl (fun w' s => ⟨_, (journal_Left_con r2.1 [65] 20 ao2 cap2  w' H2 s.hold h2 hc2 hG r3 e3)⟩)) ?_
 refine wq rfl rfl rfl (ov_move rfl rfl) ?_
 refine wq rfl rfl rfl (ov_extract rfl rfl rfl) ?_
 refine wq rfl rfl rfl (ov_extract rfl rfl rfl) ?_
 refine wq rfl rfl rfl (ov_assign rfl rfl) ?_
 refine wq rfl rfl rfl (ov_assign rfl rfl) ?_
 refine WL.nil (then_normal (WP.seq (WP.region ?_)))
 refine wq rfl rfl rfl (ov_load_whole (i := 0) Tryz.isAgg41 Tryz.sizeOf41 rfl rfl rfl rfl) ?_
 obtain ⟨r4, e4, hm⟩ := bind_some hm
 refine WL.step (Runs.free rfl) rfl rfl (os_con Tryz.call28 rfl rfl (fun w' s => (journal_Due_con r2.1 ao2 cap2  w' H2 s.hold h2 hc2 hG r4 e4)) (fun rr3 H3 hle3 hR3 => ?_))
 replace h1 := h1.mono hle3
 replace h2 := h2.mono hle3
 replace hG := hG.mono hle3
 obtain ⟨ao3, cap3, rfl, h3, hc3⟩ := hR3
 refine wq rfl rfl rfl (ov_move rfl rfl) ?_
 refine wq rfl rfl rfl (ov_extract rfl rfl rfl) ?_
 refine wq rfl rfl rfl (ov_extract rfl rfl rfl) ?_
 refine wq rfl rfl rfl (ov_assign rfl rfl) ?_
 refine wq rfl rfl rfl (ov_assign rfl rfl) ?_
 refine WL.nil (then_normal (WP.seq (WP.region ?_)))
 obtain ⟨r5, e5, hm⟩ := bind_some hm
 refine WL.step (Runs.free rfl) rfl rfl (os_con Tryz.call26 rfl rfl (fun w' s => (law58_Four_con   w' H3 s.hold hG r5 e5)) (fun rr4 H4 hle4 hR4 => ?_))
 replace h1 := h1.mono hle4
 replace h2 := h2.mono hle4
 replace h3 := h3.mono hle4
 replace hG := hG.mono hle4
 obtain ⟨ao4, cap4, rfl, h4, hc4⟩ := hR4
 obtain ⟨l1, e6, hm⟩ := bind_some hm
 obtain ⟨ao5, cap5, h5, h6, hc5⟩ := sl_h h4 hc4 e6
 refine wq rfl rfl rfl (h5 Tryz.underlying52 Tryz.sizeOf23 rfl rfl rfl ) ?_
 obtain ⟨r6, e7, hm⟩ := bind_some hm
 refine WL.step (Runs.free rfl) rfl rfl (os_con Tryz.call23 rfl rfl (fun w' s => (journal_Run_con l1 ao5 cap5  w' H4 s.hold h6 hc5 hG r6 e7)) (fun rr5 H5 hle5 hR5 => ?_))
 replace h1 := h1.mono hle5
 replace h2 := h2.mono hle5
 replace h3 := h3.mono hle5
 replace h4 := h4.mono hle5
 replace h6 := h6.mono hle5
 replace hG := hG.mono hle5
 obtain ⟨ao6, cap6, rfl, h7, hc6⟩ := hR5
 refine wq rfl rfl rfl (ov_move rfl rfl) ?_
 refine wq rfl rfl rfl (ov_extract rfl rfl rfl) ?_
 refine wq rfl rfl rfl (ov_extract rfl rfl rfl) ?_
 refine wq rfl rfl rfl (ov_extract rfl rfl rfl) ?_
 refine WL.step (Runs.free rfl) rfl rfl (os_alloc (cs := [(.slice none 0 0), (.int .i64 0)]) Tryz.zeroValue41 rfl rfl (fun b2 => ?_))
 refine WL.step0 (Runs.free rfl) rfl (os_store (i := 0) (vs := [(.slice ao6 r6.1.items.length cap6), (.int .i64 r6.1.cycles)]) (cs' := [(.slice ao6 r6.1.items.length cap6), (.int .i64 r6.1.cycles)]) Tryz.sizeOf41 rfl rfl rfl rfl rfl rfl rfl rfl rfl ?_)
 refine wq rfl rfl rfl (ov_assign rfl rfl) ?_
 refine wq rfl rfl rfl (ov_assign rfl rfl) ?_
 refine WL.nil (then_normal (WP.seq (WP.region ?_)))
 refine wq rfl rfl rfl (ov_load_whole (i := 0) Tryz.isAgg41 Tryz.sizeOf41 rfl rfl rfl rfl) ?_
 refine wq rfl rfl rfl (ov_build (r := (.agg #[(.int .i64 1), (mkS [65]), (.int .i64 1), (.int .i64 20)])) rfl rfl (fun _ => by kernel_rfl)) ?_
 obtain ⟨r7, e8, hm⟩ := bind_some hm
 refine WL.step (Runs.free rfl) rfl rfl (os_con Tryz.call29 rfl rfl (fun w' s => (journal_Do_con r6.1 (Entry.mk 1 [65] 1 20) ao6 cap6  w' H5 s.hold h7 hc6 hG r7 e8)) (fun rr6 H6 hle6 hR6 => ?_))
 replace h1 := h1.mono hle6
 replace h2 := h2.mono hle6
 replace h3 := h3.mono hle6
 replace h4 := h4.mono hle6
 replace h6 := h6.mono hle6
 replace h7 := h7.mono hle6
 replace hG := hG.mono hle6
 obtain ⟨ao7, cap7, rfl, h8, hc7⟩ := hR6
 refine wq rfl rfl rfl (ov_move rfl rfl) ?_
 refine wq rfl rfl rfl (ov_extract rfl rfl rfl) ?_
 refine wq rfl rfl rfl (ov_extract rfl rfl rfl) ?_
 refine WL.step (Runs.free rfl) rfl rfl (os_alloc (cs := [(.slice none 0 0), (.int .i64 0)]) Tryz.zeroValue41 rfl rfl (fun b3 => ?_))
 refine WL.step0 (Runs.free rfl) rfl (os_store (i := 0) (vs := [(.slice ao7 r7.1.items.length cap7), (.int .i64 r7.1.cycles)]) (cs' := [(.slice ao7 r7.1.items.length cap7), (.int .i64 r7.1.cycles)]) Tryz.sizeOf41 rfl rfl rfl rfl rfl rfl rfl rfl rfl ?_)
 refine wq rfl rfl rfl (ov_assign rfl rfl) ?_
 refine WL.nil (then_normal (WP.seq (WP.region ?_)))
 refine wq rfl rfl rfl (ov_load_whole (i := 2) Tryz.isAgg41 Tryz.sizeOf41 rfl rfl rfl rfl) ?_
 refine wq rfl rfl rfl (ov_build (r := (.agg #[(.int .i64 3), (mkS [65]), (.int .i64 0), (.int .i64 0)])) rfl rfl (fun _ => by kernel_rfl)) ?_
 obtain ⟨r8, e9, hm⟩ := bind_some hm
 refine WL.step (Runs.free rfl) rfl rfl (os_con Tryz.call29 rfl rfl (fun w' s => (journal_Do_con r2.1 (Entry.mk 3 [65] 0 0) ao2 cap2  w' H6 s.hold h2 hc2 hG r8 e9)) (fun rr7 H7 hle7 hR7 => ?_))
 replace h1 := h1.mono hle7
 replace h2 := h2.mono hle7
 replace h3 := h3.mono hle7
 replace h4 := h4.mono hle7
 replace h6 := h6.mono hle7
 replace h7 := h7.mono hle7
 replace h8 := h8.mono hle7
 replace hG := hG.mono hle7
 obtain ⟨ao8, cap8, rfl, h9, hc8⟩ := hR7
 refine wq rfl rfl rfl (ov_move rfl rfl) ?_
 refine wq rfl rfl rfl (ov_extract rfl rfl rfl) ?_
 refine wq rfl rfl rfl (ov_extract rfl rfl rfl) ?_
 refine WL.step (Runs.free rfl) rfl rfl (os_alloc (cs := [(.slice none 0 0), (.int .i64 0)]) Tryz.zeroValue41 rfl rfl (fun b4 => ?_))
 refine WL.step0 (Runs.free rfl) rfl (os_store (i := 0) (vs := [(.slice ao8 r8.1.items.length cap8), (.int .i64 r8.1.cycles)]) (cs' := [(.slice ao8 r8.1.items.length cap8), (.int .i64 r8.1.cycles)]) Tryz.sizeOf41 rfl rfl rfl rfl rfl rfl rfl rfl rfl ?_)
 refine wq rfl rfl rfl (ov_assign rfl rfl) ?_
 refine WL.nil (then_normal (WP.seq (WP.region ?_)))
 refine wq rfl rfl rfl (ov_load_whole (i := 3) Tryz.isAgg41 Tryz.sizeOf41 rfl rfl rfl rfl) ?_
 refine wq rfl rfl rfl (ov_build (r := (.agg #[(.int .i64 0), (mkS [65]), (.int .i64 5), (.int .i64 0)])) rfl rfl (fun _ => by kernel_rfl)) ?_
 obtain ⟨r9, e10, hm⟩ := bind_some hm
 refine WL.step (Runs.free rfl) rfl rfl (os_con Tryz.call29 rfl rfl (fun w' s => (journal_Do_con r2.1 (Entry.mk 0 [65] 5 0) ao2 cap2  w' H7 s.hold h2 hc2 hG r9 e10)) (fun rr8 H8 hle8 hR8 => ?_))
 replace h1 := h1.mono hle8
 replace h2 := h2.mono hle8
 replace h3 := h3.mono hle8
 replace h4 := h4.mono hle8
 replace h6 := h6.mono hle8
 replace h7 := h7.mono hle8
 replace h8 := h8.mono hle8
 replace h9 := h9.mono hle8
 replace hG := hG.mono hle8
 obtain ⟨ao9, cap9, rfl, h10, hc9⟩ := hR8
 refine wq rfl rfl rfl (ov_move rfl rfl) ?_
 refine wq rfl rfl rfl (ov_extract rfl rfl rfl) ?_
 refine wq rfl rfl rfl (ov_extract rfl rfl rfl) ?_
 refine WL.step (Runs.free rfl) rfl rfl (os_alloc (cs := [(.slice none 0 0), (.int .i64 0)]) Tryz.zeroValue41 rfl rfl (fun b5 => ?_))
 refine WL.step0 (Runs.free rfl) rfl (os_store (i := 0) (vs := [(.slice ao9 r9.1.items.length cap9), (.int .i64 r9.1.cycles)]) (cs' := [(.slice ao9 r9.1.items.length cap9), (.int .i64 r9.1.cycles)]) Tryz.sizeOf41 rfl rfl rfl rfl rfl rfl rfl rfl rfl ?_)
 refine wq rfl rfl rfl (ov_assign rfl rfl) ?_
 refine WL.nil (then_normal (WP.seq (WP.region ?_)))
 obtain ⟨r10, e11, hm⟩ := bind_some hm
 refine WL.step (Runs.free rfl) rfl rfl (os_con Tryz.call26 rfl rfl (fun w' s => (law58_Four_con   w' H8 s.hold hG r10 e11)) (fun rr9 H9 hle9 hR9 => ?_))
 replace h1 := h1.mono hle9
 replace h2 := h2.mono hle9
 replace h3 := h3.mono hle9
 replace h4 := h4.mono hle9
 replace h6 := h6.mono hle9
 replace h7 := h7.mono hle9
 replace h8 := h8.mono hle9
 replace h9 := h9.mono hle9
 replace h10 := h10.mono hle9
 replace hG := hG.mono hle9
 obtain ⟨ao10, cap10, rfl, h11, hc10⟩ := hR9
 obtain ⟨l2, e12, hm⟩ := bind_some hm
 obtain ⟨ao11, cap11, h12, h13, hc11⟩ := sl_h h11 hc10 e12
 refine wq rfl rfl rfl (h12 Tryz.underlying52 Tryz.sizeOf23 rfl rfl rfl ) ?_
 obtain ⟨r11, e13, hm⟩ := bind_some hm
 refine WL.quiet (Runs.free rfl) rfl rfl (oq_con (r := (.tuple #[(mkS r11.1), (.int .i64 r11.2)])) Tryz.call22 rfl rfl (fun w' s => ⟨_, (journal_Log_con l2 ao11 cap11  w' H9 s.hold h13 hc11 hG r11 e13)⟩)) ?_
 refine wq rfl rfl rfl (ov_move rfl rfl) ?_
 refine wq rfl rfl rfl (ov_extract rfl rfl rfl) ?_
 refine wq rfl rfl rfl (ov_extract rfl rfl rfl) ?_
 refine wq rfl rfl rfl (ov_assign rfl rfl) ?_
 refine wq rfl rfl rfl (ov_assign rfl rfl) ?_
 refine WL.nil (then_normal (WP.seq (WP.seq (WP.region ?_))))
 refine wq rfl rfl rfl (ov_move rfl rfl) ?_
 refine wq rfl rfl rfl (ov_move rfl rfl) ?_
 refine wq rfl rfl rfl (ov_add rfl rfl rfl) ?_
 refine wq rfl rfl rfl (ov_move rfl rfl) ?_
 refine wq rfl rfl rfl (ov_add rfl rfl rfl) ?_
 refine wq rfl rfl rfl (ov_move rfl rfl) ?_
 refine wq rfl rfl rfl (ov_add rfl rfl rfl) ?_
 refine wq rfl rfl rfl (ov_move rfl rfl) ?_
 refine wq rfl rfl rfl (ov_add rfl rfl rfl) ?_
 refine wq rfl rfl rfl (ov_neq rfl rfl rfl) ?_
 refine wq rfl rfl rfl (ov_move rfl rfl) ?_
 refine WL.cut_bool 3 79 (x := (((IntKind.wrap .i64 ((IntKind.wrap .i64 ((IntKind.wrap .i64 ((IntKind.wrap .i64 (r2.2.2 + r3.2)) + r4.2)) + r6.2.2)) + r11.2)) != 0) || (r7.2 != 14))) ?_ ?_
 ·
  rcases Bool.eq_false_or_eq_true ((IntKind.wrap .i64 ((IntKind.wrap .i64 ((IntKind.wrap .i64 ((IntKind.wrap .i64 (r2.2.2 + r3.2)) + r4.2)) + r6.2.2)) + r11.2)) != 0) with hc12 | hc12
  ·
   skip
   refine WL.idle (Idle.no rfl rfl rfl hc12) rfl rfl ?_
   refine WL.idle (Idle.no rfl rfl rfl hc12) rfl rfl ?_
   refine wq rfl rfl rfl (ov_pick_true rfl (guard_eq rfl hc12) rfl) ?_
   exact WL.nil ⟨Sub.cons' rfl (congrArg Value.bool (orT hc12)) (Sub.skip rfl (Sub.skip rfl (Sub.skip rfl (Sub.refl _)))), fun _ s => s⟩
  ·
   skip
   refine WL.quiet (Runs.yes rfl rfl rfl hc12) rfl rfl (OV.quiet (ov_move rfl rfl)) ?_
   refine WL.quiet (Runs.yes rfl rfl rfl hc12) rfl rfl (OV.quiet (ov_neq rfl rfl rfl)) ?_
   refine wq rfl rfl rfl (ov_pick_false rfl (guard_eq rfl hc12) rfl) ?_
   exact WL.nil ⟨Sub.cons' rfl (congrArg Value.bool (orF hc12)) (Sub.skip rfl (Sub.skip rfl (Sub.skip rfl (Sub.refl _)))), fun _ s => s⟩
 refine wq rfl rfl rfl (ov_move rfl rfl) ?_
 refine WL.cut_bool 3 83 (x := ((((IntKind.wrap .i64 ((IntKind.wrap .i64 ((IntKind.wrap .i64 ((IntKind.wrap .i64 (r2.2.2 + r3.2)) + r4.2)) + r6.2.2)) + r11.2)) != 0) || (r7.2 != 14)) || (r8.2 != 14))) ?_ ?_
 ·
  rcases Bool.eq_false_or_eq_true (((IntKind.wrap .i64 ((IntKind.wrap .i64 ((IntKind.wrap .i64 ((IntKind.wrap .i64 (r2.2.2 + r3.2)) + r4.2)) + r6.2.2)) + r11.2)) != 0) || (r7.2 != 14)) with hc13 | hc13
  ·
   skip
   refine WL.idle (Idle.no rfl rfl rfl hc13) rfl rfl ?_
   refine WL.idle (Idle.no rfl rfl rfl hc13) rfl rfl ?_
   refine wq rfl rfl rfl (ov_pick_true rfl (guard_eq rfl hc13) rfl) ?_
   exact WL.nil ⟨Sub.cons' rfl (congrArg Value.bool (orT hc13)) (Sub.skip rfl (Sub.skip rfl (Sub.skip rfl (Sub.refl _)))), fun _ s => s⟩
  ·
   skip
   refine WL.quiet (Runs.yes rfl rfl rfl hc13) rfl rfl (OV.quiet (ov_move rfl rfl)) ?_
   refine WL.quiet (Runs.yes rfl rfl rfl hc13) rfl rfl (OV.quiet (ov_neq rfl rfl rfl)) ?_
   refine wq rfl rfl rfl (ov_pick_false rfl (guard_eq rfl hc13) rfl) ?_
   exact WL.nil ⟨Sub.cons' rfl (congrArg Value.bool (orF hc13)) (Sub.skip rfl (Sub.skip rfl (Sub.skip rfl (Sub.refl _)))), fun _ s => s⟩
 refine wq rfl rfl rfl (ov_move rfl rfl) ?_
 refine WL.cut_bool 3 87 (x := (((((IntKind.wrap .i64 ((IntKind.wrap .i64 ((IntKind.wrap .i64 ((IntKind.wrap .i64 (r2.2.2 + r3.2)) + r4.2)) + r6.2.2)) + r11.2)) != 0) || (r7.2 != 14)) || (r8.2 != 14)) || (r9.2 != 7))) ?_ ?_
 ·
  rcases Bool.eq_false_or_eq_true ((((IntKind.wrap .i64 ((IntKind.wrap .i64 ((IntKind.wrap .i64 ((IntKind.wrap .i64 (r2.2.2 + r3.2)) + r4.2)) + r6.2.2)) + r11.2)) != 0) || (r7.2 != 14)) || (r8.2 != 14)) with hc14 | hc14
  ·
   skip
   refine WL.idle (Idle.no rfl rfl rfl hc14) rfl rfl ?_
   refine WL.idle (Idle.no rfl rfl rfl hc14) rfl rfl ?_
   refine wq rfl rfl rfl (ov_pick_true rfl (guard_eq rfl hc14) rfl) ?_
   exact WL.nil ⟨Sub.cons' rfl (congrArg Value.bool (orT hc14)) (Sub.skip rfl (Sub.skip rfl (Sub.skip rfl (Sub.refl _)))), fun _ s => s⟩
  ·
   skip
   refine WL.quiet (Runs.yes rfl rfl rfl hc14) rfl rfl (OV.quiet (ov_move rfl rfl)) ?_
   refine WL.quiet (Runs.yes rfl rfl rfl hc14) rfl rfl (OV.quiet (ov_neq rfl rfl rfl)) ?_
   refine wq rfl rfl rfl (ov_pick_false rfl (guard_eq rfl hc14) rfl) ?_
   exact WL.nil ⟨Sub.cons' rfl (congrArg Value.bool (orF hc14)) (Sub.skip rfl (Sub.skip rfl (Sub.skip rfl (Sub.refl _)))), fun _ s => s⟩
 refine wq rfl rfl rfl (ov_move rfl rfl) ?_
 refine WL.cut_bool 3 91 (x := ((((((IntKind.wrap .i64 ((IntKind.wrap .i64 ((IntKind.wrap .i64 ((IntKind.wrap .i64 (r2.2.2 + r3.2)) + r4.2)) + r6.2.2)) + r11.2)) != 0) || (r7.2 != 14)) || (r8.2 != 14)) || (r9.2 != 7)) || (r3.1 != 2))) ?_ ?_
 ·
  rcases Bool.eq_false_or_eq_true (((((IntKind.wrap .i64 ((IntKind.wrap .i64 ((IntKind.wrap .i64 ((IntKind.wrap .i64 (r2.2.2 + r3.2)) + r4.2)) + r6.2.2)) + r11.2)) != 0) || (r7.2 != 14)) || (r8.2 != 14)) || (r9.2 != 7)) with hc15 | hc15
  ·
   skip
   refine WL.idle (Idle.no rfl rfl rfl hc15) rfl rfl ?_
   refine WL.idle (Idle.no rfl rfl rfl hc15) rfl rfl ?_
   refine wq rfl rfl rfl (ov_pick_true rfl (guard_eq rfl hc15) rfl) ?_
   exact WL.nil ⟨Sub.cons' rfl (congrArg Value.bool (orT hc15)) (Sub.skip rfl (Sub.skip rfl (Sub.skip rfl (Sub.refl _)))), fun _ s => s⟩
  ·
   skip
   refine WL.quiet (Runs.yes rfl rfl rfl hc15) rfl rfl (OV.quiet (ov_move rfl rfl)) ?_
   refine WL.quiet (Runs.yes rfl rfl rfl hc15) rfl rfl (OV.quiet (ov_neq rfl rfl rfl)) ?_
   refine wq rfl rfl rfl (ov_pick_false rfl (guard_eq rfl hc15) rfl) ?_
   exact WL.nil ⟨Sub.cons' rfl (congrArg Value.bool (orF hc15)) (Sub.skip rfl (Sub.skip rfl (Sub.skip rfl (Sub.refl _)))), fun _ s => s⟩
 refine wq rfl rfl rfl (ov_move rfl rfl) ?_
 refine WL.cut_bool 4 96 (x := (((((((IntKind.wrap .i64 ((IntKind.wrap .i64 ((IntKind.wrap .i64 ((IntKind.wrap .i64 (r2.2.2 + r3.2)) + r4.2)) + r6.2.2)) + r11.2)) != 0) || (r7.2 != 14)) || (r8.2 != 14)) || (r9.2 != 7)) || (r3.1 != 2)) || ((r4.1.length : Int) != 0))) ?_ ?_
 ·
  rcases Bool.eq_false_or_eq_true ((((((IntKind.wrap .i64 ((IntKind.wrap .i64 ((IntKind.wrap .i64 ((IntKind.wrap .i64 (r2.2.2 + r3.2)) + r4.2)) + r6.2.2)) + r11.2)) != 0) || (r7.2 != 14)) || (r8.2 != 14)) || (r9.2 != 7)) || (r3.1 != 2)) with hc16 | hc16
  ·
   skip
   refine WL.idle (Idle.no rfl rfl rfl hc16) rfl rfl ?_
   refine WL.idle (Idle.no rfl rfl rfl hc16) rfl rfl ?_
   refine WL.idle (Idle.no rfl rfl rfl hc16) rfl rfl ?_
   refine wq rfl rfl rfl (ov_pick_true rfl (guard_eq rfl hc16) rfl) ?_
   exact WL.nil ⟨Sub.cons' rfl (congrArg Value.bool (orT hc16)) (Sub.skip rfl (Sub.skip rfl (Sub.skip rfl (Sub.skip rfl (Sub.refl _))))), fun _ s => s⟩
  ·
   skip
   refine WL.quiet (Runs.yes rfl rfl rfl hc16) rfl rfl (OV.quiet (ov_move rfl rfl)) ?_
   refine WL.quiet (Runs.yes rfl rfl rfl hc16) rfl rfl (OV.quiet (ov_len_slice Tryz.underlying64 rfl rfl)) ?_
   refine WL.quiet (Runs.yes rfl rfl rfl hc16) rfl rfl (OV.quiet (ov_neq rfl rfl rfl)) ?_
   refine wq rfl rfl rfl (ov_pick_false rfl (guard_eq rfl hc16) rfl) ?_
   exact WL.nil ⟨Sub.cons' rfl (congrArg Value.bool (orF hc16)) (Sub.skip rfl (Sub.skip rfl (Sub.skip rfl (Sub.skip rfl (Sub.refl _))))), fun _ s => s⟩
 refine wq rfl rfl rfl (ov_move rfl rfl) ?_
 refine WL.cut_bool 4 101 (x := ((((((((IntKind.wrap .i64 ((IntKind.wrap .i64 ((IntKind.wrap .i64 ((IntKind.wrap .i64 (r2.2.2 + r3.2)) + r4.2)) + r6.2.2)) + r11.2)) != 0) || (r7.2 != 14)) || (r8.2 != 14)) || (r9.2 != 7)) || (r3.1 != 2)) || ((r4.1.length : Int) != 0)) || (r2.1.cycles != 3))) ?_ ?_
 ·
  rcases Bool.eq_false_or_eq_true (((((((IntKind.wrap .i64 ((IntKind.wrap .i64 ((IntKind.wrap .i64 ((IntKind.wrap .i64 (r2.2.2 + r3.2)) + r4.2)) + r6.2.2)) + r11.2)) != 0) || (r7.2 != 14)) || (r8.2 != 14)) || (r9.2 != 7)) || (r3.1 != 2)) || ((r4.1.length : Int) != 0)) with hc17 | hc17
  ·
   skip
   refine WL.idle (Idle.no rfl rfl rfl hc17) rfl rfl ?_
   refine WL.idle (Idle.no rfl rfl rfl hc17) rfl rfl ?_
   refine WL.idle (Idle.no rfl rfl rfl hc17) rfl rfl ?_
   refine wq rfl rfl rfl (ov_pick_true rfl (guard_eq rfl hc17) rfl) ?_
   exact WL.nil ⟨Sub.cons' rfl (congrArg Value.bool (orT hc17)) (Sub.skip rfl (Sub.skip rfl (Sub.skip rfl (Sub.skip rfl (Sub.refl _))))), fun _ s => s⟩
  ·
   skip
   refine WL.quiet (Runs.yes rfl rfl rfl hc17) rfl rfl (OV.quiet (ov_fieldAddr Tryz.underlying41 rfl rfl rfl Tryz.sizeOf3 rfl rfl)) ?_
   refine WL.quiet (Runs.yes rfl rfl rfl hc17) rfl rfl (OV.quiet (ov_load_box (i := 4) Tryz.isAgg3 rfl rfl rfl rfl)) ?_
   refine WL.quiet (Runs.yes rfl rfl rfl hc17) rfl rfl (OV.quiet (ov_neq rfl rfl rfl)) ?_
   refine wq rfl rfl rfl (ov_pick_false rfl (guard_eq rfl hc17) rfl) ?_
   exact WL.nil ⟨Sub.cons' rfl (congrArg Value.bool (orF hc17)) (Sub.skip rfl (Sub.skip rfl (Sub.skip rfl (Sub.skip rfl (Sub.refl _))))), fun _ s => s⟩
 refine wq rfl rfl rfl (ov_move rfl rfl) ?_
 obtain ⟨c1, e14, hm⟩ := bind_some hm
 refine WL.cut_bool 7 109 (x := c1) ?_ ?_
 ·
  rcases Bool.eq_false_or_eq_true ((((((((IntKind.wrap .i64 ((IntKind.wrap .i64 ((IntKind.wrap .i64 ((IntKind.wrap .i64 (r2.2.2 + r3.2)) + r4.2)) + r6.2.2)) + r11.2)) != 0) || (r7.2 != 14)) || (r8.2 != 14)) || (r9.2 != 7)) || (r3.1 != 2)) || ((r4.1.length : Int) != 0)) || (r2.1.cycles != 3)) with hc18 | hc18
  ·
   skip
   replace hm := ite_t hc18 e14
   refine WL.idle (Idle.no rfl rfl rfl hc18) rfl rfl ?_
   refine WL.idle (Idle.no rfl rfl rfl hc18) rfl rfl ?_
   refine WL.idle (Idle.no rfl rfl rfl hc18) rfl rfl ?_
   refine WL.idle (Idle.no rfl rfl rfl hc18) rfl rfl ?_
   refine WL.idle (Idle.no rfl rfl rfl hc18) rfl rfl ?_
   refine WL.idle (Idle.no rfl rfl rfl hc18) rfl rfl ?_
   refine wq rfl rfl rfl (ov_pick_true rfl (guard_eq rfl hc18) rfl) ?_
   exact WL.nil ⟨Sub.cons' rfl (congrArg Value.bool (Option.some.inj hm)) (Sub.skip rfl (Sub.skip rfl (Sub.skip rfl (Sub.skip rfl (Sub.skip rfl (Sub.skip rfl (Sub.skip rfl (Sub.refl _)))))))), fun _ s => s⟩
  ·
   skip
   replace hm := ite_f hc18 e14
   refine WL.quiet (Runs.yes rfl rfl rfl hc18) rfl rfl (OV.quiet (ov_move rfl rfl)) ?_
   obtain ⟨r12, e15, hm⟩ := bind_some hm
   refine WL.quiet (Runs.yes rfl rfl rfl hc18) rfl rfl (oq_con (r := (.int .i64 r12)) Tryz.call31 rfl rfl (fun w' s => ⟨_, (ref58_Mark_con 0 [112, 97, 114, 116, 32, 65, 32, 49, 48, 48]  w' H9 s.hold hG r12 e15)⟩)) ?_
   obtain ⟨r13, e16, hm⟩ := bind_some hm
   refine WL.quiet (Runs.yes rfl rfl rfl hc18) rfl rfl (oq_con (r := (mkS r13)) Tryz.call30 rfl rfl (fun w' s => ⟨_, (ref12_Digits_con r12  w' H9 s.hold hG r13 e16)⟩)) ?_
   obtain ⟨s1, e17, hm⟩ := bind_some hm
   refine WL.quiet (Runs.yes rfl rfl rfl hc18) rfl rfl (OV.quiet (ov_sadd' e17 rfl rfl rfl)) ?_
   obtain ⟨s2, e18, hm⟩ := bind_some hm
   refine WL.quiet (Runs.yes rfl rfl rfl hc18) rfl rfl (OV.quiet (ov_sadd' e18 rfl rfl rfl)) ?_
   refine WL.quiet (Runs.yes rfl rfl rfl hc18) rfl rfl (OV.quiet (ov_sneq rfl rfl rfl)) ?_
   refine wq rfl rfl rfl (ov_pick_false rfl (guard_eq rfl hc18) rfl) ?_
   exact WL.nil ⟨Sub.cons' rfl (congrArg Value.bool (Option.some.inj hm)) (Sub.skip rfl (Sub.skip rfl (Sub.skip rfl (Sub.skip rfl (Sub.skip rfl (Sub.skip rfl (Sub.skip rfl (Sub.refl _)))))))), fun _ s => s⟩
 refine WL.nil (then_normal ?_)
 refine WP.cond rfl (fun hc19 => ?_) (fun hc19 => ?_)
 ·
  replace hm := ite_t hc19 hm
  refine WP.seq (WP.region ?_)
  refine wq rfl rfl rfl (ov_assign rfl rfl) ?_
  refine WL.nil (then_normal (WP.ret (then_ret ?_)))
  obtain rfl := Option.some.inj hm
  refine retQ_ret Tryz.results8 (Res.tmp rfl Res.nil) rfl (fun w' s => ⟨s.below, ?_⟩)
  exact rfl
 ·
  replace hm := ite_f hc19 hm
  refine WP.skip (then_normal (WP.seq (WP.region ?_)))
  refine wq rfl rfl rfl (ov_fieldAddr Tryz.underlying41 rfl rfl rfl Tryz.sizeOf39 rfl rfl) ?_
  refine wq rfl rfl rfl (ov_load_box (i := 4) Tryz.isAgg39 rfl rfl rfl rfl) ?_
  refine wq rfl rfl rfl (ov_build (r := (.agg #[(mkS [65]), (.int .i64 100), (.int .i64 60), (.int .i64 1), (.bool false), (.int .i64 0), (.int .i64 3)])) rfl rfl (fun _ => by kernel_rfl)) ?_
  have rl1 : RL H9 encItem ([(Item.mk [65] 100 60 1 false 0 3)] : List Item) [(mkS [65]), (.int .i64 100), (.int .i64 60), (.int .i64 1), (.bool false), (.int .i64 0), (.int .i64 3)] := RL.cons (cs := [(mkS [65]), (.int .i64 100), (.int .i64 60), (.int .i64 1), (.bool false), (.int .i64 0), (.int .i64 3)]) (xs := []) rfl (RL.nil _ _)
  refine WL.step (Runs.free rfl) rfl rfl (os_buildSlice (cs := [(mkS [65]), (.int .i64 100), (.int .i64 60), (.int .i64 1), (.bool false), (.int .i64 0), (.int .i64 3)]) (E := 73) (sz := 7) rfl rfl (fun _ => by kernel_rfl) rfl (by decide) (fun b6 => ?_))
  refine WL.held rl1 (fun H10 hc20 hle10 h14 => ?_)
  replace h1 := h1.mono hle10
  replace h2 := h2.mono hle10
  replace h3 := h3.mono hle10
  replace h4 := h4.mono hle10
  replace h6 := h6.mono hle10
  replace h7 := h7.mono hle10
  replace h8 := h8.mono hle10
  replace h9 := h9.mono hle10
  replace h10 := h10.mono hle10
  replace h11 := h11.mono hle10
  replace h13 := h13.mono hle10
  replace hG := hG.mono hle10
  obtain ⟨r14, e19, hm⟩ := bind_some hm
  refine WL.quiet (Runs.free rfl) rfl rfl (oq_con (r := (.bool r14)) Tryz.call32 rfl rfl (fun w' s => ⟨_, (slices_Equal_journal_Itemjournal_Item_con r2.1.items ([(Item.mk [65] 100 60 1 false 0 3)] : List Item) ao2 cap2 (some ⟨b6, 0, none⟩) 1  w' H10 s.hold h2 hc2 h14 hc20 hG r14 e19)⟩)) ?_
  refine wq rfl rfl rfl (ov_move rfl rfl) ?_
  obtain ⟨c2, e20, hm⟩ := bind_some hm
  refine WL.cut_bool 3 118 (x := c2) ?_ ?_
  ·
   rcases Bool.eq_false_or_eq_true r14 with hc21 | hc21
   ·
    skip
    replace hm := ite_t hc21 e20
    obtain ⟨r15, e21, hm⟩ := bind_some hm
    refine WL.quiet (Runs.yes rfl rfl rfl hc21) rfl rfl (oq_con (r := (.int .i64 r15)) Tryz.call31 rfl rfl (fun w' s => ⟨_, (ref58_Mark_con 0 [97]  w' H10 s.hold hG r15 e21)⟩)) ?_
    refine WL.quiet (Runs.yes rfl rfl rfl hc21) rfl rfl (OV.quiet (ov_eql rfl rfl rfl)) ?_
    refine wq rfl rfl rfl (ov_pick_true rfl (guard_eq rfl hc21) rfl) ?_
    exact WL.nil ⟨Sub.cons' rfl (congrArg Value.bool (Option.some.inj hm)) (Sub.skip rfl (Sub.skip rfl (Sub.skip rfl (Sub.refl _)))), fun _ s => s⟩
   ·
    skip
    replace hm := ite_f hc21 e20
    refine WL.idle (Idle.no rfl rfl rfl hc21) rfl rfl ?_
    refine WL.idle (Idle.no rfl rfl rfl hc21) rfl rfl ?_
    refine wq rfl rfl rfl (ov_pick_false rfl (guard_eq rfl hc21) rfl) ?_
    exact WL.nil ⟨Sub.cons' rfl (congrArg Value.bool (Option.some.inj hm)) (Sub.skip rfl (Sub.skip rfl (Sub.skip rfl (Sub.refl _)))), fun _ s => s⟩
  refine wq rfl rfl rfl (ov_move rfl rfl) ?_
  obtain ⟨c3, e22, hm⟩ := bind_some hm
  refine WL.cut_bool 3 122 (x := c3) ?_ ?_
  ·
   rcases Bool.eq_false_or_eq_true c2 with hc22 | hc22
   ·
    skip
    replace hm := ite_t hc22 e22
    obtain ⟨r16, e23, hm⟩ := bind_some hm
    refine WL.quiet (Runs.yes rfl rfl rfl hc22) rfl rfl (oq_con (r := (.int .i64 r16)) Tryz.call31 rfl rfl (fun w' s => ⟨_, (ref58_Mark_con 0 [97, 98]  w' H10 s.hold hG r16 e23)⟩)) ?_
    refine WL.quiet (Runs.yes rfl rfl rfl hc22) rfl rfl (OV.quiet (ov_eql rfl rfl rfl)) ?_
    refine wq rfl rfl rfl (ov_pick_true rfl (guard_eq rfl hc22) rfl) ?_
    exact WL.nil ⟨Sub.cons' rfl (congrArg Value.bool (Option.some.inj hm)) (Sub.skip rfl (Sub.skip rfl (Sub.skip rfl (Sub.refl _)))), fun _ s => s⟩
   ·
    skip
    replace hm := ite_f hc22 e22
    refine WL.idle (Idle.no rfl rfl rfl hc22) rfl rfl ?_
    refine WL.idle (Idle.no rfl rfl rfl hc22) rfl rfl ?_
    refine wq rfl rfl rfl (ov_pick_false rfl (guard_eq rfl hc22) rfl) ?_
    exact WL.nil ⟨Sub.cons' rfl (congrArg Value.bool (Option.some.inj hm)) (Sub.skip rfl (Sub.skip rfl (Sub.skip rfl (Sub.refl _)))), fun _ s => s⟩
  refine wq rfl rfl rfl (ov_assign rfl rfl) ?_
  refine WL.nil (then_normal (WP.ret ?_))
  obtain rfl := Option.some.inj hm
  refine retQ_ret Tryz.results8 (Res.tmp rfl Res.nil) rfl (fun w' s => ⟨s.below, ?_⟩)
  exact rfl

theorem journal_Text_con (p_x : Entry) (w : World) (H : Heap) (hH : Le H (hp w)) (hG : Glob H) (r : ((List UInt8) × Int)) (hm : journal_Text p_x = some r) :
  Con Tryz.prog 9 [(.agg #[(.int .i64 p_x.kind), (mkS p_x.name), (.int .i64 p_x.count), (.int .i64 p_x.strokes)])] w H (fun v _ => v = (.tuple #[(mkS r.1), (.int .i64 r.2)])) := by
 unfold journal_Text at hm
 refine con_of hH Tryz.func9 rfl 12 Tryz.ntmps9 rfl ?_
 refine WP.seq (WP.region ?_)
 refine WL.step (Runs.free rfl) rfl rfl (os_box (cs := [(.int .i64 p_x.kind), (mkS p_x.name), (.int .i64 p_x.count), (.int .i64 p_x.strokes)]) rfl rfl rfl (fun b1 => ?_))
 refine wq rfl rfl rfl (ov_assign rfl rfl) ?_
 refine wq rfl rfl rfl (ov_assign rfl rfl) ?_
 refine WL.nil (then_normal (WP.seq (WP.seq (WP.region ?_))))
 refine wq rfl rfl rfl (ov_load_whole (i := 0) Tryz.isAgg23 Tryz.sizeOf23 rfl rfl rfl rfl) ?_
 obtain ⟨r1, e1, hm⟩ := bind_some hm
 refine WL.quiet (Runs.free rfl) rfl rfl (oq_con (r := (.int .i64 r1)) Tryz.call33 rfl rfl (fun w' s => ⟨_, (journal_Right_con p_x  w' H s.hold hG r1 e1)⟩)) ?_
 refine wq rfl rfl rfl (ov_assign rfl rfl) ?_
 refine WL.nil (then_normal (WP.seq (WP.region ?_)))
 refine wq rfl rfl rfl (ov_move rfl rfl) ?_
 refine wq rfl rfl rfl (ov_neq rfl rfl rfl) ?_
 refine WL.nil (then_normal ?_)
 refine WP.cond rfl (fun hc1 => ?_) (fun hc1 => ?_)
 ·
  replace hm := ite_t hc1 hm
  refine WP.seq (WP.region ?_)
  refine wq rfl rfl rfl (ov_move rfl rfl) ?_
  refine wq rfl rfl rfl (ov_assign rfl rfl) ?_
  refine wq rfl rfl rfl (ov_assign rfl rfl) ?_
  refine WL.nil (then_normal (WP.ret (then_ret ?_)))
  obtain rfl := Option.some.inj hm
  refine retQ_ret Tryz.results9 (Res.tmp rfl (Res.tmp rfl Res.nil)) rfl (fun w' s => ⟨s.below, ?_⟩)
  exact rfl
 ·
  replace hm := ite_f hc1 hm
  refine WP.skip (then_normal (WP.seq (WP.region ?_)))
  refine wq rfl rfl rfl (ov_load_whole (i := 0) Tryz.isAgg23 Tryz.sizeOf23 rfl rfl rfl rfl) ?_
  obtain ⟨r2, e2, hm⟩ := bind_some hm
  refine WL.quiet (Runs.free rfl) rfl rfl (oq_con (r := (mkS r2)) Tryz.call34 rfl rfl (fun w' s => ⟨_, (journal_text_con p_x  w' H s.hold hG r2 e2)⟩)) ?_
  refine wq rfl rfl rfl (ov_assign rfl rfl) ?_
  refine wq rfl rfl rfl (ov_assign rfl rfl) ?_
  refine WL.nil (then_normal (WP.ret ?_))
  obtain rfl := Option.some.inj hm
  refine retQ_ret Tryz.results9 (Res.tmp rfl (Res.tmp rfl Res.nil)) rfl (fun w' s => ⟨s.below, ?_⟩)
  exact rfl

theorem ref58_in_con (p_n : Int) (p_low : Int) (p_high : Int) (w : World) (H : Heap) (hH : Le H (hp w)) (hG : Glob H) (r : Bool) (hm : ref58_in p_n p_low p_high = some r) :
  Con Tryz.prog 44 [(.int .i64 p_n), (.int .i64 p_low), (.int .i64 p_high)] w H (fun v _ => v = (.bool r)) := by
 unfold ref58_in at hm
 refine con_of hH Tryz.func44 rfl 15 Tryz.ntmps44 rfl ?_
 refine WP.seq (WP.region ?_)
 refine wq rfl rfl rfl (ov_assign rfl rfl) ?_
 refine WL.nil (then_normal (WP.seq (WP.region ?_)))
 refine wq rfl rfl rfl (ov_move rfl rfl) ?_
 refine wq rfl rfl rfl (ov_move rfl rfl) ?_
 refine wq rfl rfl rfl (ov_geq rfl rfl rfl) ?_
 refine wq rfl rfl rfl (ov_move rfl rfl) ?_
 refine WL.cut_bool 4 14 (x := ((decide (p_n ≥ p_low)) && (decide (p_n ≤ p_high)))) ?_ ?_
 ·
  rcases Bool.eq_false_or_eq_true (decide (p_n ≥ p_low)) with hc1 | hc1
  ·
   skip
   refine WL.quiet (Runs.yes rfl rfl rfl hc1) rfl rfl (OV.quiet (ov_move rfl rfl)) ?_
   refine WL.quiet (Runs.yes rfl rfl rfl hc1) rfl rfl (OV.quiet (ov_move rfl rfl)) ?_
   refine WL.quiet (Runs.yes rfl rfl rfl hc1) rfl rfl (OV.quiet (ov_leq rfl rfl rfl)) ?_
   refine wq rfl rfl rfl (ov_pick_true rfl (guard_eq rfl hc1) rfl) ?_
   exact WL.nil ⟨Sub.cons' rfl (congrArg Value.bool (andT hc1)) (Sub.skip rfl (Sub.skip rfl (Sub.skip rfl (Sub.skip rfl (Sub.refl _))))), fun _ s => s⟩
  ·
   skip
   refine WL.idle (Idle.no rfl rfl rfl hc1) rfl rfl ?_
   refine WL.idle (Idle.no rfl rfl rfl hc1) rfl rfl ?_
   refine WL.idle (Idle.no rfl rfl rfl hc1) rfl rfl ?_
   refine wq rfl rfl rfl (ov_pick_false rfl (guard_eq rfl hc1) rfl) ?_
   exact WL.nil ⟨Sub.cons' rfl (congrArg Value.bool (andF hc1)) (Sub.skip rfl (Sub.skip rfl (Sub.skip rfl (Sub.skip rfl (Sub.refl _))))), fun _ s => s⟩
 refine wq rfl rfl rfl (ov_assign rfl rfl) ?_
 refine WL.nil (then_normal (WP.ret ?_))
 obtain rfl := Option.some.inj hm
 refine retQ_ret Tryz.results44 (Res.tmp rfl Res.nil) rfl (fun w' s => ⟨s.below, ?_⟩)
 exact rfl

theorem ref12_Letter_con (p_b : Int) (w : World) (H : Heap) (hH : Le H (hp w)) (hG : Glob H) (r : Bool) (hm : ref12_Letter p_b = some r) :
  Con Tryz.prog 79 [(.int .u8 p_b)] w H (fun v _ => v = (.bool r)) := by
 unfold ref12_Letter at hm
 refine con_of hH Tryz.func79 rfl 17 Tryz.ntmps79 rfl ?_
 refine WP.seq (WP.region ?_)
 refine wq rfl rfl rfl (ov_assign rfl rfl) ?_
 refine WL.nil (then_normal (WP.seq (WP.region ?_)))
 refine wq rfl rfl rfl (ov_move rfl rfl) ?_
 refine wq rfl rfl rfl (ov_geq rfl rfl rfl) ?_
 refine wq rfl rfl rfl (ov_move rfl rfl) ?_
 refine WL.cut_bool 3 8 (x := ((decide (p_b ≥ 97)) && (decide (p_b ≤ 122)))) ?_ ?_
 ·
  rcases Bool.eq_false_or_eq_true (decide (p_b ≥ 97)) with hc1 | hc1
  ·
   skip
   refine WL.quiet (Runs.yes rfl rfl rfl hc1) rfl rfl (OV.quiet (ov_move rfl rfl)) ?_
   refine WL.quiet (Runs.yes rfl rfl rfl hc1) rfl rfl (OV.quiet (ov_leq rfl rfl rfl)) ?_
   refine wq rfl rfl rfl (ov_pick_true rfl (guard_eq rfl hc1) rfl) ?_
   exact WL.nil ⟨Sub.cons' rfl (congrArg Value.bool (andT hc1)) (Sub.skip rfl (Sub.skip rfl (Sub.skip rfl (Sub.refl _)))), fun _ s => s⟩
  ·
   skip
   refine WL.idle (Idle.no rfl rfl rfl hc1) rfl rfl ?_
   refine WL.idle (Idle.no rfl rfl rfl hc1) rfl rfl ?_
   refine wq rfl rfl rfl (ov_pick_false rfl (guard_eq rfl hc1) rfl) ?_
   exact WL.nil ⟨Sub.cons' rfl (congrArg Value.bool (andF hc1)) (Sub.skip rfl (Sub.skip rfl (Sub.skip rfl (Sub.refl _)))), fun _ s => s⟩
 refine wq rfl rfl rfl (ov_move rfl rfl) ?_
 refine WL.cut_bool 7 16 (x := (((decide (p_b ≥ 97)) && (decide (p_b ≤ 122))) || ((decide (p_b ≥ 65)) && (decide (p_b ≤ 90))))) ?_ ?_
 ·
  rcases Bool.eq_false_or_eq_true ((decide (p_b ≥ 97)) && (decide (p_b ≤ 122))) with hc2 | hc2
  ·
   skip
   refine WL.idle (Idle.no rfl rfl rfl hc2) rfl rfl ?_
   refine WL.idle (Idle.no rfl rfl rfl hc2) rfl rfl ?_
   refine WL.idle (Idle.no rfl rfl rfl hc2) rfl rfl ?_
   refine WL.idle (Idle.undef rfl rfl rfl) rfl rfl ?_
   refine WL.idle (Idle.undef rfl rfl rfl) rfl rfl ?_
   refine WL.idle (Idle.no rfl rfl rfl hc2) rfl rfl ?_
   refine wq rfl rfl rfl (ov_pick_true rfl (guard_eq rfl hc2) rfl) ?_
   exact WL.nil ⟨Sub.cons' rfl (congrArg Value.bool (orT hc2)) (Sub.skip rfl (Sub.skip rfl (Sub.skip rfl (Sub.skip rfl (Sub.skip rfl (Sub.skip rfl (Sub.skip rfl (Sub.refl _)))))))), fun _ s => s⟩
  ·
   skip
   refine WL.quiet (Runs.yes rfl rfl rfl hc2) rfl rfl (OV.quiet (ov_move rfl rfl)) ?_
   refine WL.quiet (Runs.yes rfl rfl rfl hc2) rfl rfl (OV.quiet (ov_geq rfl rfl rfl)) ?_
   refine WL.quiet (Runs.yes rfl rfl rfl hc2) rfl rfl (OV.quiet (ov_move rfl rfl)) ?_
   refine WL.cut_bool 3 15 (x := ((decide (p_b ≥ 65)) && (decide (p_b ≤ 90)))) ?_ ?_
   ·
    rcases Bool.eq_false_or_eq_true (decide (p_b ≥ 65)) with hc3 | hc3
    ·
     skip
     refine WL.quiet (Runs.yes rfl rfl rfl hc3) rfl rfl (OV.quiet (ov_move rfl rfl)) ?_
     refine WL.quiet (Runs.yes rfl rfl rfl hc3) rfl rfl (OV.quiet (ov_leq rfl rfl rfl)) ?_
     refine WL.quiet (Runs.yes rfl rfl rfl hc2) rfl rfl (OV.quiet (ov_pick_true rfl (guard_eq rfl hc3) rfl)) ?_
     exact WL.nil ⟨Sub.cons' rfl (congrArg Value.bool (andT hc3)) (Sub.skip rfl (Sub.skip rfl (Sub.skip rfl (Sub.refl _)))), fun _ s => s⟩
    ·
     skip
     refine WL.idle (Idle.no rfl rfl rfl hc3) rfl rfl ?_
     refine WL.idle (Idle.no rfl rfl rfl hc3) rfl rfl ?_
     refine WL.quiet (Runs.yes rfl rfl rfl hc2) rfl rfl (OV.quiet (ov_pick_false rfl (guard_eq rfl hc3) rfl)) ?_
     exact WL.nil ⟨Sub.cons' rfl (congrArg Value.bool (andF hc3)) (Sub.skip rfl (Sub.skip rfl (Sub.skip rfl (Sub.refl _)))), fun _ s => s⟩
   refine wq rfl rfl rfl (ov_pick_false rfl (guard_eq rfl hc2) rfl) ?_
   exact WL.nil ⟨Sub.cons' rfl (congrArg Value.bool (orF hc2)) (Sub.skip rfl (Sub.skip rfl (Sub.skip rfl (Sub.skip rfl (Sub.skip rfl (Sub.refl _)))))), fun _ s => s⟩
 refine wq rfl rfl rfl (ov_assign rfl rfl) ?_
 refine WL.nil (then_normal (WP.ret ?_))
 obtain rfl := Option.some.inj hm
 refine retQ_ret Tryz.results79 (Res.tmp rfl Res.nil) rfl (fun w' s => ⟨s.below, ?_⟩)
 exact rfl

end Go.Proofs.YtpigfknmlmeihaaGreatDoor.W
