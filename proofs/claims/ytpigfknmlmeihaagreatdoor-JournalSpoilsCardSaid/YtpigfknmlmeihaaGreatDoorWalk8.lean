/- The walks. Written by our own program gen.py; Lean checks it. -/
import Derived.Test.YtpigfknmlmeihaaGreatDoorPlain
import Derived.Test.YtpigfknmlmeihaaGreatDoorEqs
import Derived.Test.YtpigfknmlmeihaaGreatDoorProg
import Derived.Test.YtpigfknmlmeihaaGreatDoorExt
import Derived.Test.YtpigfknmlmeihaaGreatDoorClone
import Derived.Test.YtpigfknmlmeihaaGreatDoorInsert
import Derived.Test.YtpigfknmlmeihaaGreatDoorBuild
import Derived.Test.YtpigfknmlmeihaaGreatDoorWalk6
import Derived.Test.YtpigfknmlmeihaaGreatDoorWalk7
set_option linter.unusedVariables false
set_option maxRecDepth 100000
set_option maxHeartbeats 4000000
namespace Go.Proofs.YtpigfknmlmeihaaGreatDoor.W
open Go Go.RowKit
theorem journal_Repaired_con (p_text : (List UInt8)) (w : World) (H : Heap) (hH : Le H (hp w)) (hG : Glob H) (r : (List UInt8)) (hm : journal_Repaired p_text = some r) :
  Con Tryz.prog 19 [(mkS p_text)] w H (fun v _ => v = (mkS r)) := by
 unfold journal_Repaired at hm
 refine con_of hH Tryz.func19 rfl 18 Tryz.ntmps19 rfl ?_
 refine WP.seq (WP.region ?_)
 refine wq rfl rfl rfl (ov_assign rfl rfl) ?_
 refine WL.nil (then_normal (WP.seq (WP.region ?_)))
 refine wq rfl rfl rfl (ov_move rfl rfl) ?_
 refine wq rfl rfl rfl (ov_move rfl rfl) ?_
 refine wq rfl rfl rfl (ov_len_string Tryz.underlying9 rfl rfl) ?_
 refine wq rfl rfl rfl (ov_min rfl rfl rfl) ?_
 obtain ⟨s1, e1, hm⟩ := bind_some hm
 refine wq rfl rfl rfl (ov_slice_string_to Tryz.underlying9 rfl rfl rfl e1) ?_
 obtain ⟨r1, e2, hm⟩ := bind_some hm
 refine WL.step (Runs.free rfl) rfl rfl (os_con Tryz.call47 rfl rfl (fun w' s => (journal_readAll_con s1  w' H s.hold hG r1 e2)) (fun rr1 H1 hle1 hR1 => ?_))
 replace hG := hG.mono hle1
 obtain ⟨ao1, cap1, rfl, h1, hc1⟩ := hR1
 refine wq rfl rfl rfl (ov_move rfl rfl) ?_
 refine wq rfl rfl rfl (ov_extract rfl rfl rfl) ?_
 refine wq rfl rfl rfl (ov_extract rfl rfl rfl) ?_
 refine WL.step (Runs.free rfl) rfl rfl (os_alloc (cs := [(.slice none 0 0), (.int .i64 0), (.int .i64 0), (.int .i64 0), (.int .i64 0)]) Tryz.zeroValue95 rfl rfl (fun b1 => ?_))
 refine WL.step0 (Runs.free rfl) rfl (os_store (i := 0) (vs := [(.slice ao1 r1.1.m.items.length cap1), (.int .i64 r1.1.m.cycles), (.int .i64 r1.1.mark), (.int .i64 r1.1.lines), (.int .i64 r1.1.size)]) (cs' := [(.slice ao1 r1.1.m.items.length cap1), (.int .i64 r1.1.m.cycles), (.int .i64 r1.1.mark), (.int .i64 r1.1.lines), (.int .i64 r1.1.size)]) Tryz.sizeOf95 rfl rfl rfl rfl rfl rfl rfl rfl rfl ?_)
 refine wq rfl rfl rfl (ov_assign rfl rfl) ?_
 refine WL.nil (then_normal (WP.seq (WP.region ?_)))
 refine wq rfl rfl rfl (ov_move rfl rfl) ?_
 refine wq rfl rfl rfl (ov_fieldAddr Tryz.underlying95 rfl rfl rfl Tryz.sizeOf3 rfl rfl) ?_
 refine wq rfl rfl rfl (ov_load_box (i := 0) Tryz.isAgg3 rfl rfl rfl rfl) ?_
 obtain ⟨s2, e3, hm⟩ := bind_some hm
 refine wq rfl rfl rfl (ov_slice_string_to Tryz.underlying9 rfl rfl rfl e3) ?_
 refine wq rfl rfl rfl (ov_assign rfl rfl) ?_
 refine WL.nil (then_normal (WP.ret ?_))
 obtain rfl := Option.some.inj hm
 refine retQ_ret Tryz.results19 (Res.tmp rfl Res.nil) rfl (fun w' s => ⟨s.below, ?_⟩)
 exact rfl

theorem ref58_Repaired_con (p_text : (List UInt8)) (w : World) (H : Heap) (hH : Le H (hp w)) (hG : Glob H) (r : (List UInt8)) (hm : ref58_Repaired p_text = some r) :
  Con Tryz.prog 20 [(mkS p_text)] w H (fun v _ => v = (mkS r)) := by
 unfold ref58_Repaired at hm
 refine con_of hH Tryz.func20 rfl 22 Tryz.ntmps20 rfl ?_
 refine WP.seq (WP.region ?_)
 refine wq rfl rfl rfl (ov_assign rfl rfl) ?_
 refine WL.nil (then_normal ?_)
 obtain ⟨k1, hk1, hm⟩ := joinK_some hm
 refine WP.seq_join (fun g' S' => ∃ (s2 : (List UInt8)), Sub [(0, (mkS s2)), (1000000007, (.bool false))] g' ∧ (∀ w', S' w' → St w H [] H w') ∧ k1 s2 = some r) ?_ ?_
 ·
  skip
  refine WP.seq (WP.region ?_)
  refine wq rfl rfl rfl (ov_move rfl rfl) ?_
  refine wq rfl rfl rfl (ov_len_string Tryz.underlying9 rfl rfl) ?_
  refine wq rfl rfl rfl (ov_gtr rfl rfl rfl) ?_
  refine WL.nil (then_normal ?_)
  refine WP.cond rfl (fun hc1 => ?_) (fun hc1 => ?_)
  ·
   replace hm := ite_t hc1 hm
   refine WP.region ?_
   refine wq rfl rfl rfl (ov_move rfl rfl) ?_
   obtain ⟨s1, e1, hm⟩ := bind_some hm
   refine wq rfl rfl rfl (ov_slice_string_to Tryz.underlying9 rfl rfl rfl e1) ?_
   refine wq rfl rfl rfl (ov_assign rfl rfl) ?_
   refine WL.nil (then_normal ?_)
   exact ⟨s1, (Sub.cons rfl (Sub.cons rfl (Sub.nil _))), fun w' s => s, hm⟩
  ·
   replace hm := ite_f hc1 hm
   refine WP.skip (then_normal ?_)
   exact ⟨p_text, (Sub.cons rfl (Sub.cons rfl (Sub.nil _))), fun w' s => s, hm⟩
 ·
  rintro g' S' ⟨s2, hsub1, hS1, hm⟩
  refine WP.sub hsub1 (WP.weaken hS1 ?_)
  replace hm := (congrFun hk1 s2).symm.trans hm
  refine WP.seq (WP.region ?_)
  refine wq rfl rfl rfl (ov_move rfl rfl) ?_
  obtain ⟨r1, e2, hm⟩ := bind_some hm
  refine WL.step (Runs.free rfl) rfl rfl (os_con Tryz.call48 rfl rfl (fun w' s => (ref58_Begun_con s2  w' H s.hold hG r1 e2)) (fun rr1 H1 hle1 hR1 => ?_))
  replace hG := hG.mono hle1
  obtain ⟨ao1, cap1, rfl, h1, hc2⟩ := hR1
  refine wq rfl rfl rfl (ov_move rfl rfl) ?_
  refine wq rfl rfl rfl (ov_extract rfl rfl rfl) ?_
  refine wq rfl rfl rfl (ov_extract rfl rfl rfl) ?_
  refine wq rfl rfl rfl (ov_extract rfl rfl rfl) ?_
  refine wq rfl rfl rfl (ov_extract rfl rfl rfl) ?_
  refine WL.step (Runs.free rfl) rfl rfl (os_alloc (cs := [(.slice none 0 0), (.int .i64 0)]) Tryz.zeroValue46 rfl rfl (fun b1 => ?_))
  refine WL.step0 (Runs.free rfl) rfl (os_store (i := 0) (vs := [(.slice ao1 r1.1.items.length cap1), (.int .i64 r1.1.cycles)]) (cs' := [(.slice ao1 r1.1.items.length cap1), (.int .i64 r1.1.cycles)]) Tryz.sizeOf46 rfl rfl rfl rfl rfl rfl rfl rfl rfl ?_)
  refine wq rfl rfl rfl (ov_assign rfl rfl) ?_
  refine wq rfl rfl rfl (ov_assign rfl rfl) ?_
  refine wq rfl rfl rfl (ov_assign rfl rfl) ?_
  refine WL.nil (then_normal (WP.seq (WP.region ?_)))
  refine wq rfl rfl rfl (ov_move rfl rfl) ?_
  refine wq rfl rfl rfl (ov_move rfl rfl) ?_
  obtain ⟨s3, e3, hm⟩ := bind_some hm
  refine wq rfl rfl rfl (ov_slice_string_to Tryz.underlying9 rfl rfl rfl e3) ?_
  refine wq rfl rfl rfl (ov_assign rfl rfl) ?_
  refine WL.nil (then_normal (WP.ret ?_))
  obtain rfl := Option.some.inj hm
  refine retQ_ret Tryz.results20 (Res.tmp rfl Res.nil) rfl (fun w' s => ⟨s.below, ?_⟩)
  exact rfl

theorem ref58_FewEntries_con (p_l : (List Entry)) (ao1 : Option Addr) (cap1 : Nat) (w : World) (H : Heap) (hH : Le H (hp w)) (h1 : SL H encEntry ao1 p_l) (hc1 : p_l.length ≤ cap1) (hG : Glob H) (r : Bool) (hm : ref58_FewEntries p_l = some r) :
  Con Tryz.prog 49 [(.slice ao1 p_l.length cap1)] w H (fun v _ => v = (.bool r)) := by
 unfold ref58_FewEntries at hm
 refine con_of hH Tryz.func49 rfl 30 Tryz.ntmps49 rfl ?_
 refine WP.seq (WP.region ?_)
 refine wq rfl rfl rfl (ov_assign rfl rfl) ?_
 refine WL.nil (then_normal (WP.seq (WP.seq (WP.region ?_))))
 refine wq rfl rfl rfl (ov_move rfl rfl) ?_
 refine wq rfl rfl rfl (ov_len_slice Tryz.underlying102 rfl rfl) ?_
 refine wq rfl rfl rfl (ov_gtr rfl rfl rfl) ?_
 refine wq rfl rfl rfl (ov_move rfl rfl) ?_
 refine WL.cut_bool 4 11 (x := ((decide ((p_l.length : Int) > 20)) && (decide ((p_l.length : Int) ≤ 4096)))) ?_ ?_
 ·
  rcases Bool.eq_false_or_eq_true (decide ((p_l.length : Int) > 20)) with hc2 | hc2
  ·
   skip
   refine WL.quiet (Runs.yes rfl rfl rfl hc2) rfl rfl (OV.quiet (ov_move rfl rfl)) ?_
   refine WL.quiet (Runs.yes rfl rfl rfl hc2) rfl rfl (OV.quiet (ov_len_slice Tryz.underlying102 rfl rfl)) ?_
   refine WL.quiet (Runs.yes rfl rfl rfl hc2) rfl rfl (OV.quiet (ov_leq rfl rfl rfl)) ?_
   refine wq rfl rfl rfl (ov_pick_true rfl (guard_eq rfl hc2) rfl) ?_
   exact WL.nil ⟨Sub.cons' rfl (congrArg Value.bool (andT hc2)) (Sub.skip rfl (Sub.skip rfl (Sub.skip rfl (Sub.skip rfl (Sub.refl _))))), fun _ s => s⟩
  ·
   skip
   refine WL.idle (Idle.no rfl rfl rfl hc2) rfl rfl ?_
   refine WL.idle (Idle.no rfl rfl rfl hc2) rfl rfl ?_
   refine WL.idle (Idle.no rfl rfl rfl hc2) rfl rfl ?_
   refine wq rfl rfl rfl (ov_pick_false rfl (guard_eq rfl hc2) rfl) ?_
   exact WL.nil ⟨Sub.cons' rfl (congrArg Value.bool (andF hc2)) (Sub.skip rfl (Sub.skip rfl (Sub.skip rfl (Sub.skip rfl (Sub.refl _))))), fun _ s => s⟩
 refine wq rfl rfl rfl (ov_move rfl rfl) ?_
 refine WL.cut_bool 4 16 (x := (((decide ((p_l.length : Int) > 20)) && (decide ((p_l.length : Int) ≤ 4096))) || (decide ((p_l.length : Int) > 8192)))) ?_ ?_
 ·
  rcases Bool.eq_false_or_eq_true ((decide ((p_l.length : Int) > 20)) && (decide ((p_l.length : Int) ≤ 4096))) with hc3 | hc3
  ·
   skip
   refine WL.idle (Idle.no rfl rfl rfl hc3) rfl rfl ?_
   refine WL.idle (Idle.no rfl rfl rfl hc3) rfl rfl ?_
   refine WL.idle (Idle.no rfl rfl rfl hc3) rfl rfl ?_
   refine wq rfl rfl rfl (ov_pick_true rfl (guard_eq rfl hc3) rfl) ?_
   exact WL.nil ⟨Sub.cons' rfl (congrArg Value.bool (orT hc3)) (Sub.skip rfl (Sub.skip rfl (Sub.skip rfl (Sub.skip rfl (Sub.refl _))))), fun _ s => s⟩
  ·
   skip
   refine WL.quiet (Runs.yes rfl rfl rfl hc3) rfl rfl (OV.quiet (ov_move rfl rfl)) ?_
   refine WL.quiet (Runs.yes rfl rfl rfl hc3) rfl rfl (OV.quiet (ov_len_slice Tryz.underlying102 rfl rfl)) ?_
   refine WL.quiet (Runs.yes rfl rfl rfl hc3) rfl rfl (OV.quiet (ov_gtr rfl rfl rfl)) ?_
   refine wq rfl rfl rfl (ov_pick_false rfl (guard_eq rfl hc3) rfl) ?_
   exact WL.nil ⟨Sub.cons' rfl (congrArg Value.bool (orF hc3)) (Sub.skip rfl (Sub.skip rfl (Sub.skip rfl (Sub.skip rfl (Sub.refl _))))), fun _ s => s⟩
 refine WL.nil (then_normal ?_)
 refine WP.cond rfl (fun hc4 => ?_) (fun hc4 => ?_)
 ·
  replace hm := ite_t hc4 hm
  refine WP.seq (WP.region ?_)
  refine wq rfl rfl rfl (ov_assign rfl rfl) ?_
  refine WL.nil (then_normal (WP.ret (then_ret ?_)))
  obtain rfl := Option.some.inj hm
  refine retQ_ret Tryz.results49 (Res.tmp rfl Res.nil) rfl (fun w' s => ⟨s.below, ?_⟩)
  exact rfl
 ·
  replace hm := ite_f hc4 hm
  refine WP.skip (then_normal ?_)
  obtain ⟨k1, hk1, hm⟩ := joinK_some hm
  refine WP.seq_join (fun g' S' => Sub [(1000000007, (.bool false))] g' ∧ (∀ w', S' w' → St w H [] H w') ∧ k1 = some r) ?_ ?_
  ·
   skip
   refine WP.seq (WP.region ?_)
   refine wq rfl rfl rfl (ov_assign rfl rfl) ?_
   refine WL.nil (then_normal (WP.block ?_))
   refine WP.loop (fun m1 g' S' => ∃ (i1 : Int), Sub [(0, (.slice ao1 p_l.length cap1)), (3, (.int .i64 i1)), (1000000007, (.bool false))] g' ∧ (∀ w', S' w' → St w H [] H w') ∧ ref58_FewEntries_loop1 p_l k1 m1 i1 = some r) ((Int.toNat ((p_l.length : Int) - 0) + 1)) ⟨0, (Sub.cons rfl (Sub.cons rfl (Sub.cons rfl (Sub.nil _)))), fun w' s => s, hm⟩ ?_ ?_
   ·
    rintro g' S' ⟨_, _, _, hm⟩
    exact none_some hm
   ·
    rintro m1 g' S' ⟨i1, hsub1, hS1, hm⟩
    refine WP.sub hsub1 (WP.weaken hS1 ?_)
    rw [ref58_FewEntries_loop1] at hm
    refine WP.seq (WP.seq (WP.region ?_))
    refine wq rfl rfl rfl (ov_move rfl rfl) ?_
    refine wq rfl rfl rfl (ov_move rfl rfl) ?_
    refine wq rfl rfl rfl (ov_len_slice Tryz.underlying102 rfl rfl) ?_
    refine wq rfl rfl rfl (ov_lss rfl rfl rfl) ?_
    refine WL.nil (then_normal ?_)
    refine WP.cond rfl (fun hc5 => ?_) (fun hc5 => ?_)
    ·
     replace hm := ite_t hc5 hm
     refine WP.skip (then_normal (WP.seq (WP.block (WP.seq (WP.region ?_)))))
     refine wq rfl rfl rfl (ov_move rfl rfl) ?_
     refine wq rfl rfl rfl (ov_move rfl rfl) ?_
     obtain ⟨x1, e1, hm⟩ := bind_some hm
     obtain ⟨h2, h3, h4, cs1, h5, h6⟩ := h1.get e1 (by decide)
     obtain rfl : cs1 = [(.int .i64 x1.kind), (mkS x1.name), (.int .i64 x1.count), (.int .i64 x1.strokes)] := h5
     refine wq rfl rfl rfl (ov_indexAddr Tryz.underlying102 Tryz.sizeOf30 rfl rfl rfl h2 h3 h4) ?_
     refine wq rfl rfl rfl (ov_fieldAddrE Tryz.underlying30 rfl rfl rfl Tryz.sizeOf9 rfl rfl) ?_
     refine wq rfl rfl rfl (ov_load_elem (v := (mkS x1.name)) Tryz.isAgg9 rfl rfl (h6.one (off := 1) rfl)) ?_
     refine wq rfl rfl rfl (ov_len_string Tryz.underlying9 rfl rfl) ?_
     refine wq rfl rfl rfl (ov_gtr rfl rfl rfl) ?_
     refine WL.nil (then_normal ?_)
     refine WP.cond rfl (fun hc6 => ?_) (fun hc6 => ?_)
     ·
      replace hm := ite_t hc6 hm
      refine WP.seq (WP.region ?_)
      refine wq rfl rfl rfl (ov_assign rfl rfl) ?_
      refine WL.nil (then_normal (WP.ret (block_ret (then_ret (then_ret (block_ret (then_ret ?_)))))))
      obtain rfl := Option.some.inj hm
      refine retQ_ret Tryz.results49 (Res.tmp rfl Res.nil) rfl (fun w' s => ⟨s.below, ?_⟩)
      exact rfl
     ·
      replace hm := ite_f hc6 hm
      refine WP.skip (block_normal (then_normal (WP.region ?_)))
      refine wq rfl rfl rfl (ov_move rfl rfl) ?_
      refine wq rfl rfl rfl (ov_add rfl rfl rfl) ?_
      refine wq rfl rfl rfl (ov_assign rfl rfl) ?_
      refine WL.nil (then_normal ?_)
      exact ⟨(IntKind.wrap .i64 (i1 + 1)), (Sub.cons rfl (Sub.cons rfl (Sub.cons rfl (Sub.nil _)))), fun w' s => s, hm⟩
    ·
     replace hm := ite_f hc5 hm
     refine WP.exit (then_exit (then_exit (block_here (then_normal ?_))))
     exact ⟨(Sub.cons rfl (Sub.nil _)), fun w' s => s, hm⟩
  ·
   rintro g' S' ⟨hsub2, hS2, hm⟩
   refine WP.sub hsub2 (WP.weaken hS2 ?_)
   replace hm := hk1.symm.trans hm
   refine WP.seq (WP.region ?_)
   refine wq rfl rfl rfl (ov_assign rfl rfl) ?_
   refine WL.nil (then_normal (WP.ret ?_))
   obtain rfl := Option.some.inj hm
   refine retQ_ret Tryz.results49 (Res.tmp rfl Res.nil) rfl (fun w' s => ⟨s.below, ?_⟩)
   exact rfl

theorem law58_entries_con (p_l : (List Entry)) (ao1 : Option Addr) (cap1 : Nat) (w : World) (H : Heap) (hH : Le H (hp w)) (h1 : SL H encEntry ao1 p_l) (hc1 : p_l.length ≤ cap1) (hG : Glob H) (r : (List Entry)) (hm : law58_entries p_l = some r) :
  Con Tryz.prog 50 [(.slice ao1 p_l.length cap1)] w H (fun v H' => ∃ (ao2 : Option Addr) (cap2 : Nat), v = (.slice ao2 r.length cap2) ∧ SL H' encEntry ao2 r ∧ r.length ≤ cap2) := by
 unfold law58_entries at hm
 refine con_of hH Tryz.func50 rfl 18 Tryz.ntmps50 rfl ?_
 refine WP.seq (WP.region ?_)
 refine wq rfl rfl rfl (ov_assign rfl rfl) ?_
 refine WL.nil (then_normal (WP.seq (WP.region ?_)))
 refine wq rfl rfl rfl (ov_assign rfl rfl) ?_
 refine WL.nil (then_normal ?_)
 obtain ⟨k1, hk1, hm⟩ := joinK_some hm
 refine WP.seq_join (fun g' S' => ∃ (l3 : (List Entry)) (ao5 : Option Addr) (cap5 : Nat) (xs2 : List Value), RL H encEntry l3 xs2 ∧ Sub [(3, (.slice ao5 l3.length cap5)), (1000000007, (.bool false))] g' ∧ (∀ w', S' w' → St w H [.row 30 (encEntry).size l3.length (.slice ao5 l3.length cap5) xs2] H w') ∧ k1 l3 = some r) ?_ ?_
 ·
  skip
  refine WP.seq (WP.region ?_)
  refine wq rfl rfl rfl (ov_move rfl rfl) ?_
  refine wq rfl rfl rfl (ov_len_slice Tryz.underlying52 rfl rfl) ?_
  refine wq rfl rfl rfl (ov_move rfl rfl) ?_
  refine WL.nil (then_normal (WP.block ?_))
  have rl1 := RL.nil (α := Entry) H encEntry
  refine WP.weaken (fun _ s => s.nilrow 30 (encEntry).size) ?_
  refine WP.loop (fun m1 g' S' => ∃ (i1 : Int) (l1 : (List Entry)) (ao3 : Option Addr) (cap3 : Nat) (xs1 : List Value), RL H encEntry l1 xs1 ∧ Sub [(3, (.slice ao3 l1.length cap3)), (6, (.slice ao1 p_l.length cap1)), (7, (.int .i64 (p_l.length : Int))), (8, (.int .i64 i1)), (1000000007, (.bool false))] g' ∧ (∀ w', S' w' → St w H [.row 30 (encEntry).size l1.length (.slice ao3 l1.length cap3) xs1] H w') ∧ law58_entries_loop1 p_l k1 m1 i1 l1 = some r) ((Int.toNat ((p_l.length : Int) - 0) + 1)) ⟨0, ([] : List Entry), none, 0, [], rl1, (Sub.cons rfl (Sub.cons rfl (Sub.cons rfl (Sub.cons rfl (Sub.cons rfl (Sub.nil _)))))), fun w' s => s, hm⟩ ?_ ?_
  ·
   rintro g' S' ⟨_, _, _, _, _, _, _, _, hm⟩
   exact none_some hm
  ·
   rintro m1 g' S' ⟨i1, l1, ao3, cap3, xs1, rl2, hsub1, hS1, hm⟩
   refine WP.sub hsub1 (WP.weaken hS1 ?_)
   rw [law58_entries_loop1] at hm
   refine WP.seq (WP.region ?_)
   refine wq rfl rfl rfl (ov_lss rfl rfl rfl) ?_
   refine WL.nil (then_normal (WP.seq ?_))
   refine WP.cond rfl (fun hc3 => ?_) (fun hc3 => ?_)
   ·
    replace hm := ite_t hc3 hm
    refine WP.skip (then_normal (WP.seq (WP.block (WP.seq (WP.region ?_)))))
    obtain ⟨x1, e1, hm⟩ := bind_some hm
    obtain ⟨h3, h4, h5, cs1, h6, h7⟩ := h1.get e1 (by decide)
    obtain rfl : cs1 = [(.int .i64 x1.kind), (mkS x1.name), (.int .i64 x1.count), (.int .i64 x1.strokes)] := h6
    refine wq rfl rfl rfl (ov_indexAddr Tryz.underlying52 Tryz.sizeOf23 rfl rfl rfl h3 h4 h5) ?_
    refine wq rfl rfl rfl (ov_load_elems (vs := [(.int .i64 x1.kind), (mkS x1.name), (.int .i64 x1.count), (.int .i64 x1.strokes)]) Tryz.isAgg23 Tryz.sizeOf23 rfl rfl rfl h7 h5) ?_
    refine WL.step (Runs.free rfl) rfl rfl (os_alloc (cs := [(.int .i64 0), (mkS []), (.int .i64 0), (.int .i64 0)]) Tryz.zeroValue23 rfl rfl (fun b1 => ?_))
    refine WL.step0 (Runs.free rfl) rfl (os_store (i := 0) (vs := [(.int .i64 x1.kind), (mkS x1.name), (.int .i64 x1.count), (.int .i64 x1.strokes)]) (cs' := [(.int .i64 x1.kind), (mkS x1.name), (.int .i64 x1.count), (.int .i64 x1.strokes)]) Tryz.sizeOf23 rfl rfl rfl rfl rfl rfl rfl rfl rfl ?_)
    refine WL.nil (then_normal (WP.region ?_))
    refine wq rfl rfl rfl (ov_move rfl rfl) ?_
    refine wq rfl rfl rfl (ov_load_whole (i := 0) Tryz.isAgg23 Tryz.sizeOf23 rfl rfl rfl rfl) ?_
    have rl3 : RL H encEntry ([x1] : List Entry) [(.int .i64 x1.kind), (mkS x1.name), (.int .i64 x1.count), (.int .i64 x1.strokes)] := RL.cons (cs := [(.int .i64 x1.kind), (mkS x1.name), (.int .i64 x1.count), (.int .i64 x1.strokes)]) (xs := []) rfl (RL.nil _ _)
    refine WL.step (Runs.free rfl) rfl rfl (os_buildSlice (cs := [(.int .i64 x1.kind), (mkS x1.name), (.int .i64 x1.count), (.int .i64 x1.strokes)]) (E := 30) (sz := 4) rfl rfl (fun _ => by kernel_rfl) rfl (by decide) (fun b2 => ?_))
    obtain ⟨l2, e2, hm⟩ := bind_some hm
    refine WL.step (Runs.free rfl) rfl rfl (os_app (i := 2) (j := 0) (En := encEntry) (xs := xs1) (ys := [(.int .i64 x1.kind), (mkS x1.name), (.int .i64 x1.count), (.int .i64 x1.strokes)]) Tryz.underlying102 (by kernel_rfl : (Tryz.prog.info? 30).map (fun i => (i.zero, i.size, i.bytes)) = some (some (.agg #[(.int .i64 0), (mkS []), (.int .i64 0), (.int .i64 0)]), (encEntry).size, 40)) rfl (by decide) rfl rfl rfl rfl rfl rfl rl2 rl3 e2 (fun ao4 cap4 rl4 => ?_))
    refine wq rfl rfl rfl (ov_assign rfl rfl) ?_
    refine WL.nil (block_normal (then_normal (WP.region ?_)))
    refine wq rfl rfl rfl (ov_add rfl rfl rfl) ?_
    refine wq rfl rfl rfl (ov_move rfl rfl) ?_
    refine WL.nil (then_normal ?_)
    exact ⟨(IntKind.wrap .i64 (i1 + 1)), (l1 ++ ([x1] : List Entry)), ao4, cap4, (xs1 ++ [(.int .i64 x1.kind), (mkS x1.name), (.int .i64 x1.count), (.int .i64 x1.strokes)]), rl4, (Sub.cons rfl (Sub.cons rfl (Sub.cons rfl (Sub.cons rfl (Sub.cons rfl (Sub.nil _)))))), fun w' s => (s.select [2] (by decide) rfl), hm⟩
   ·
    replace hm := ite_f hc3 hm
    refine WP.exit (then_exit (then_exit (block_here (then_normal ?_))))
    exact ⟨l1, ao3, cap3, xs1, rl2, (Sub.cons rfl (Sub.cons rfl (Sub.nil _))), fun w' s => s, hm⟩
 ·
  rintro g' S' ⟨l3, ao5, cap5, xs2, rl5, hsub2, hS2, hm⟩
  refine WP.sub hsub2 (WP.weaken hS2 ?_)
  replace hm := (congrFun hk1 l3).symm.trans hm
  refine WP.seq (WP.region ?_)
  refine wq rfl rfl rfl (ov_move rfl rfl) ?_
  refine wq rfl rfl rfl (ov_assign rfl rfl) ?_
  refine WL.nil (then_normal (WP.ret ?_))
  obtain rfl := Option.some.inj hm
  refine retQ_ret Tryz.results50 (Res.tmp rfl Res.nil) rfl (fun w' s => ⟨s.below, ?_⟩)
  obtain ⟨h8, hc4⟩ := s.ret_row (i := 0) rfl rl5
  exact ⟨ao5, cap5, rfl, h8, hc4⟩

theorem ref58_Run_con (p_l : (List Entry)) (ao1 : Option Addr) (cap1 : Nat) (w : World) (H : Heap) (hH : Le H (hp w)) (h1 : SL H encEntry ao1 p_l) (hc1 : p_l.length ≤ cap1) (hG : Glob H) (r : (Machine × Int × Int)) (hm : ref58_Run p_l = some r) :
  Con Tryz.prog 51 [(.slice ao1 p_l.length cap1)] w H (fun v H' => ∃ (ao2 : Option Addr) (cap2 : Nat), v = (.tuple #[(.agg #[(.slice ao2 r.1.items.length cap2), (.int .i64 r.1.cycles)]), (.int .i64 r.2.1), (.int .i64 r.2.2)]) ∧ SL H' encItem ao2 r.1.items ∧ r.1.items.length ≤ cap2) := by
 unfold ref58_Run at hm
 refine con_of hH Tryz.func51 rfl 35 Tryz.ntmps51 rfl ?_
 refine WP.seq (WP.region ?_)
 refine WL.step (Runs.free rfl) rfl rfl (os_alloc (cs := [(.slice none 0 0), (.int .i64 0)]) Tryz.zeroValue46 rfl rfl (fun b1 => ?_))
 refine wq rfl rfl rfl (ov_assign rfl rfl) ?_
 refine wq rfl rfl rfl (ov_assign rfl rfl) ?_
 refine WL.nil (then_normal (WP.seq (WP.seq (WP.region ?_))))
 refine wq rfl rfl rfl (ov_move rfl rfl) ?_
 refine wq rfl rfl rfl (ov_len_slice Tryz.underlying102 rfl rfl) ?_
 refine wq rfl rfl rfl (ov_gtr rfl rfl rfl) ?_
 refine WL.nil (then_normal ?_)
 refine WP.cond rfl (fun hc3 => ?_) (fun hc3 => ?_)
 ·
  replace hm := ite_t hc3 hm
  refine WP.seq (WP.region ?_)
  refine wq rfl rfl rfl (ov_build (r := (.agg #[(.slice none 0 0), (.int .i64 0)])) rfl rfl (fun _ => by kernel_rfl)) ?_
  refine WL.step0 (Runs.free rfl) rfl (os_store (i := 0) (vs := [(.slice none 0 0), (.int .i64 0)]) (cs' := [(.slice none 0 0), (.int .i64 0)]) Tryz.sizeOf46 rfl rfl rfl rfl rfl rfl rfl rfl rfl ?_)
  refine wq rfl rfl rfl (ov_assign rfl rfl) ?_
  refine wq rfl rfl rfl (ov_assign rfl rfl) ?_
  refine WL.nil (then_normal (WP.ret (then_ret ?_)))
  obtain rfl := Option.some.inj hm
  refine retQ_ret Tryz.results51 (Res.cell rfl (box_loads (i := 0) Tryz.isAgg46 Tryz.sizeOf46 rfl rfl) (Res.tmp rfl (Res.tmp rfl Res.nil))) rfl (fun w' s => ⟨s.below, ?_⟩)
  exact ⟨none, 0, rfl, SL.nil _ _ _, Nat.le_refl _⟩
 ·
  replace hm := ite_f hc3 hm
  refine WP.skip (then_normal (WP.seq (WP.region ?_)))
  refine WL.step (Runs.free rfl) rfl rfl (os_alloc (cs := [(.slice none 0 0), (.int .i64 0)]) Tryz.zeroValue46 rfl rfl (fun b2 => ?_))
  refine WL.nil (then_normal ?_)
  obtain ⟨k1, hk1, hm⟩ := joinK_some hm
  refine WP.seq_join (fun g' S' => ∃ (H5 : Heap) (l3 : (List Item)) (ao7 : Option Addr) (cap7 : Nat) (i5 : Int), Le H H5 ∧ SL H5 encItem ao7 l3 ∧ l3.length ≤ cap7 ∧ Sub [(2, (pB b1 0)), (5, (pB b2 0)), (1000000007, (.bool false))] g' ∧ (∀ w', S' w' → St w H [.blk b2 46 [(.slice ao7 l3.length cap7), (.int .i64 i5)], .blk b1 46 [(.slice none 0 0), (.int .i64 0)]] H5 w') ∧ k1 l3 i5 = some r) ?_ ?_
  ·
   skip
   refine WP.seq (WP.region ?_)
   refine wq rfl rfl rfl (ov_assign rfl rfl) ?_
   refine WL.nil (then_normal (WP.block ?_))
   refine WP.loop (fun m1 g' S' => ∃ (H1 : Heap) (i1 : Int) (l1 : (List Item)) (ao3 : Option Addr) (cap3 : Nat) (i2 : Int), Le H H1 ∧ SL H1 encItem ao3 l1 ∧ l1.length ≤ cap3 ∧ Sub [(0, (.slice ao1 p_l.length cap1)), (2, (pB b1 0)), (5, (pB b2 0)), (6, (.int .i64 i1)), (1000000007, (.bool false))] g' ∧ (∀ w', S' w' → St w H [.blk b2 46 [(.slice ao3 l1.length cap3), (.int .i64 i2)], .blk b1 46 [(.slice none 0 0), (.int .i64 0)]] H1 w') ∧ ref58_Run_loop1 p_l k1 m1 i1 l1 i2 = some r) ((Int.toNat ((p_l.length : Int) - 0) + 1)) ⟨H, 0, [], none, 0, 0, (Le.refl _), (SL.nil _ _ _), (Nat.le_refl _), (Sub.cons rfl (Sub.cons rfl (Sub.cons rfl (Sub.cons rfl (Sub.cons rfl (Sub.nil _)))))), fun w' s => s, hm⟩ ?_ ?_
   ·
    rintro g' S' ⟨_, _, _, _, _, _, _, _, _, _, _, hm⟩
    exact none_some hm
   ·
    rintro m1 g' S' ⟨H1, i1, l1, ao3, cap3, i2, hle1, h3, hc4, hsub1, hS1, hm⟩
    refine WP.sub hsub1 (WP.weaken hS1 ?_)
    rw [ref58_Run_loop1] at hm
    replace h1 := h1.mono hle1
    replace hG := hG.mono hle1
    refine WP.seq (WP.seq (WP.region ?_))
    refine wq rfl rfl rfl (ov_move rfl rfl) ?_
    refine wq rfl rfl rfl (ov_move rfl rfl) ?_
    refine wq rfl rfl rfl (ov_len_slice Tryz.underlying102 rfl rfl) ?_
    refine wq rfl rfl rfl (ov_lss rfl rfl rfl) ?_
    refine WL.nil (then_normal ?_)
    refine WP.cond rfl (fun hc5 => ?_) (fun hc5 => ?_)
    ·
     replace hm := ite_t hc5 hm
     refine WP.skip (then_normal (WP.seq (WP.block ?_)))
     obtain ⟨k2, hk2, hm⟩ := joinK_some hm
     refine WP.seq_join (fun g' S' => ∃ (H4 : Heap) (b5 : Nat) (i3 : Int) (l2 : (List Item)) (ao6 : Option Addr) (cap6 : Nat) (i4 : Int), Le H1 H4 ∧ SL H4 encItem ao6 l2 ∧ l2.length ≤ cap6 ∧ Sub [(0, (.slice ao1 p_l.length cap1)), (2, (pB b1 0)), (5, (pB b2 0)), (6, (.int .i64 i1)), (7, (pB b5 0)), (8, (.int .i64 i3)), (1000000007, (.bool false))] g' ∧ (∀ w', S' w' → St w H [.blk b5 46 [(.slice ao6 l2.length cap6), (.int .i64 i4)], .blk b2 46 [(.slice ao3 l1.length cap3), (.int .i64 i2)], .blk b1 46 [(.slice none 0 0), (.int .i64 0)]] H4 w') ∧ k2 i3 l2 i4 = some r) ?_ ?_
     ·
      skip
      refine WP.region_any (S₀ := St w H [.blk b2 46 [(.slice ao3 l1.length cap3), (.int .i64 i2)], .blk b1 46 [(.slice none 0 0), (.int .i64 0)]] H1) 12 rfl (by kernel_rfl) (fun w' s => s) (fun _ s => s.drew) ?_
      refine tq (i := 0) rfl (by kernel_rfl) rfl rfl rfl (ov_load_whole (i := 0) Tryz.isAgg46 Tryz.sizeOf46 rfl rfl rfl rfl) ?_
      refine tq (i := 1) rfl (by kernel_rfl) rfl rfl rfl (ov_move rfl rfl) ?_
      refine tq (i := 2) rfl (by kernel_rfl) rfl rfl rfl (ov_move rfl rfl) ?_
      obtain ⟨x1, e1, hm⟩ := bind_some hm
      obtain ⟨h4, h5, h6, cs1, h7, h8⟩ := h1.get e1 (by decide)
      obtain rfl : cs1 = [(.int .i64 x1.kind), (mkS x1.name), (.int .i64 x1.count), (.int .i64 x1.strokes)] := h7
      refine tq (i := 3) rfl (by kernel_rfl) rfl rfl rfl (ov_indexAddr Tryz.underlying102 Tryz.sizeOf30 rfl rfl rfl h4 h5 h6) ?_
      refine tq (i := 4) rfl (by kernel_rfl) rfl rfl rfl (ov_load_elems (vs := [(.int .i64 x1.kind), (mkS x1.name), (.int .i64 x1.count), (.int .i64 x1.strokes)]) Tryz.isAgg30 Tryz.sizeOf30 rfl rfl rfl h8 h6) ?_
      refine AL.any (rs := [5, 9]) (by kernel_rfl) (by decide) ?_
      refine ALs.cons (i := 5) rfl (Runs.free rfl) rfl rfl ?_ ?_
      ·
       skip
       obtain ⟨r1, e2, hm⟩ := bind_some hm
       refine os_con Tryz.call86 rfl rfl (fun w' s => (ref58_Do_con (Machine.mk l1 i2) x1 ao3 cap3  w' H1 s.hold h3 hc4 hG r1 e2)) (fun rr1 H2 hle2 hR1 => ?_)
       replace h1 := h1.mono hle2
       replace h3 := h3.mono hle2
       replace h8 := h8.mono hle2
       replace hG := hG.mono hle2
       obtain ⟨ao4, cap4, rfl, h9, hc6⟩ := hR1
       refine ⟨fun w' s => (s.heap hle2), ?_⟩
       refine tq (i := 6) rfl (by kernel_rfl) rfl rfl rfl (ov_move rfl rfl) ?_
       refine tq (i := 7) rfl (by kernel_rfl) rfl rfl rfl (ov_extract rfl rfl rfl) ?_
       refine tq (i := 8) rfl (by kernel_rfl) rfl rfl rfl (ov_extract rfl rfl rfl) ?_
       refine AL.any (rs := [9]) (by kernel_rfl) (by decide) ?_
       refine ALs.cons (i := 9) rfl (Runs.free rfl) rfl rfl ?_ ?_
       ·
        skip
        refine os_alloc (cs := [(.slice none 0 0), (.int .i64 0)]) Tryz.zeroValue46 rfl rfl (fun b3 => ?_)
        refine ⟨fun w' s => ((s.select [1, 2] (by decide) rfl).heap hle2), ?_⟩
        refine AL.any (rs := [10]) (by kernel_rfl) (by decide) ?_
        refine ALs.cons0 (i := 10) rfl (Runs.free rfl) rfl ?_ ?_
        ·
         skip
         refine os_store (i := 0) (vs := [(.slice ao4 r1.1.items.length cap4), (.int .i64 r1.1.cycles)]) (cs' := [(.slice ao4 r1.1.items.length cap4), (.int .i64 r1.1.cycles)]) Tryz.sizeOf46 rfl rfl rfl rfl rfl rfl rfl rfl rfl ?_
         refine ⟨fun w' s => ((s.select [1, 2] (by decide) rfl).heap hle2), ?_⟩
         refine tq (i := 11) rfl (by kernel_rfl) rfl rfl rfl (ov_assign rfl rfl) ?_
         refine AL.done (by kernel_rfl) ?_
         refine then_normal ?_
         exact ⟨H2, b3, r1.2, r1.1.items, ao4, cap4, r1.1.cycles, hle2, h9, hc6, (Sub.cons rfl (Sub.cons rfl (Sub.cons rfl (Sub.cons rfl (Sub.cons rfl (Sub.cons rfl (Sub.cons rfl (Sub.nil _)))))))), fun w' s => s, hm⟩
        exact ALs.nil
       exact ALs.nil
      refine ALs.cons (i := 9) rfl (Runs.free rfl) rfl rfl ?_ ?_
      ·
       skip
       refine os_alloc (cs := [(.slice none 0 0), (.int .i64 0)]) Tryz.zeroValue46 rfl rfl (fun b4 => ?_)
       refine ⟨fun w' s => (s.select [1, 2] (by decide) rfl), ?_⟩
       refine AL.any (rs := [5]) (by kernel_rfl) (by decide) ?_
       refine ALs.cons (i := 5) rfl (Runs.free rfl) rfl rfl ?_ ?_
       ·
        skip
        obtain ⟨r2, e3, hm⟩ := bind_some hm
        refine os_con Tryz.call86 rfl rfl (fun w' s => (ref58_Do_con (Machine.mk l1 i2) x1 ao3 cap3  w' H1 s.hold h3 hc4 hG r2 e3)) (fun rr2 H3 hle3 hR2 => ?_)
        replace h1 := h1.mono hle3
        replace h3 := h3.mono hle3
        replace h8 := h8.mono hle3
        replace hG := hG.mono hle3
        obtain ⟨ao5, cap5, rfl, h10, hc7⟩ := hR2
        refine ⟨fun w' s => ((s.select [1, 2] (by decide) rfl).heap hle3), ?_⟩
        refine tq (i := 6) rfl (by kernel_rfl) rfl rfl rfl (ov_move rfl rfl) ?_
        refine tq (i := 7) rfl (by kernel_rfl) rfl rfl rfl (ov_extract rfl rfl rfl) ?_
        refine tq (i := 8) rfl (by kernel_rfl) rfl rfl rfl (ov_extract rfl rfl rfl) ?_
        refine AL.any (rs := [10]) (by kernel_rfl) (by decide) ?_
        refine ALs.cons0 (i := 10) rfl (Runs.free rfl) rfl ?_ ?_
        ·
         skip
         refine os_store (i := 0) (vs := [(.slice ao5 r2.1.items.length cap5), (.int .i64 r2.1.cycles)]) (cs' := [(.slice ao5 r2.1.items.length cap5), (.int .i64 r2.1.cycles)]) Tryz.sizeOf46 rfl rfl rfl rfl rfl rfl rfl rfl rfl ?_
         refine ⟨fun w' s => ((s.select [1, 2] (by decide) rfl).heap hle3), ?_⟩
         refine tq (i := 11) rfl (by kernel_rfl) rfl rfl rfl (ov_assign rfl rfl) ?_
         refine AL.done (by kernel_rfl) ?_
         refine then_normal ?_
         exact ⟨H3, b4, r2.2, r2.1.items, ao5, cap5, r2.1.cycles, hle3, h10, hc7, (Sub.cons rfl (Sub.cons rfl (Sub.cons rfl (Sub.cons rfl (Sub.cons rfl (Sub.cons rfl (Sub.cons rfl (Sub.nil _)))))))), fun w' s => s, hm⟩
        exact ALs.nil
       exact ALs.nil
      exact ALs.nil
     ·
      rintro g' S' ⟨H4, b5, i3, l2, ao6, cap6, i4, hle4, h11, hc8, hsub2, hS2, hm⟩
      refine WP.sub hsub2 (WP.weaken hS2 ?_)
      replace hm := (congrFun (congrFun (congrFun hk2 i3) l2) i4).symm.trans hm
      replace h1 := h1.mono hle4
      replace h3 := h3.mono hle4
      replace hG := hG.mono hle4
      refine WP.seq (WP.seq (WP.region ?_))
      refine wq rfl rfl rfl (ov_move rfl rfl) ?_
      refine wq rfl rfl rfl (ov_neq rfl rfl rfl) ?_
      refine WL.nil (then_normal ?_)
      refine WP.cond rfl (fun hc9 => ?_) (fun hc9 => ?_)
      ·
       replace hm := ite_t hc9 hm
       refine WP.seq (WP.region ?_)
       refine wq rfl rfl rfl (ov_build (r := (.agg #[(.slice none 0 0), (.int .i64 0)])) rfl rfl (fun _ => by kernel_rfl)) ?_
       refine wq rfl rfl rfl (ov_move rfl rfl) ?_
       refine wq rfl rfl rfl (ov_move rfl rfl) ?_
       refine WL.step0 (Runs.free rfl) rfl (os_store (i := 2) (vs := [(.slice none 0 0), (.int .i64 0)]) (cs' := [(.slice none 0 0), (.int .i64 0)]) Tryz.sizeOf46 rfl rfl rfl rfl rfl rfl rfl rfl rfl ?_)
       refine wq rfl rfl rfl (ov_assign rfl rfl) ?_
       refine wq rfl rfl rfl (ov_assign rfl rfl) ?_
       refine WL.nil (then_normal (WP.ret (then_ret (block_ret (then_ret (then_ret (block_ret (then_ret ?_))))))))
       obtain rfl := Option.some.inj hm
       refine retQ_ret Tryz.results51 (Res.cell rfl (box_loads (i := 2) Tryz.isAgg46 Tryz.sizeOf46 rfl rfl) (Res.tmp rfl (Res.tmp rfl Res.nil))) rfl (fun w' s => ⟨s.below, ?_⟩)
       exact ⟨none, 0, rfl, SL.nil _ _ _, Nat.le_refl _⟩
      ·
       replace hm := ite_f hc9 hm
       refine WP.skip (then_normal (WP.region ?_))
       refine wq rfl rfl rfl (ov_load_whole (i := 0) Tryz.isAgg46 Tryz.sizeOf46 rfl rfl rfl rfl) ?_
       refine WL.step0 (Runs.free rfl) rfl (os_store (i := 1) (vs := [(.slice ao6 l2.length cap6), (.int .i64 i4)]) (cs' := [(.slice ao6 l2.length cap6), (.int .i64 i4)]) Tryz.sizeOf46 rfl rfl rfl rfl rfl rfl rfl rfl rfl ?_)
       refine WL.nil (block_normal (then_normal (WP.region ?_)))
       refine wq rfl rfl rfl (ov_move rfl rfl) ?_
       refine wq rfl rfl rfl (ov_add rfl rfl rfl) ?_
       refine wq rfl rfl rfl (ov_assign rfl rfl) ?_
       refine WL.nil (then_normal ?_)
       exact ⟨H4, (IntKind.wrap .i64 (i1 + 1)), l2, ao6, cap6, i4, (hle1.trans hle4), h11, hc8, (Sub.cons rfl (Sub.cons rfl (Sub.cons rfl (Sub.cons rfl (Sub.cons rfl (Sub.nil _)))))), fun w' s => (s.select [1, 2] (by decide) rfl), hm⟩
    ·
     replace hm := ite_f hc5 hm
     refine WP.exit (then_exit (then_exit (block_here (then_normal ?_))))
     exact ⟨H1, l1, ao3, cap3, i2, hle1, h3, hc4, (Sub.cons rfl (Sub.cons rfl (Sub.cons rfl (Sub.nil _)))), fun w' s => s, hm⟩
  ·
   rintro g' S' ⟨H5, l3, ao7, cap7, i5, hle5, h12, hc10, hsub3, hS3, hm⟩
   refine WP.sub hsub3 (WP.weaken hS3 ?_)
   replace hm := (congrFun (congrFun hk1 l3) i5).symm.trans hm
   replace hG := hG.mono hle5
   refine WP.seq (WP.region ?_)
   refine wq rfl rfl rfl (ov_load_whole (i := 0) Tryz.isAgg46 Tryz.sizeOf46 rfl rfl rfl rfl) ?_
   refine WL.step0 (Runs.free rfl) rfl (os_store (i := 1) (vs := [(.slice ao7 l3.length cap7), (.int .i64 i5)]) (cs' := [(.slice ao7 l3.length cap7), (.int .i64 i5)]) Tryz.sizeOf46 rfl rfl rfl rfl rfl rfl rfl rfl rfl ?_)
   refine wq rfl rfl rfl (ov_assign rfl rfl) ?_
   refine wq rfl rfl rfl (ov_assign rfl rfl) ?_
   refine WL.nil (then_normal (WP.ret ?_))
   obtain rfl := Option.some.inj hm
   refine retQ_ret Tryz.results51 (Res.cell rfl (box_loads (i := 1) Tryz.isAgg46 Tryz.sizeOf46 rfl rfl) (Res.tmp rfl (Res.tmp rfl Res.nil))) rfl (fun w' s => ⟨s.below, ?_⟩)
   exact ⟨ao7, cap7, rfl, h12.mono s.le_newer, hc10⟩

theorem law58_right_con (p_l : (List Entry)) (ao1 : Option Addr) (cap1 : Nat) (w : World) (H : Heap) (hH : Le H (hp w)) (h1 : SL H encEntry ao1 p_l) (hc1 : p_l.length ≤ cap1) (hG : Glob H) (r : Bool) (hm : law58_right p_l = some r) :
  Con Tryz.prog 21 [(.slice ao1 p_l.length cap1)] w H (fun v _ => v = (.bool r)) := by
 unfold law58_right at hm
 refine con_of hH Tryz.func21 rfl 24 Tryz.ntmps21 rfl ?_
 refine WP.seq (WP.region ?_)
 refine wq rfl rfl rfl (ov_assign rfl rfl) ?_
 refine WL.nil (then_normal (WP.seq (WP.seq (WP.region ?_))))
 refine wq rfl rfl rfl (ov_move rfl rfl) ?_
 refine wq rfl rfl rfl (ov_len_slice Tryz.underlying52 rfl rfl) ?_
 refine wq rfl rfl rfl (ov_gtr rfl rfl rfl) ?_
 refine wq rfl rfl rfl (ov_move rfl rfl) ?_
 obtain ⟨c1, e1, hm⟩ := bind_some hm
 refine WL.cut_bool 5 14 (x := c1) ?_ ?_
 ·
  rcases Bool.eq_false_or_eq_true (decide ((p_l.length : Int) > 20)) with hc2 | hc2
  ·
   skip
   replace hm := ite_t hc2 e1
   refine WL.idle (Idle.no rfl rfl rfl hc2) rfl rfl ?_
   refine WL.idle (Idle.no rfl rfl rfl hc2) rfl rfl ?_
   refine WL.idle (Idle.no rfl rfl rfl hc2) rfl rfl ?_
   refine WL.idle (Idle.no rfl rfl rfl hc2) rfl rfl ?_
   refine wq rfl rfl rfl (ov_pick_true rfl (guard_eq rfl hc2) rfl) ?_
   exact WL.nil ⟨Sub.cons' rfl (congrArg Value.bool (Option.some.inj hm)) (Sub.skip rfl (Sub.skip rfl (Sub.skip rfl (Sub.skip rfl (Sub.skip rfl (Sub.refl _)))))), fun _ s => s⟩
  ·
   skip
   replace hm := ite_f hc2 e1
   refine WL.quiet (Runs.yes rfl rfl rfl hc2) rfl rfl (OV.quiet (ov_move rfl rfl)) ?_
   obtain ⟨r1, e2, hm⟩ := bind_some hm
   refine WL.step (Runs.yes rfl rfl rfl hc2) rfl rfl (os_con Tryz.call50 rfl rfl (fun w' s => (law58_entries_con p_l ao1 cap1  w' H s.hold h1 hc1 hG r1 e2)) (fun rr1 H1 hle1 hR1 => ?_))
   replace h1 := h1.mono hle1
   replace hG := hG.mono hle1
   obtain ⟨ao2, cap2, rfl, h2, hc3⟩ := hR1
   obtain ⟨r2, e3, hm⟩ := bind_some hm
   refine WL.quiet (Runs.yes rfl rfl rfl hc2) rfl rfl (oq_con (r := (.bool r2)) Tryz.call49 rfl rfl (fun w' s => ⟨_, (ref58_FewEntries_con r1 ao2 cap2  w' H1 s.hold h2 hc3 hG r2 e3)⟩)) ?_
   refine WL.quiet (Runs.yes rfl rfl rfl hc2) rfl rfl (OV.quiet (ov_not rfl rfl)) ?_
   refine wq rfl rfl rfl (ov_pick_false rfl (guard_eq rfl hc2) rfl) ?_
   exact WL.nil ⟨Sub.cons' rfl (congrArg Value.bool (Option.some.inj hm)) (Sub.skip rfl (Sub.skip rfl (Sub.skip rfl (Sub.skip rfl (Sub.skip rfl (Sub.refl _)))))), fun _ s => (s.heap hle1)⟩
 refine WL.nil (then_normal ?_)
 refine WP.cond rfl (fun hc4 => ?_) (fun hc4 => ?_)
 ·
  replace hm := ite_t hc4 hm
  refine WP.seq (WP.region ?_)
  refine wq rfl rfl rfl (ov_assign rfl rfl) ?_
  refine WL.nil (then_normal (WP.ret (then_ret ?_)))
  obtain rfl := Option.some.inj hm
  refine retQ_ret Tryz.results21 (Res.tmp rfl Res.nil) rfl (fun w' s => ⟨s.below, ?_⟩)
  exact rfl
 ·
  replace hm := ite_f hc4 hm
  refine WP.skip (then_normal (WP.seq (WP.region ?_)))
  refine wq rfl rfl rfl (ov_move rfl rfl) ?_
  obtain ⟨r3, e4, hm⟩ := bind_some hm
  refine WL.step (Runs.free rfl) rfl rfl (os_con Tryz.call50 rfl rfl (fun w' s => (law58_entries_con p_l ao1 cap1  w' H s.hold h1 hc1 hG r3 e4)) (fun rr2 H2 hle2 hR2 => ?_))
  replace h1 := h1.mono hle2
  replace hG := hG.mono hle2
  obtain ⟨ao3, cap3, rfl, h3, hc5⟩ := hR2
  obtain ⟨r4, e5, hm⟩ := bind_some hm
  refine WL.step (Runs.free rfl) rfl rfl (os_con Tryz.call51 rfl rfl (fun w' s => (ref58_Run_con r3 ao3 cap3  w' H2 s.hold h3 hc5 hG r4 e5)) (fun rr3 H3 hle3 hR3 => ?_))
  replace h1 := h1.mono hle3
  replace h3 := h3.mono hle3
  replace hG := hG.mono hle3
  obtain ⟨ao4, cap4, rfl, h4, hc6⟩ := hR3
  refine wq rfl rfl rfl (ov_move rfl rfl) ?_
  refine wq rfl rfl rfl (ov_extract rfl rfl rfl) ?_
  refine wq rfl rfl rfl (ov_extract rfl rfl rfl) ?_
  refine wq rfl rfl rfl (ov_extract rfl rfl rfl) ?_
  refine WL.step (Runs.free rfl) rfl rfl (os_alloc (cs := [(.slice none 0 0), (.int .i64 0)]) Tryz.zeroValue46 rfl rfl (fun b1 => ?_))
  refine WL.step0 (Runs.free rfl) rfl (os_store (i := 0) (vs := [(.slice ao4 r4.1.items.length cap4), (.int .i64 r4.1.cycles)]) (cs' := [(.slice ao4 r4.1.items.length cap4), (.int .i64 r4.1.cycles)]) Tryz.sizeOf46 rfl rfl rfl rfl rfl rfl rfl rfl rfl ?_)
  refine wq rfl rfl rfl (ov_assign rfl rfl) ?_
  refine wq rfl rfl rfl (ov_assign rfl rfl) ?_
  refine WL.nil (then_normal (WP.seq (WP.region ?_)))
  refine wq rfl rfl rfl (ov_move rfl rfl) ?_
  refine wq rfl rfl rfl (ov_eql rfl rfl rfl) ?_
  refine wq rfl rfl rfl (ov_assign rfl rfl) ?_
  refine WL.nil (then_normal (WP.ret ?_))
  obtain rfl := Option.some.inj hm
  refine retQ_ret Tryz.results21 (Res.tmp rfl Res.nil) rfl (fun w' s => ⟨s.below, ?_⟩)
  exact rfl

end Go.Proofs.YtpigfknmlmeihaaGreatDoor.W
