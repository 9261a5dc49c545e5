/- The walks. Written by our own program gen.py; Lean checks it. -/
import Derived.Test.YtbckcjjffbgidaaGreatDoorPlain
import Derived.Test.YtbckcjjffbgidaaGreatDoorEqs
import Derived.Test.YtbckcjjffbgidaaGreatDoorProg
import Derived.Test.YtbckcjjffbgidaaGreatDoorExt
import Derived.Test.YtbckcjjffbgidaaGreatDoorBuild
import Derived.Test.YtbckcjjffbgidaaGreatDoorClone
import Derived.Test.YtbckcjjffbgidaaGreatDoorWalk2
import Derived.Test.YtbckcjjffbgidaaGreatDoorWalk12
import Derived.Test.YtbckcjjffbgidaaGreatDoorWalk14
set_option linter.unusedVariables false
set_option maxRecDepth 100000
set_option maxHeartbeats 4000000
namespace Go.Proofs.YtbckcjjffbgidaaGreatDoor.W
open Go Go.RowKit Go.Proofs.Tryz
theorem ref16_Waits_con (p_s : Sequence) (ao1 : Option Addr) (cap1 : Nat) (w : World) (H : Heap) (hH : Le H (hp w)) (h1 : SL H encStep ao1 p_s.steps) (hc1 : p_s.steps.length ≤ cap1) (hG : Glob H) (r : Bool) (hm : ref16_Waits p_s = some r) :
  Con prog 85 [(.agg #[(.int .i64 p_s.actuators), (.slice ao1 p_s.steps.length cap1)])] w H (fun v _ => v = (.bool r)) := by
 unfold ref16_Waits at hm
 refine con_of hH func85 rfl 18 ntmps85 rfl ?_
 refine WP.seq (WP.region ?_)
 refine ws rfl (os_box (cs := [(.int .i64 p_s.actuators), (.slice ao1 p_s.steps.length cap1)]) rfl rfl rfl (fun b1 => ?_))
 refine Va rfl (WL.nil (tn ?_))
 obtain ⟨k1, hk1, hm⟩ := joinK_some hm
 refine WP.seq_join (fun g' S' => Sub [(1000000007, (.bool false))] g' ∧ (∀ w', S' w' → St w H [] H w') ∧ k1 = some r) ?_ ?_
 ·
  refine WP.seq (WP.region (Va rfl (WL.nil (tn (WP.block ?_)))))
  refine WP.loop (fun m1 g' S' => ∃ (i1 : Int), Sub [(1, (pB b1 0)), (3, (.int .i64 i1)), (1000000007, (.bool false))] g' ∧ (∀ w', S' w' → St w H [.blk b1 24 [(.int .i64 p_s.actuators), (.slice ao1 p_s.steps.length cap1)]] H w') ∧ ref16_Waits_loop1 p_s k1 m1 i1 = some r) ((Int.toNat ((p_s.steps.length : Int) - 0) + 1)) ⟨0, (Sub.all rfl), fun w' s => s, hm⟩ ?_ ?_
  ·
   rintro g' S' ⟨_, _, _, hm⟩
   exact none_some hm
  rintro m1 g' S' ⟨i1, hsub1, hS1, hm⟩
  refine WP.sub hsub1 (WP.weaken hS1 ?_)
  rw [ref16_Waits_loop1] at hm
  refine WP.seq (WP.seq (WP.region (Vm rfl (V rfl (ov_fieldAddr underlying24 rfl rfl rfl sizeOf22 rfl rfl) (Vl 0 isAgg22 rfl (V rfl (ov_len_slice underlying22 rfl rfl) (V rfl (ov_lss rfl rfl rfl) (WL.nil (tn ?_)))))))))
  refine WP.cond rfl (fun hc2 => ?_) (fun hc2 => ?_)
  ·
   replace hm := ite_t hc2 hm
   refine WP.skip (tn (WP.seq (WP.block (WP.seq (WP.region (V rfl (ov_fieldAddr underlying24 rfl rfl rfl sizeOf22 rfl rfl) (Vl 0 isAgg22 rfl (Vm rfl ?_))))))))
   obtain ⟨x1, e1, hm⟩ := bind_some hm
   obtain ⟨h3, h4, h5, cs1, h6, h7⟩ := h1.get e1 (by decide)
   obtain ⟨ao2, cap2, rfl, h2, hc3⟩ := h6
   refine V rfl (ov_indexAddr underlying22 sizeOf45 rfl rfl rfl h3 h4 h5) (V rfl (ov_fieldAddrE underlying45 rfl rfl rfl sizeOf3 rfl rfl) ?_)
   refine V rfl (ov_load_elem (v := (.int .i64 x1.wait)) isAgg3 rfl rfl (h7.one (off := 1) rfl)) (V rfl (ov_neq rfl rfl rfl) (WL.nil (tn ?_)))
   refine WP.cond rfl (fun hc4 => ?_) (fun hc4 => ?_)
   ·
    replace hm := ite_t hc4 hm
    refine WP.seq (WP.region (Va rfl (WL.nil (tn (WP.ret (block_ret (then_ret (then_ret (block_ret (then_ret ?_))))))))))
    obtain rfl := Option.some.inj hm
    refine retQ_ret results85 (Res.tmp rfl Res.nil) rfl (fun w' s => ⟨s.below, ?_⟩)
    exact rfl
   replace hm := ite_f hc4 hm
   refine WP.skip (bn (tn (WP.region (Vm rfl (V rfl (ov_add rfl rfl rfl) (Va rfl (WL.nil (tn ?_))))))))
   exact ⟨(IntKind.wrap .i64 (i1 + 1)), (Sub.all rfl), fun w' s => s, hm⟩
  replace hm := ite_f hc2 hm
  refine WP.exit (then_exit (then_exit (block_here (tn ?_))))
  exact ⟨(Sub.all rfl), fun w' s => (s.select [] (by decide) rfl), hm⟩
 rintro g' S' ⟨hsub2, hS2, hm⟩
 refine WP.sub hsub2 (WP.weaken hS2 ?_)
 replace hm := hk1.symm.trans hm
 refine WP.seq (WP.region (Va rfl (WL.nil (tn (WP.ret ?_)))))
 obtain rfl := Option.some.inj hm
 refine retQ_ret results85 (Res.tmp rfl Res.nil) rfl (fun w' s => ⟨s.below, ?_⟩)
 exact rfl
theorem ref12_Digits_con (p_n : Int) (w : World) (H : Heap) (hH : Le H (hp w)) (hG : Glob H) (r : (List UInt8)) (hm : ref12_Digits p_n = some r) :
  Con prog 86 [(.int .i64 p_n)] w H (fun v _ => v = (mkS r)) := by
 unfold ref12_Digits at hm
 refine con_of hH func86 rfl 25 ntmps86 rfl ?_
 refine WP.seq (WP.region (Va rfl (WL.nil (tn (WP.seq (WP.region (Vm rfl (V rfl (ov_rem rfl rfl rfl (by decide)) (Vm rfl (V rfl (ov_rem rfl rfl rfl (by decide)) (V rfl (ov_add rfl rfl rfl) ?_)))))))))))
 obtain ⟨s1, e1, hm⟩ := bind_some hm
 refine V rfl (ov_slice_string underlying9 rfl rfl rfl rfl e1) (Va rfl (WL.nil (tn ?_)))
 obtain ⟨k1, hk1, hm⟩ := joinK_some hm
 refine WP.seq_join (fun g' S' => ∃ (s5 : (List UInt8)), Sub [(3, (mkS s5)), (1000000007, (.bool false))] g' ∧ (∀ w', S' w' → St w H [] H w') ∧ k1 s5 = some r) ?_ ?_
 ·
  refine WP.seq (WP.region (Vm rfl (V rfl (ov_quo rfl rfl rfl (by decide)) (Va rfl (WL.nil (tn (WP.block ?_)))))))
  refine WP.loop (fun m1 g' S' => ∃ (i1 : Int) (s2 : (List UInt8)), Sub [(0, (.int .i64 i1)), (3, (mkS s2)), (1000000007, (.bool false))] g' ∧ (∀ w', S' w' → St w H [] H w') ∧ ref12_Digits_loop1 k1 m1 i1 s2 = some r) ((p_n.toNat + 2)) ⟨(IntKind.wrap .i64 (Int.tdiv p_n 10)), s1, (Sub.all rfl), fun w' s => s, hm⟩ ?_ ?_
  ·
   rintro g' S' ⟨_, _, _, _, hm⟩
   exact none_some hm
  rintro m1 g' S' ⟨i1, s2, hsub1, hS1, hm⟩
  refine WP.sub hsub1 (WP.weaken hS1 ?_)
  rw [ref12_Digits_loop1] at hm
  refine WP.seq (WP.seq (WP.region (Vm rfl (V rfl (ov_gtr rfl rfl rfl) (WL.nil (tn ?_))))))
  refine WP.cond rfl (fun hc1 => ?_) (fun hc1 => ?_)
  ·
   replace hm := ite_t hc1 hm
   refine WP.skip (tn (WP.seq (WP.block (WP.region (Vm rfl (V rfl (ov_rem rfl rfl rfl (by decide)) (Vm rfl (V rfl (ov_rem rfl rfl rfl (by decide)) (V rfl (ov_add rfl rfl rfl) ?_)))))))))
   obtain ⟨s3, e2, hm⟩ := bind_some hm
   refine V rfl (ov_slice_string underlying9 rfl rfl rfl rfl e2) (Vm rfl ?_)
   obtain ⟨s4, e3, hm⟩ := bind_some hm
   refine V rfl (ov_sadd' e3 rfl rfl rfl) (Va rfl (WL.nil (bn (tn (WP.region (Vm rfl (V rfl (ov_quo rfl rfl rfl (by decide)) (Va rfl (WL.nil (tn ?_))))))))))
   exact ⟨(IntKind.wrap .i64 (Int.tdiv i1 10)), s4, (Sub.all rfl), fun w' s => s, hm⟩
  replace hm := ite_f hc1 hm
  refine WP.exit (then_exit (then_exit (block_here (tn ?_))))
  exact ⟨s2, (Sub.all rfl), fun w' s => s, hm⟩
 rintro g' S' ⟨s5, hsub2, hS2, hm⟩
 refine WP.sub hsub2 (WP.weaken hS2 ?_)
 replace hm := (congrFun hk1 s5).symm.trans hm
 refine WP.seq (WP.region (Vm rfl (Va rfl (WL.nil (tn (WP.ret ?_))))))
 obtain rfl := Option.some.inj hm
 refine retQ_ret results86 (Res.tmp rfl Res.nil) rfl (fun w' s => ⟨s.below, ?_⟩)
 exact rfl
theorem ref16_Lines_con (p_s : Sequence) (ao1 : Option Addr) (cap1 : Nat) (w : World) (H : Heap) (hH : Le H (hp w)) (h1 : SL H encStep ao1 p_s.steps) (hc1 : p_s.steps.length ≤ cap1) (hG : Glob H) (r : (List (List UInt8))) (hm : ref16_Lines p_s = some r) :
  Con prog 42 [(.agg #[(.int .i64 p_s.actuators), (.slice ao1 p_s.steps.length cap1)])] w H (fun v H' => ∃ (ao2 : Option Addr) (cap2 : Nat), v = (.slice ao2 r.length cap2) ∧ SL H' encStr ao2 r ∧ r.length ≤ cap2) := by
 unfold ref16_Lines at hm
 refine con_of hH func42 rfl 37 ntmps42 rfl ?_
 refine WP.seq (WP.region ?_)
 refine ws rfl (os_box (cs := [(.int .i64 p_s.actuators), (.slice ao1 p_s.steps.length cap1)]) rfl rfl rfl (fun b1 => ?_))
 refine Va rfl (WL.nil (tn (WP.seq ?_)))
 refine WP.region_any (S₀ := St w H [.blk b1 24 [(.int .i64 p_s.actuators), (.slice ao1 p_s.steps.length cap1)]] H) 7 rfl (by kernel_rfl) (fun w' s => s) (fun _ s => s.drew) ?_
 refine TQ 0 (by kernel_rfl) rfl (ov_load_whole (i := 0) isAgg24 sizeOf24 rfl rfl rfl rfl) (TQ 1 (by kernel_rfl) rfl (ov_fieldAddr underlying24 rfl rfl rfl sizeOf22 rfl rfl) (TQ 2 (by kernel_rfl) rfl (ov_load_box (i := 0) isAgg22 rfl rfl rfl rfl) (TQ 3 (by kernel_rfl) rfl (ov_len_slice underlying22 rfl rfl) ?_)))
 refine AL.any (rs := [4]) (by kernel_rfl) (by decide) ?_
 refine ALs.cons (i := 4) rfl (Runs.free rfl) rfl rfl ?_ ?_
 ·
  obtain ⟨r1, e1, hm⟩ := bind_some hm
  refine os_con call55 rfl rfl (fun w' s => (ref16_ones_con (p_s.steps.length : Int)  w' H s.hold hG r1 e1)) (fun rr1 H1 hle1 hR1 => ?_)
  replace h1 := h1.mono hle1
  replace hG := hG.mono hle1
  obtain ⟨ao3, cap3, rfl, h3, hc3⟩ := hR1
  refine ⟨fun w' s => (s.heap hle1), ?_⟩
  refine AL.any (rs := [5]) (by kernel_rfl) (by decide) ?_
  refine ALs.cons (i := 5) rfl (Runs.free rfl) rfl rfl ?_ ?_
  ·
   refine os_inline (cap := []) (vs := [(.agg #[(.int .i64 p_s.actuators), (.slice ao1 p_s.steps.length cap1)]), (.slice ao3 r1.length cap3), (.slice none 0 0)]) call54 rfl rfl rfl func54 rfl 65 ntmps54 rfl (fun w' s => ?_)
   refine WP.seq (WP.region ?_)
   refine ws rfl (os_box (cs := [(.int .i64 p_s.actuators), (.slice ao1 p_s.steps.length cap1)]) rfl rfl rfl (fun b2 => ?_))
   refine Va rfl (WL.nil (tn (WP.seq (WP.region (Va rfl (WL.nil (tn ?_)))))))
   obtain ⟨k1, hk1, hm⟩ := joinK_some hm
   refine WP.seq_join (fun g' S' => ∃ (H11 : Heap) (l4 : (List (List UInt8))) (ao9 : Option Addr) (cap9 : Nat) (xs3 : List Value), Le H1 H11 ∧ RL H11 encStr l4 xs3 ∧ Sub [(7, (.slice ao9 l4.length cap9)), (1000000007, (.bool false))] g' ∧ (∀ w', S' w' → St w H [.row 9 (encStr).size l4.length (.slice ao9 l4.length cap9) xs3, .blk b1 24 [(.int .i64 p_s.actuators), (.slice ao1 p_s.steps.length cap1)]] H11 w') ∧ k1 l4 = some r) ?_ ?_
   ·
    refine WP.seq (WP.region (Va rfl (WL.nil (tn (WP.block ?_)))))
    have rl1 := RL.nil (α := (List UInt8)) H1 encStr
    refine WP.weaken (fun _ s => s.nilrow 9 (encStr).size) ?_
    refine WP.loop (fun m1 g' S' => ∃ (H2 : Heap) (i1 : Int) (l1 : (List (List UInt8))) (ao4 : Option Addr) (cap4 : Nat) (xs1 : List Value), Le H1 H2 ∧ RL H2 encStr l1 xs1 ∧ Sub [(1, (.slice ao3 r1.length cap3)), (2, (.slice none 0 0)), (3, (pB b2 0)), (7, (.slice ao4 l1.length cap4)), (8, (.int .i64 i1)), (1000000007, (.bool false))] g' ∧ (∀ w', S' w' → St w H [.row 9 (encStr).size l1.length (.slice ao4 l1.length cap4) xs1, .blk b2 24 [(.int .i64 p_s.actuators), (.slice ao1 p_s.steps.length cap1)], .blk b1 24 [(.int .i64 p_s.actuators), (.slice ao1 p_s.steps.length cap1)]] H2 w') ∧ ref16_Lines_loop1 p_s k1 r1 m1 i1 l1 = some r) ((Int.toNat (p_s.actuators - 0) + 1)) ⟨H1, 0, ([] : List (List UInt8)), none, 0, [], (Le.refl _), rl1, (Sub.all rfl), fun w' s => s, hm⟩ ?_ ?_
    ·
     rintro g' S' ⟨_, _, _, _, _, _, _, _, _, _, hm⟩
     exact none_some hm
    rintro m1 g' S' ⟨H2, i1, l1, ao4, cap4, xs1, hle2, rl2, hsub1, hS1, hm⟩
    refine WP.sub hsub1 (WP.weaken hS1 ?_)
    rw [ref16_Lines_loop1] at hm
    replace h3 := h3.mono hle2
    replace h1 := h1.mono hle2
    replace hG := hG.mono hle2
    refine WP.seq (WP.seq (WP.region (Vm rfl (V rfl (ov_fieldAddr underlying24 rfl rfl rfl sizeOf3 rfl rfl) (Vl 1 isAgg3 rfl (V rfl (ov_lss rfl rfl rfl) (WL.nil (tn ?_))))))))
    refine WP.cond rfl (fun hc4 => ?_) (fun hc4 => ?_)
    ·
     replace hm := ite_t hc4 hm
     refine WP.skip (tn ?_)
     obtain ⟨k2, hk2, hm⟩ := joinK_some hm
     refine WP.seq_join (fun g' S' => ∃ (H10 : Heap) (l3 : (List (List UInt8))) (ao8 : Option Addr) (cap8 : Nat) (xs2 : List Value), Le H2 H10 ∧ RL H10 encStr l3 xs2 ∧ Sub [(1, (.slice ao3 r1.length cap3)), (2, (.slice none 0 0)), (3, (pB b2 0)), (7, (.slice ao8 l3.length cap8)), (8, (.int .i64 i1)), (1000000007, (.bool false))] g' ∧ (∀ w', S' w' → St w H [.row 9 (encStr).size l3.length (.slice ao8 l3.length cap8) xs2, .blk b2 24 [(.int .i64 p_s.actuators), (.slice ao1 p_s.steps.length cap1)], .blk b1 24 [(.int .i64 p_s.actuators), (.slice ao1 p_s.steps.length cap1)]] H10 w') ∧ k2 l3 = some r) ?_ ?_
     ·
      refine WP.block (WP.seq (WP.region (Vm rfl ?_)))
      obtain ⟨r2, e2, hm⟩ := bind_some hm
      refine wo rfl (oq_con (r := (mkS r2)) call47 rfl rfl (fun w' s => ⟨_, (ref16_Name_con i1  w' H2 s.hold hG r2 e2)⟩)) ?_
      obtain ⟨s1, e3, hm⟩ := bind_some hm
      refine V rfl (ov_sadd' e3 rfl rfl rfl) (Va rfl (WL.nil (tn ?_)))
      obtain ⟨k3, hk3, hm⟩ := joinK_some hm
      refine WP.seq_join (fun g' S' => ∃ (H9 : Heap) (s10 : (List UInt8)), Le H2 H9 ∧ Sub [(1, (.slice ao3 r1.length cap3)), (2, (.slice none 0 0)), (3, (pB b2 0)), (7, (.slice ao4 l1.length cap4)), (8, (.int .i64 i1)), (9, (mkS s10)), (1000000007, (.bool false))] g' ∧ (∀ w', S' w' → St w H [.row 9 (encStr).size l1.length (.slice ao4 l1.length cap4) xs1, .blk b2 24 [(.int .i64 p_s.actuators), (.slice ao1 p_s.steps.length cap1)], .blk b1 24 [(.int .i64 p_s.actuators), (.slice ao1 p_s.steps.length cap1)]] H9 w') ∧ k3 s10 = some r) ?_ ?_
      ·
       refine WP.seq (WP.region (Va rfl (WL.nil (tn (WP.block ?_)))))
       refine WP.loop (fun m2 g' S' => ∃ (H3 : Heap) (s2 : (List UInt8)) (i2 : Int), Le H2 H3 ∧ Sub [(1, (.slice ao3 r1.length cap3)), (2, (.slice none 0 0)), (3, (pB b2 0)), (7, (.slice ao4 l1.length cap4)), (8, (.int .i64 i1)), (9, (mkS s2)), (10, (.int .i64 i2)), (1000000007, (.bool false))] g' ∧ (∀ w', S' w' → St w H [.row 9 (encStr).size l1.length (.slice ao4 l1.length cap4) xs1, .blk b2 24 [(.int .i64 p_s.actuators), (.slice ao1 p_s.steps.length cap1)], .blk b1 24 [(.int .i64 p_s.actuators), (.slice ao1 p_s.steps.length cap1)]] H3 w') ∧ ref16_Lines_loop2 p_s i1 k3 r1 m2 s2 i2 = some r) ((Int.toNat ((p_s.steps.length : Int) - 0) + 1)) ⟨H2, s1, 0, (Le.refl _), (Sub.all rfl), fun w' s => s, hm⟩ ?_ ?_
       ·
        rintro g' S' ⟨_, _, _, _, _, _, hm⟩
        exact none_some hm
       rintro m2 g' S' ⟨H3, s2, i2, hle3, hsub2, hS2, hm⟩
       refine WP.sub hsub2 (WP.weaken hS2 ?_)
       rw [ref16_Lines_loop2] at hm
       replace h3 := h3.mono hle3
       replace h1 := h1.mono hle3
       replace rl2 := rl2.mono hle3
       replace hG := hG.mono hle3
       refine WP.seq (WP.seq (WP.region (Vm rfl (V rfl (ov_fieldAddr underlying24 rfl rfl rfl sizeOf22 rfl rfl) (Vl 1 isAgg22 rfl (V rfl (ov_len_slice underlying22 rfl rfl) (V rfl (ov_lss rfl rfl rfl) (WL.nil (tn ?_)))))))))
       refine WP.cond rfl (fun hc5 => ?_) (fun hc5 => ?_)
       ·
        replace hm := ite_t hc5 hm
        refine WP.skip (tn ?_)
        obtain ⟨k4, hk4, hm⟩ := joinK_some hm
        refine WP.seq_join (fun g' S' => ∃ (H8 : Heap) (s9 : (List UInt8)), Le H3 H8 ∧ Sub [(1, (.slice ao3 r1.length cap3)), (2, (.slice none 0 0)), (3, (pB b2 0)), (7, (.slice ao4 l1.length cap4)), (8, (.int .i64 i1)), (9, (mkS s9)), (10, (.int .i64 i2)), (1000000007, (.bool false))] g' ∧ (∀ w', S' w' → St w H [.row 9 (encStr).size l1.length (.slice ao4 l1.length cap4) xs1, .blk b2 24 [(.int .i64 p_s.actuators), (.slice ao1 p_s.steps.length cap1)], .blk b1 24 [(.int .i64 p_s.actuators), (.slice ao1 p_s.steps.length cap1)]] H8 w') ∧ k4 s9 = some r) ?_ ?_
        ·
         refine WP.block ?_
         obtain ⟨k5, hk5, hm⟩ := joinK_some hm
         refine WP.seq_join (fun g' S' => ∃ (H6 : Heap) (s4 : (List UInt8)), Le H3 H6 ∧ Sub [(1, (.slice ao3 r1.length cap3)), (2, (.slice none 0 0)), (3, (pB b2 0)), (7, (.slice ao4 l1.length cap4)), (8, (.int .i64 i1)), (9, (mkS s4)), (10, (.int .i64 i2)), (1000000007, (.bool false))] g' ∧ (∀ w', S' w' → St w H [.row 9 (encStr).size l1.length (.slice ao4 l1.length cap4) xs1, .blk b2 24 [(.int .i64 p_s.actuators), (.slice ao1 p_s.steps.length cap1)], .blk b1 24 [(.int .i64 p_s.actuators), (.slice ao1 p_s.steps.length cap1)]] H6 w') ∧ k5 s4 = some r) ?_ ?_
         ·
          refine WP.seq (WP.region (Vm rfl ?_))
          have rl3 : RL H3 (encInt .i64) ([i2] : List Int) [(.int .i64 i2)] := RL.cons (cs := [(.int .i64 i2)]) (xs := []) rfl (RL.nil _ _)
          refine ws rfl (os_buildSlice (cs := [(.int .i64 i2)]) (E := 3) (sz := 1) rfl rfl (fun _ => by kernel_rfl) rfl (by decide) (fun b3 => ?_))
          refine WL.held rl3 (fun H4 hc6 hle4 h4 => ?_)
          replace h3 := h3.mono hle4
          replace h1 := h1.mono hle4
          replace rl2 := rl2.mono hle4
          replace hG := hG.mono hle4
          refine Vm rfl (Vm rfl ?_)
          obtain ⟨r3, e4, hm⟩ := bind_some hm
          refine ws rfl (os_con call94 rfl rfl (fun w' s => (ref16_common_con [] i2 none 0  w' H4 s.hold (SL.nil _ _ _) (Nat.le_refl _) hG r3 e4)) (fun rr2 H5 hle5 hR2 => ?_))
          replace h3 := h3.mono hle5
          replace h1 := h1.mono hle5
          replace h4 := h4.mono hle5
          replace rl2 := rl2.mono hle5
          replace hG := hG.mono hle5
          obtain ⟨ao5, cap5, rfl, h5, hc7⟩ := hR2
          obtain ⟨r4, e5, hm⟩ := bind_some hm
          refine wo rfl (oq_con (r := (.bool r4)) call93 rfl rfl (fun w' s => ⟨_, (ref14_SameInts_con ([i2] : List Int) r3 (some ⟨b3, 0, none⟩) 1 ao5 cap5  w' H5 s.hold h4 hc6 h5 hc7 hG r4 e5)⟩)) ?_
          refine WL.nil (tn ?_)
          refine WP.cond rfl (fun hc8 => ?_) (fun hc8 => ?_)
          ·
           replace hm := ite_t hc8 hm
           refine WP.region (Vm rfl ?_)
           obtain ⟨s3, e6, hm⟩ := bind_some hm
           refine V rfl (ov_sadd' e6 rfl rfl rfl) (Va rfl (WL.nil (tn ?_)))
           exact ⟨H5, s3, (hle4.trans hle5), (Sub.all rfl), fun w' s => s, hm⟩
          replace hm := ite_f hc8 hm
          refine WP.skip (tn ?_)
          exact ⟨H5, s2, (hle4.trans hle5), (Sub.all rfl), fun w' s => s, hm⟩
         rintro g' S' ⟨H6, s4, hle6, hsub3, hS3, hm⟩
         refine WP.sub hsub3 (WP.weaken hS3 ?_)
         replace hm := (congrFun hk5 s4).symm.trans hm
         replace h3 := h3.mono hle6
         replace h1 := h1.mono hle6
         replace rl2 := rl2.mono hle6
         replace hG := hG.mono hle6
         obtain ⟨k6, hk6, hm⟩ := joinK_some hm
         refine WP.seq_join (fun g' S' => ∃ (s7 : (List UInt8)), Sub [(1, (.slice ao3 r1.length cap3)), (2, (.slice none 0 0)), (3, (pB b2 0)), (7, (.slice ao4 l1.length cap4)), (8, (.int .i64 i1)), (9, (mkS s7)), (10, (.int .i64 i2)), (1000000007, (.bool false))] g' ∧ (∀ w', S' w' → St w H [.row 9 (encStr).size l1.length (.slice ao4 l1.length cap4) xs1, .blk b2 24 [(.int .i64 p_s.actuators), (.slice ao1 p_s.steps.length cap1)], .blk b1 24 [(.int .i64 p_s.actuators), (.slice ao1 p_s.steps.length cap1)]] H6 w') ∧ k6 s7 = some r) ?_ ?_
         ·
          refine WP.seq (WP.region (Va rfl (WL.nil (tn (WP.block ?_)))))
          refine WP.loop (fun m3 g' S' => ∃ (s5 : (List UInt8)) (i3 : Int), Sub [(1, (.slice ao3 r1.length cap3)), (2, (.slice none 0 0)), (3, (pB b2 0)), (7, (.slice ao4 l1.length cap4)), (8, (.int .i64 i1)), (9, (mkS s5)), (10, (.int .i64 i2)), (11, (.int .i64 i3)), (1000000007, (.bool false))] g' ∧ (∀ w', S' w' → St w H [.row 9 (encStr).size l1.length (.slice ao4 l1.length cap4) xs1, .blk b2 24 [(.int .i64 p_s.actuators), (.slice ao1 p_s.steps.length cap1)], .blk b1 24 [(.int .i64 p_s.actuators), (.slice ao1 p_s.steps.length cap1)]] H6 w') ∧ ref16_Lines_loop3 p_s r1 i1 i2 k6 m3 s5 i3 = some r) (3) ⟨s4, 0, (Sub.all rfl), fun w' s => s, hm⟩ ?_ ?_
          ·
           rintro g' S' ⟨_, _, _, _, hm⟩
           exact none_some hm
          rintro m3 g' S' ⟨s5, i3, hsub4, hS4, hm⟩
          refine WP.sub hsub4 (WP.weaken hS4 ?_)
          rw [ref16_Lines_loop3] at hm
          refine WP.seq (WP.seq (WP.region (Vm rfl (Vm rfl (Vm rfl ?_)))))
          obtain ⟨x1, e7, hm⟩ := bind_some hm
          obtain ⟨h6, h7, h8, cs1, h9, h10⟩ := h3.get e7 (by decide)
          obtain rfl : cs1 = [(.int .i64 x1)] := h9
          refine V rfl (ov_indexAddr underlying39 sizeOf3 rfl rfl rfl h6 h7 h8) (V rfl (ov_load_elem (v := (.int .i64 x1)) isAgg3 rfl rfl h10) (V rfl (ov_lss rfl rfl rfl) (WL.nil (tn ?_))))
          refine WP.cond rfl (fun hc9 => ?_) (fun hc9 => ?_)
          ·
           replace hm := ite_t hc9 hm
           refine WP.skip (tn (WP.seq (WP.block (WP.region (Vm rfl (V rfl (ov_load_whole (i := 1) isAgg24 sizeOf24 rfl rfl rfl rfl) (Vm rfl (Vm rfl ?_))))))))
           obtain ⟨r5, e8, hm⟩ := bind_some hm
           refine wo rfl (oq_con (r := (mkS r5)) call44 rfl rfl (fun w' s => ⟨_, (ref16_First_con p_s i1 i2 ao1 cap1  w' H6 s.hold h1 hc1 hG r5 e8)⟩)) ?_
           obtain ⟨s6, e9, hm⟩ := bind_some hm
           refine V rfl (ov_sadd' e9 rfl rfl rfl) (Va rfl (WL.nil (bn (tn (WP.region (Vm rfl (V rfl (ov_add rfl rfl rfl) (Va rfl (WL.nil (tn ?_))))))))))
           exact ⟨s6, (IntKind.wrap .i64 (i3 + 1)), (Sub.all rfl), fun w' s => s, hm⟩
          replace hm := ite_f hc9 hm
          refine WP.exit (then_exit (then_exit (block_here (tn ?_))))
          exact ⟨s5, (Sub.all rfl), fun w' s => s, hm⟩
         rintro g' S' ⟨s7, hsub5, hS5, hm⟩
         refine WP.sub hsub5 (WP.weaken hS5 ?_)
         replace hm := (congrFun hk6 s7).symm.trans hm
         refine WP.region (Vm rfl (V rfl (ov_load_whole (i := 1) isAgg24 sizeOf24 rfl rfl rfl rfl) (Vm rfl (V rfl (ov_add rfl rfl rfl) ?_))))
         obtain ⟨r6, e10, hm⟩ := bind_some hm
         refine ws rfl (os_con call48 rfl rfl (fun w' s => (ref14_Behind_con p_s (IntKind.wrap .i64 (i2 + 1)) ao1 cap1  w' H6 s.hold h1 hc1 hG r6 e10)) (fun rr3 H7 hle7 hR3 => ?_))
         replace h3 := h3.mono hle7
         replace h1 := h1.mono hle7
         replace rl2 := rl2.mono hle7
         replace hG := hG.mono hle7
         obtain ⟨ao6, cap6, rfl, h11, hc10⟩ := hR3
         refine Vm rfl ?_
         obtain ⟨x2, e11, hm⟩ := bind_some hm
         obtain ⟨h12, h13, h14, cs2, h15, h16⟩ := h11.get e11 (by decide)
         obtain rfl : cs2 = [(.bool x2)] := h15
         refine V rfl (ov_indexAddr underlying49 sizeOf4 rfl rfl rfl h12 h13 h14) (V rfl (ov_load_elem (v := (.bool x2)) isAgg4 rfl rfl h16) ?_)
         obtain ⟨r7, e12, hm⟩ := bind_some hm
         refine wo rfl (oq_con (r := (mkS r7)) call89 rfl rfl (fun w' s => ⟨_, (ref16_rest_con x2  w' H7 s.hold hG r7 e12)⟩)) ?_
         obtain ⟨s8, e13, hm⟩ := bind_some hm
         refine V rfl (ov_sadd' e13 rfl rfl rfl) (Va rfl (WL.nil (bn (tn ?_))))
         exact ⟨H7, s8, (hle6.trans hle7), (Sub.all rfl), fun w' s => s, hm⟩
        rintro g' S' ⟨H8, s9, hle8, hsub6, hS6, hm⟩
        refine WP.sub hsub6 (WP.weaken hS6 ?_)
        replace hm := (congrFun hk4 s9).symm.trans hm
        replace h3 := h3.mono hle8
        replace h1 := h1.mono hle8
        replace rl2 := rl2.mono hle8
        replace hG := hG.mono hle8
        refine WP.region (Vm rfl (V rfl (ov_add rfl rfl rfl) (Va rfl (WL.nil (tn ?_)))))
        exact ⟨H8, s9, (IntKind.wrap .i64 (i2 + 1)), (hle3.trans hle8), (Sub.all rfl), fun w' s => s, hm⟩
       replace hm := ite_f hc5 hm
       refine WP.exit (then_exit (then_exit (block_here (tn ?_))))
       exact ⟨H3, s2, hle3, (Sub.all rfl), fun w' s => s, hm⟩
      rintro g' S' ⟨H9, s10, hle9, hsub7, hS7, hm⟩
      refine WP.sub hsub7 (WP.weaken hS7 ?_)
      replace hm := (congrFun hk3 s10).symm.trans hm
      replace h3 := h3.mono hle9
      replace h1 := h1.mono hle9
      replace rl2 := rl2.mono hle9
      replace hG := hG.mono hle9
      refine WP.region (Vm rfl (Vm rfl ?_))
      have rl4 : RL H9 encStr ([s10] : List (List UInt8)) [(mkS s10)] := RL.cons (cs := [(mkS s10)]) (xs := []) rfl (RL.nil _ _)
      refine ws rfl (os_buildSlice (cs := [(mkS s10)]) (E := 9) (sz := 1) rfl rfl (fun _ => by kernel_rfl) rfl (by decide) (fun b4 => ?_))
      obtain ⟨l2, e14, hm⟩ := bind_some hm
      refine ws rfl (os_app (i := 1) (j := 0) (En := encStr) (xs := xs1) (ys := [(mkS s10)]) underlying27 (by kernel_rfl : (prog.info? 9).map (fun i => (i.zero, i.size, i.bytes)) = some (some (mkS []), (encStr).size, 16)) rfl (by decide) rfl rfl rfl rfl rfl rfl rl2 rl4 e14 (fun ao7 cap7 rl5 => ?_))
      refine Va rfl (WL.nil (bn (tn ?_)))
      exact ⟨H9, (l1 ++ ([s10] : List (List UInt8))), ao7, cap7, (xs1 ++ [(mkS s10)]), hle9, rl5, (Sub.all rfl), fun w' s => (s.select [1, 2, 3] (by decide) rfl), hm⟩
     rintro g' S' ⟨H10, l3, ao8, cap8, xs2, hle10, rl6, hsub8, hS8, hm⟩
     refine WP.sub hsub8 (WP.weaken hS8 ?_)
     replace hm := (congrFun hk2 l3).symm.trans hm
     replace h3 := h3.mono hle10
     replace h1 := h1.mono hle10
     replace hG := hG.mono hle10
     refine WP.region (Vm rfl (V rfl (ov_add rfl rfl rfl) (Va rfl (WL.nil (tn ?_)))))
     exact ⟨H10, (IntKind.wrap .i64 (i1 + 1)), l3, ao8, cap8, xs2, (hle2.trans hle10), rl6, (Sub.all rfl), fun w' s => s, hm⟩
    replace hm := ite_f hc4 hm
    refine WP.exit (then_exit (then_exit (block_here (tn ?_))))
    exact ⟨H2, l1, ao4, cap4, xs1, hle2, rl2, (Sub.all rfl), fun w' s => (s.select [0, 2] (by decide) rfl), hm⟩
   rintro g' S' ⟨H11, l4, ao9, cap9, xs3, hle11, rl7, hsub9, hS9, hm⟩
   refine WP.sub hsub9 (WP.weaken hS9 ?_)
   replace hm := (congrFun hk1 l4).symm.trans hm
   replace h1 := h1.mono hle11
   replace h3 := h3.mono hle11
   replace hG := hG.mono hle11
   refine WP.seq (WP.region (Vm rfl (Va rfl (WL.nil (tn (WP.ret ?_))))))
   refine retQ_ret (v := (.slice ao9 l4.length cap9)) results54 (Res.tmp rfl Res.nil) rfl (fun w' s => ⟨_, ?_, s⟩)
   refine ⟨fun w' s => ((s.select [1] (by decide) rfl).heap (hle1.trans hle11)), ?_⟩
   refine TQ 6 (by kernel_rfl) rfl (ov_assign rfl rfl) ?_
   refine AL.done (by kernel_rfl) ?_
   refine tn (WP.seq (WP.seq (WP.region (V rfl (ov_load_whole (i := 1) isAgg24 sizeOf24 rfl rfl rfl rfl) ?_))))
   obtain ⟨r8, e15, hm⟩ := bind_some hm
   refine wo rfl (oq_con (r := (.bool r8)) call85 rfl rfl (fun w' s => ⟨_, (ref16_Waits_con p_s ao1 cap1  w' H11 s.hold h1 hc1 hG r8 e15)⟩)) ?_
   refine V rfl (ov_not rfl rfl) (WL.nil (tn ?_))
   refine WP.cond rfl (fun hc11 => ?_) (fun hc11 => ?_)
   ·
    replace hm := ite_t hc11 hm
    refine WP.seq (WP.region (Vm rfl (Va rfl (WL.nil (tn (WP.ret (then_ret ?_)))))))
    obtain rfl := Option.some.inj hm
    refine retQ_ret results42 (Res.tmp rfl Res.nil) rfl (fun w' s => ⟨s.below, ?_⟩)
    obtain ⟨h17, hc12⟩ := s.ret_row (i := 0) rfl rl7
    exact ⟨ao9, cap9, rfl, h17, hc12⟩
   replace hm := ite_f hc11 hm
   refine WP.skip (tn (WP.seq (WP.region (Va rfl (WL.nil (tn ?_))))))
   obtain ⟨k7, hk7, hm⟩ := joinK_some hm
   refine WP.seq_join (fun g' S' => ∃ (s14 : (List UInt8)), Sub [(3, (.slice ao9 l4.length cap9)), (4, (mkS s14)), (1000000007, (.bool false))] g' ∧ (∀ w', S' w' → St w H [.row 9 (encStr).size l4.length (.slice ao9 l4.length cap9) xs3] H11 w') ∧ k7 s14 = some r) ?_ ?_
   ·
    refine WP.seq (WP.region (Va rfl (WL.nil (tn (WP.block ?_)))))
    refine WP.loop (fun m4 g' S' => ∃ (s11 : (List UInt8)) (i4 : Int), Sub [(1, (pB b1 0)), (3, (.slice ao9 l4.length cap9)), (4, (mkS s11)), (5, (.int .i64 i4)), (1000000007, (.bool false))] g' ∧ (∀ w', S' w' → St w H [.row 9 (encStr).size l4.length (.slice ao9 l4.length cap9) xs3, .blk b1 24 [(.int .i64 p_s.actuators), (.slice ao1 p_s.steps.length cap1)]] H11 w') ∧ ref16_Lines_loop4 p_s k7 m4 s11 i4 = some r) ((Int.toNat ((p_s.steps.length : Int) - 0) + 1)) ⟨[84], 0, (Sub.all rfl), fun w' s => s, hm⟩ ?_ ?_
    ·
     rintro g' S' ⟨_, _, _, _, hm⟩
     exact none_some hm
    rintro m4 g' S' ⟨s11, i4, hsub10, hS10, hm⟩
    refine WP.sub hsub10 (WP.weaken hS10 ?_)
    rw [ref16_Lines_loop4] at hm
    refine WP.seq (WP.seq (WP.region (Vm rfl (V rfl (ov_fieldAddr underlying24 rfl rfl rfl sizeOf22 rfl rfl) (Vl 1 isAgg22 rfl (V rfl (ov_len_slice underlying22 rfl rfl) (V rfl (ov_lss rfl rfl rfl) (WL.nil (tn ?_)))))))))
    refine WP.cond rfl (fun hc13 => ?_) (fun hc13 => ?_)
    ·
     replace hm := ite_t hc13 hm
     refine WP.skip (tn (WP.seq (WP.block (WP.region (Vm rfl (V rfl (ov_fieldAddr underlying24 rfl rfl rfl sizeOf22 rfl rfl) (Vl 1 isAgg22 rfl (Vm rfl ?_))))))))
     obtain ⟨x3, e16, hm⟩ := bind_some hm
     obtain ⟨h19, h20, h21, cs3, h22, h23⟩ := h1.get e16 (by decide)
     obtain ⟨ao10, cap10, rfl, h18, hc14⟩ := h22
     refine V rfl (ov_indexAddr underlying22 sizeOf45 rfl rfl rfl h19 h20 h21) (V rfl (ov_fieldAddrE underlying45 rfl rfl rfl sizeOf3 rfl rfl) ?_)
     refine V rfl (ov_load_elem (v := (.int .i64 x3.wait)) isAgg3 rfl rfl (h23.one (off := 1) rfl)) ?_
     obtain ⟨r9, e17, hm⟩ := bind_some hm
     refine wo rfl (oq_con (r := (mkS r9)) call86 rfl rfl (fun w' s => ⟨_, (ref12_Digits_con x3.wait  w' H11 s.hold hG r9 e17)⟩)) ?_
     obtain ⟨s12, e18, hm⟩ := bind_some hm
     refine V rfl (ov_sadd' e18 rfl rfl rfl) ?_
     obtain ⟨s13, e19, hm⟩ := bind_some hm
     refine V rfl (ov_sadd' e19 rfl rfl rfl) (Va rfl (WL.nil (bn (tn (WP.region (Vm rfl (V rfl (ov_add rfl rfl rfl) (Va rfl (WL.nil (tn ?_))))))))))
     exact ⟨s13, (IntKind.wrap .i64 (i4 + 1)), (Sub.all rfl), fun w' s => s, hm⟩
    replace hm := ite_f hc13 hm
    refine WP.exit (then_exit (then_exit (block_here (tn ?_))))
    exact ⟨s11, (Sub.all rfl), fun w' s => (s.select [0] (by decide) rfl), hm⟩
   rintro g' S' ⟨s14, hsub11, hS11, hm⟩
   refine WP.sub hsub11 (WP.weaken hS11 ?_)
   replace hm := (congrFun hk7 s14).symm.trans hm
   refine WP.seq (WP.region (Vm rfl (Vm rfl ?_)))
   have rl8 : RL H11 encStr ([s14] : List (List UInt8)) [(mkS s14)] := RL.cons (cs := [(mkS s14)]) (xs := []) rfl (RL.nil _ _)
   refine ws rfl (os_buildSlice (cs := [(mkS s14)]) (E := 9) (sz := 1) rfl rfl (fun _ => by kernel_rfl) rfl (by decide) (fun b5 => ?_))
   obtain ⟨l5, e20, hm⟩ := bind_some hm
   refine ws rfl (os_app (i := 1) (j := 0) (En := encStr) (xs := xs3) (ys := [(mkS s14)]) underlying27 (by kernel_rfl : (prog.info? 9).map (fun i => (i.zero, i.size, i.bytes)) = some (some (mkS []), (encStr).size, 16)) rfl (by decide) rfl rfl rfl rfl rfl rfl rl7 rl8 e20 (fun ao11 cap11 rl9 => ?_))
   refine Va rfl (WL.nil (tn (WP.ret ?_)))
   obtain rfl := Option.some.inj hm
   refine retQ_ret results42 (Res.tmp rfl Res.nil) rfl (fun w' s => ⟨s.below, ?_⟩)
   obtain ⟨h24, hc15⟩ := s.ret_row (i := 1) rfl rl9
   exact ⟨ao11, cap11, rfl, h24, hc15⟩
  exact ALs.nil
 exact ALs.nil
theorem ref16_Draw_con (p_s : Sequence) (ao1 : Option Addr) (cap1 : Nat) (w : World) (H : Heap) (hH : Le H (hp w)) (h1 : SL H encStep ao1 p_s.steps) (hc1 : p_s.steps.length ≤ cap1) (hG : Glob H) (r : ((List (List UInt8)) × Int)) (hm : ref16_Draw p_s = some r) :
  Con prog 14 [(.agg #[(.int .i64 p_s.actuators), (.slice ao1 p_s.steps.length cap1)])] w H (fun v H' => ∃ (ao2 : Option Addr) (cap2 : Nat), v = (.tuple #[(.slice ao2 r.1.length cap2), (.int .i64 r.2)]) ∧ SL H' encStr ao2 r.1 ∧ r.1.length ≤ cap2) := by
 unfold ref16_Draw at hm
 refine con_of hH func14 rfl 12 ntmps14 rfl ?_
 refine WP.seq (WP.region ?_)
 refine ws rfl (os_box (cs := [(.int .i64 p_s.actuators), (.slice ao1 p_s.steps.length cap1)]) rfl rfl rfl (fun b1 => ?_))
 refine Va rfl (Va rfl (WL.nil (tn (WP.seq (WP.seq (WP.region (V rfl (ov_load_whole (i := 0) isAgg24 sizeOf24 rfl rfl rfl rfl) ?_)))))))
 obtain ⟨r1, e1, hm⟩ := bind_some hm
 refine wo rfl (oq_con (r := (.int .i64 r1)) call38 rfl rfl (fun w' s => ⟨_, (ref14_Check_con p_s ao1 cap1  w' H s.hold h1 hc1 hG r1 e1)⟩)) ?_
 refine Va rfl (WL.nil (tn (WP.seq (WP.region (Vm rfl (V rfl (ov_neq rfl rfl rfl) (WL.nil (tn ?_))))))))
 refine WP.cond rfl (fun hc3 => ?_) (fun hc3 => ?_)
 ·
  replace hm := ite_t hc3 hm
  refine WP.seq (WP.region (Vm rfl (Va rfl (Va rfl (WL.nil (tn (WP.ret (then_ret ?_))))))))
  obtain rfl := Option.some.inj hm
  refine retQ_ret results14 (Res.tmp rfl (Res.tmp rfl Res.nil)) rfl (fun w' s => ⟨s.below, ?_⟩)
  exact ⟨none, 0, rfl, SL.nil _ _ _, Nat.le_refl _⟩
 replace hm := ite_f hc3 hm
 refine WP.skip (tn (WP.seq (WP.region (V rfl (ov_load_whole (i := 0) isAgg24 sizeOf24 rfl rfl rfl rfl) ?_))))
 obtain ⟨r2, e2, hm⟩ := bind_some hm
 refine ws rfl (os_con call42 rfl rfl (fun w' s => (ref16_Lines_con p_s ao1 cap1  w' H s.hold h1 hc1 hG r2 e2)) (fun rr1 H1 hle1 hR1 => ?_))
 replace h1 := h1.mono hle1
 replace hG := hG.mono hle1
 obtain ⟨ao3, cap3, rfl, h3, hc4⟩ := hR1
 refine Va rfl (Va rfl (WL.nil (tn (WP.ret ?_))))
 obtain rfl := Option.some.inj hm
 refine retQ_ret results14 (Res.tmp rfl (Res.tmp rfl Res.nil)) rfl (fun w' s => ⟨s.below, ?_⟩)
 exact ⟨ao3, cap3, rfl, h3.mono s.le_newer, hc4⟩
end Go.Proofs.YtbckcjjffbgidaaGreatDoor.W
