/- The walks. Written by our own program gen.py; Lean checks it. -/
import Derived.Test.YtbckcjjffbgidaaGreatDoorPlain
import Derived.Test.YtbckcjjffbgidaaGreatDoorEqs
import Derived.Test.YtbckcjjffbgidaaGreatDoorProg
import Derived.Test.YtbckcjjffbgidaaGreatDoorExt
import Derived.Test.YtbckcjjffbgidaaGreatDoorBuild
import Derived.Test.YtbckcjjffbgidaaGreatDoorClone
import Derived.Test.YtbckcjjffbgidaaGreatDoorWalk2
import Derived.Test.YtbckcjjffbgidaaGreatDoorWalk12
set_option linter.unusedVariables false
set_option maxRecDepth 100000
set_option maxHeartbeats 4000000
namespace Go.Proofs.YtbckcjjffbgidaaGreatDoor.W
open Go Go.RowKit Go.Proofs.Tryz
theorem ref16_Column_con (p_s : Sequence) (p_k : Int) (ao1 : Option Addr) (cap1 : Nat) (w : World) (H : Heap) (hH : Le H (hp w)) (h1 : SL H encStep ao1 p_s.steps) (hc1 : p_s.steps.length ≤ cap1) (hG : Glob H) (r : ((List UInt8) × Int)) (hm : ref16_Column p_s p_k = some r) :
  Con prog 16 [(.agg #[(.int .i64 p_s.actuators), (.slice ao1 p_s.steps.length cap1)]), (.int .i64 p_k)] w H (fun v _ => v = (.tuple #[(mkS r.1), (.int .i64 r.2)])) := by
 unfold ref16_Column at hm
 refine con_of hH func16 rfl 36 ntmps16 rfl ?_
 refine WP.seq (WP.region ?_)
 refine ws rfl (os_box (cs := [(.int .i64 p_s.actuators), (.slice ao1 p_s.steps.length cap1)]) rfl rfl rfl (fun b1 => ?_))
 refine Va rfl (Va rfl (WL.nil (tn (WP.seq (WP.seq (WP.region (V rfl (ov_load_whole (i := 0) isAgg24 sizeOf24 rfl rfl rfl rfl) ?_)))))))
 obtain ⟨r1, e1, hm⟩ := bind_some hm
 refine wo rfl (oq_con (r := (.int .i64 r1)) call38 rfl rfl (fun w' s => ⟨_, (ref14_Check_con p_s ao1 cap1  w' H s.hold h1 hc1 hG r1 e1)⟩)) ?_
 refine Va rfl (WL.nil (tn (WP.seq (WP.region (Vm rfl (V rfl (ov_neq rfl rfl rfl) (WL.nil (tn ?_))))))))
 refine WP.cond rfl (fun hc2 => ?_) (fun hc2 => ?_)
 ·
  replace hm := ite_t hc2 hm
  refine WP.seq (WP.region (Vm rfl (Va rfl (Va rfl (WL.nil (tn (WP.ret (then_ret ?_))))))))
  obtain rfl := Option.some.inj hm
  refine retQ_ret results16 (Res.tmp rfl (Res.tmp rfl Res.nil)) rfl (fun w' s => ⟨s.below, ?_⟩)
  exact rfl
 replace hm := ite_f hc2 hm
 refine WP.skip (tn (WP.seq (WP.seq (WP.region (Vm rfl (V rfl (ov_lss rfl rfl rfl) (Vm rfl ?_)))))))
 refine WL.cut_bool 6 22 (x := ((decide (p_k < 0)) || (decide (p_k ≥ (p_s.steps.length : Int))))) ?_ ?_
 ·
  rcases Bool.eq_false_or_eq_true (decide (p_k < 0)) with hc3 | hc3
  ·
   refine Vi rfl (Idle.no rfl rfl rfl hc3) (Vi rfl (Idle.no rfl rfl rfl hc3) (Vi rfl (Idle.no rfl rfl rfl hc3) (Vi rfl (Idle.no rfl rfl rfl hc3) (Vi rfl (Idle.no rfl rfl rfl hc3) (V rfl (ov_pick_true rfl (guard_eq rfl hc3) rfl) ?_)))))
   exact WL.nil ⟨Sub.cons' rfl (congrArg Value.bool (orT hc3)) (Sub.dropn 6 rfl), fun _ s => s⟩
  refine wy hc3 rfl (ov_move rfl rfl) ?_
  refine wy hc3 rfl (ov_fieldAddr underlying24 rfl rfl rfl sizeOf22 rfl rfl) ?_
  refine wy hc3 rfl (ov_load_box (i := 0) isAgg22 rfl rfl rfl rfl) ?_
  refine wy hc3 rfl (ov_len_slice underlying22 rfl rfl) ?_
  refine wy hc3 rfl (ov_geq rfl rfl rfl) ?_
  refine V rfl (ov_pick_false rfl (guard_eq rfl hc3) rfl) ?_
  exact WL.nil ⟨Sub.cons' rfl (congrArg Value.bool (orF hc3)) (Sub.dropn 6 rfl), fun _ s => s⟩
 refine WL.nil (tn ?_)
 refine WP.cond rfl (fun hc4 => ?_) (fun hc4 => ?_)
 ·
  replace hm := ite_t hc4 hm
  refine WP.seq (WP.region (Va rfl (Va rfl (WL.nil (tn (WP.ret (then_ret ?_)))))))
  obtain rfl := Option.some.inj hm
  refine retQ_ret results16 (Res.tmp rfl (Res.tmp rfl Res.nil)) rfl (fun w' s => ⟨s.below, ?_⟩)
  exact rfl
 replace hm := ite_f hc4 hm
 refine WP.skip (tn (WP.seq (WP.region (Va rfl (WL.nil (tn ?_))))))
 obtain ⟨k1, hk1, hm⟩ := joinK_some hm
 refine WP.seq_join (fun g' S' => ∃ (s3 : (List UInt8)), Sub [(7, (mkS s3)), (1000000007, (.bool false))] g' ∧ (∀ w', S' w' → St w H [] H w') ∧ k1 s3 = some r) ?_ ?_
 ·
  refine WP.seq (WP.region (Va rfl (WL.nil (tn (WP.block ?_)))))
  refine WP.loop (fun m1 g' S' => ∃ (s1 : (List UInt8)) (i1 : Int), Sub [(1, (.int .i64 p_k)), (2, (pB b1 0)), (7, (mkS s1)), (8, (.int .i64 i1)), (1000000007, (.bool false))] g' ∧ (∀ w', S' w' → St w H [.blk b1 24 [(.int .i64 p_s.actuators), (.slice ao1 p_s.steps.length cap1)]] H w') ∧ ref16_Column_loop1 p_s p_k k1 m1 s1 i1 = some r) ((Int.toNat (p_s.actuators - 0) + 1)) ⟨[], 0, (Sub.all rfl), fun w' s => s, hm⟩ ?_ ?_
  ·
   rintro g' S' ⟨_, _, _, _, hm⟩
   exact none_some hm
  rintro m1 g' S' ⟨s1, i1, hsub1, hS1, hm⟩
  refine WP.sub hsub1 (WP.weaken hS1 ?_)
  rw [ref16_Column_loop1] at hm
  refine WP.seq (WP.seq (WP.region (Vm rfl (V rfl (ov_fieldAddr underlying24 rfl rfl rfl sizeOf3 rfl rfl) (Vl 0 isAgg3 rfl (V rfl (ov_lss rfl rfl rfl) (WL.nil (tn ?_))))))))
  refine WP.cond rfl (fun hc5 => ?_) (fun hc5 => ?_)
  ·
   replace hm := ite_t hc5 hm
   refine WP.skip (tn (WP.seq (WP.block (WP.region (Vm rfl (V rfl (ov_load_whole (i := 0) isAgg24 sizeOf24 rfl rfl rfl rfl) (Vm rfl (Vm rfl ?_))))))))
   obtain ⟨r2, e2, hm⟩ := bind_some hm
   refine wo rfl (oq_con (r := (mkS r2)) call44 rfl rfl (fun w' s => ⟨_, (ref16_First_con p_s i1 p_k ao1 cap1  w' H s.hold h1 hc1 hG r2 e2)⟩)) ?_
   obtain ⟨s2, e3, hm⟩ := bind_some hm
   refine V rfl (ov_sadd' e3 rfl rfl rfl) (Va rfl (WL.nil (bn (tn (WP.region (Vm rfl (V rfl (ov_add rfl rfl rfl) (Va rfl (WL.nil (tn ?_))))))))))
   exact ⟨s2, (IntKind.wrap .i64 (i1 + 1)), (Sub.all rfl), fun w' s => s, hm⟩
  replace hm := ite_f hc5 hm
  refine WP.exit (then_exit (then_exit (block_here (tn ?_))))
  exact ⟨s1, (Sub.all rfl), fun w' s => (s.select [] (by decide) rfl), hm⟩
 rintro g' S' ⟨s3, hsub2, hS2, hm⟩
 refine WP.sub hsub2 (WP.weaken hS2 ?_)
 replace hm := (congrFun hk1 s3).symm.trans hm
 refine WP.seq (WP.region (Vm rfl (Va rfl (Va rfl (WL.nil (tn (WP.ret ?_)))))))
 obtain rfl := Option.some.inj hm
 refine retQ_ret results16 (Res.tmp rfl (Res.tmp rfl Res.nil)) rfl (fun w' s => ⟨s.below, ?_⟩)
 exact rfl
theorem ref16_Switches_con (p_s : Sequence) (ao1 : Option Addr) (cap1 : Nat) (w : World) (H : Heap) (hH : Le H (hp w)) (h1 : SL H encStep ao1 p_s.steps) (hc1 : p_s.steps.length ≤ cap1) (hG : Glob H) (r : ((List (List UInt8)) × Int)) (hm : ref16_Switches p_s = some r) :
  Con prog 18 [(.agg #[(.int .i64 p_s.actuators), (.slice ao1 p_s.steps.length cap1)])] w H (fun v H' => ∃ (ao2 : Option Addr) (cap2 : Nat), v = (.tuple #[(.slice ao2 r.1.length cap2), (.int .i64 r.2)]) ∧ SL H' encStr ao2 r.1 ∧ r.1.length ≤ cap2) := by
 unfold ref16_Switches at hm
 refine con_of hH func18 rfl 54 ntmps18 rfl ?_
 refine WP.seq (WP.region ?_)
 refine ws rfl (os_box (cs := [(.int .i64 p_s.actuators), (.slice ao1 p_s.steps.length cap1)]) rfl rfl rfl (fun b1 => ?_))
 refine Va rfl (Va rfl (WL.nil (tn (WP.seq (WP.seq (WP.region (V rfl (ov_load_whole (i := 0) isAgg24 sizeOf24 rfl rfl rfl rfl) ?_)))))))
 obtain ⟨r1, e1, hm⟩ := bind_some hm
 refine wo rfl (oq_con (r := (.int .i64 r1)) call38 rfl rfl (fun w' s => ⟨_, (ref14_Check_con p_s ao1 cap1  w' H s.hold h1 hc1 hG r1 e1)⟩)) ?_
 refine Va rfl (WL.nil (tn (WP.seq (WP.region (Vm rfl (V rfl (ov_neq rfl rfl rfl) (WL.nil (tn ?_))))))))
 refine WP.cond rfl (fun hc3 => ?_) (fun hc3 => ?_)
 ·
  replace hm := ite_t hc3 hm
  refine WP.seq (WP.region (Vm rfl (Va rfl (Va rfl (WL.nil (tn (WP.ret (then_ret ?_))))))))
  obtain rfl := Option.some.inj hm
  refine retQ_ret results18 (Res.tmp rfl (Res.tmp rfl Res.nil)) rfl (fun w' s => ⟨s.below, ?_⟩)
  exact ⟨none, 0, rfl, SL.nil _ _ _, Nat.le_refl _⟩
 replace hm := ite_f hc3 hm
 refine WP.skip (tn (WP.seq (WP.region (Va rfl (WL.nil (tn ?_))))))
 obtain ⟨k1, hk1, hm⟩ := joinK_some hm
 refine WP.seq_join (fun g' S' => ∃ (H7 : Heap) (l4 : (List (List UInt8))) (ao7 : Option Addr) (cap7 : Nat) (xs3 : List Value), Le H H7 ∧ RL H7 encStr l4 xs3 ∧ Sub [(5, (.slice ao7 l4.length cap7)), (1000000007, (.bool false))] g' ∧ (∀ w', S' w' → St w H [.row 9 (encStr).size l4.length (.slice ao7 l4.length cap7) xs3] H7 w') ∧ k1 l4 = some r) ?_ ?_
 ·
  refine WP.seq (WP.region (Va rfl (WL.nil (tn (WP.block ?_)))))
  have rl1 := RL.nil (α := (List UInt8)) H encStr
  refine WP.weaken (fun _ s => s.nilrow 9 (encStr).size) ?_
  refine WP.loop (fun m1 g' S' => ∃ (H1 : Heap) (i1 : Int) (l1 : (List (List UInt8))) (ao3 : Option Addr) (cap3 : Nat) (xs1 : List Value), Le H H1 ∧ RL H1 encStr l1 xs1 ∧ Sub [(1, (pB b1 0)), (5, (.slice ao3 l1.length cap3)), (6, (.int .i64 i1)), (1000000007, (.bool false))] g' ∧ (∀ w', S' w' → St w H [.row 9 (encStr).size l1.length (.slice ao3 l1.length cap3) xs1, .blk b1 24 [(.int .i64 p_s.actuators), (.slice ao1 p_s.steps.length cap1)]] H1 w') ∧ ref16_Switches_loop1 p_s k1 m1 i1 l1 = some r) ((Int.toNat (p_s.actuators - 0) + 1)) ⟨H, 0, ([] : List (List UInt8)), none, 0, [], (Le.refl _), rl1, (Sub.all rfl), fun w' s => s, hm⟩ ?_ ?_
  ·
   rintro g' S' ⟨_, _, _, _, _, _, _, _, _, _, hm⟩
   exact none_some hm
  rintro m1 g' S' ⟨H1, i1, l1, ao3, cap3, xs1, hle1, rl2, hsub1, hS1, hm⟩
  refine WP.sub hsub1 (WP.weaken hS1 ?_)
  rw [ref16_Switches_loop1] at hm
  replace h1 := h1.mono hle1
  replace hG := hG.mono hle1
  refine WP.seq (WP.seq (WP.region (Vm rfl (V rfl (ov_fieldAddr underlying24 rfl rfl rfl sizeOf3 rfl rfl) (Vl 1 isAgg3 rfl (V rfl (ov_lss rfl rfl rfl) (WL.nil (tn ?_))))))))
  refine WP.cond rfl (fun hc4 => ?_) (fun hc4 => ?_)
  ·
   replace hm := ite_t hc4 hm
   refine WP.skip (tn ?_)
   obtain ⟨k2, hk2, hm⟩ := joinK_some hm
   refine WP.seq_join (fun g' S' => ∃ (H6 : Heap) (l3 : (List (List UInt8))) (ao6 : Option Addr) (cap6 : Nat) (xs2 : List Value), Le H1 H6 ∧ RL H6 encStr l3 xs2 ∧ Sub [(1, (pB b1 0)), (5, (.slice ao6 l3.length cap6)), (6, (.int .i64 i1)), (1000000007, (.bool false))] g' ∧ (∀ w', S' w' → St w H [.row 9 (encStr).size l3.length (.slice ao6 l3.length cap6) xs2, .blk b1 24 [(.int .i64 p_s.actuators), (.slice ao1 p_s.steps.length cap1)]] H6 w') ∧ k2 l3 = some r) ?_ ?_
   ·
    refine WP.block (WP.seq (WP.region (Vm rfl ?_)))
    obtain ⟨r2, e2, hm⟩ := bind_some hm
    refine wo rfl (oq_con (r := (mkS r2)) call47 rfl rfl (fun w' s => ⟨_, (ref16_Name_con i1  w' H1 s.hold hG r2 e2)⟩)) ?_
    obtain ⟨s1, e3, hm⟩ := bind_some hm
    refine V rfl (ov_sadd' e3 rfl rfl rfl) (Vm rfl ?_)
    obtain ⟨r3, e4, hm⟩ := bind_some hm
    refine wo rfl (oq_con (r := (mkS r3)) call47 rfl rfl (fun w' s => ⟨_, (ref16_Name_con i1  w' H1 s.hold hG r3 e4)⟩)) ?_
    obtain ⟨s2, e5, hm⟩ := bind_some hm
    refine V rfl (ov_sadd' e5 rfl rfl rfl) (Va rfl (Va rfl (WL.nil (tn ?_))))
    obtain ⟨k3, hk3, hm⟩ := joinK_some hm
    refine WP.seq_join (fun g' S' => ∃ (H5 : Heap) (s11 : (List UInt8)) (s12 : (List UInt8)), Le H1 H5 ∧ Sub [(1, (pB b1 0)), (5, (.slice ao3 l1.length cap3)), (6, (.int .i64 i1)), (7, (mkS s11)), (8, (mkS s12)), (1000000007, (.bool false))] g' ∧ (∀ w', S' w' → St w H [.row 9 (encStr).size l1.length (.slice ao3 l1.length cap3) xs1, .blk b1 24 [(.int .i64 p_s.actuators), (.slice ao1 p_s.steps.length cap1)]] H5 w') ∧ k3 s11 s12 = some r) ?_ ?_
    ·
     refine WP.seq (WP.region (Va rfl (WL.nil (tn (WP.block ?_)))))
     refine WP.loop (fun m2 g' S' => ∃ (H2 : Heap) (s3 : (List UInt8)) (s4 : (List UInt8)) (i2 : Int), Le H1 H2 ∧ Sub [(1, (pB b1 0)), (5, (.slice ao3 l1.length cap3)), (6, (.int .i64 i1)), (7, (mkS s3)), (8, (mkS s4)), (9, (.int .i64 i2)), (1000000007, (.bool false))] g' ∧ (∀ w', S' w' → St w H [.row 9 (encStr).size l1.length (.slice ao3 l1.length cap3) xs1, .blk b1 24 [(.int .i64 p_s.actuators), (.slice ao1 p_s.steps.length cap1)]] H2 w') ∧ ref16_Switches_loop2 p_s i1 k3 m2 s3 s4 i2 = some r) ((p_s.steps.length + 2)) ⟨H1, s1, s2, 0, (Le.refl _), (Sub.all rfl), fun w' s => s, hm⟩ ?_ ?_
     ·
      rintro g' S' ⟨_, _, _, _, _, _, _, hm⟩
      exact none_some hm
     rintro m2 g' S' ⟨H2, s3, s4, i2, hle2, hsub2, hS2, hm⟩
     refine WP.sub hsub2 (WP.weaken hS2 ?_)
     rw [ref16_Switches_loop2] at hm
     replace rl2 := rl2.mono hle2
     replace h1 := h1.mono hle2
     replace hG := hG.mono hle2
     refine WP.seq (WP.seq (WP.region (Vm rfl (V rfl (ov_fieldAddr underlying24 rfl rfl rfl sizeOf22 rfl rfl) (Vl 1 isAgg22 rfl (V rfl (ov_len_slice underlying22 rfl rfl) (V rfl (ov_leq rfl rfl rfl) (WL.nil (tn ?_)))))))))
     refine WP.cond rfl (fun hc5 => ?_) (fun hc5 => ?_)
     ·
      replace hm := ite_t hc5 hm
      refine WP.skip (tn ?_)
      obtain ⟨k4, hk4, hm⟩ := joinK_some hm
      refine WP.seq_join (fun g' S' => ∃ (H4 : Heap) (s9 : (List UInt8)) (s10 : (List UInt8)), Le H2 H4 ∧ Sub [(1, (pB b1 0)), (5, (.slice ao3 l1.length cap3)), (6, (.int .i64 i1)), (7, (mkS s9)), (8, (mkS s10)), (9, (.int .i64 i2)), (1000000007, (.bool false))] g' ∧ (∀ w', S' w' → St w H [.row 9 (encStr).size l1.length (.slice ao3 l1.length cap3) xs1, .blk b1 24 [(.int .i64 p_s.actuators), (.slice ao1 p_s.steps.length cap1)]] H4 w') ∧ k4 s9 s10 = some r) ?_ ?_
      ·
       refine WP.block (WP.seq (WP.region (V rfl (ov_load_whole (i := 1) isAgg24 sizeOf24 rfl rfl rfl rfl) (Vm rfl ?_))))
       obtain ⟨r4, e6, hm⟩ := bind_some hm
       refine ws rfl (os_con call48 rfl rfl (fun w' s => (ref14_Behind_con p_s i2 ao1 cap1  w' H2 s.hold h1 hc1 hG r4 e6)) (fun rr1 H3 hle3 hR1 => ?_))
       replace h1 := h1.mono hle3
       replace rl2 := rl2.mono hle3
       replace hG := hG.mono hle3
       obtain ⟨ao4, cap4, rfl, h3, hc6⟩ := hR1
       refine Vm rfl ?_
       obtain ⟨x1, e7, hm⟩ := bind_some hm
       obtain ⟨h4, h5, h6, cs1, h7, h8⟩ := h3.get e7 (by decide)
       obtain rfl : cs1 = [(.bool x1)] := h7
       refine V rfl (ov_indexAddr underlying49 sizeOf4 rfl rfl rfl h4 h5 h6) (V rfl (ov_load_elem (v := (.bool x1)) isAgg4 rfl rfl h8) (WL.nil (tn ?_)))
       refine WP.cond rfl (fun hc7 => ?_) (fun hc7 => ?_)
       ·
        replace hm := ite_t hc7 hm
        refine WP.region (Vm rfl ?_)
        obtain ⟨s5, e8, hm⟩ := bind_some hm
        refine V rfl (ov_sadd' e8 rfl rfl rfl) (Vm rfl ?_)
        obtain ⟨s6, e9, hm⟩ := bind_some hm
        refine V rfl (ov_sadd' e9 rfl rfl rfl) (Va rfl (Va rfl (WL.nil (bn (tn ?_)))))
        exact ⟨H3, s5, s6, hle3, (Sub.all rfl), fun w' s => s, hm⟩
       replace hm := ite_f hc7 hm
       refine WP.region (Vm rfl ?_)
       obtain ⟨s7, e10, hm⟩ := bind_some hm
       refine V rfl (ov_sadd' e10 rfl rfl rfl) (Vm rfl ?_)
       obtain ⟨s8, e11, hm⟩ := bind_some hm
       refine V rfl (ov_sadd' e11 rfl rfl rfl) (Va rfl (Va rfl (WL.nil (bn (tn ?_)))))
       exact ⟨H3, s7, s8, hle3, (Sub.all rfl), fun w' s => s, hm⟩
      rintro g' S' ⟨H4, s9, s10, hle4, hsub3, hS3, hm⟩
      refine WP.sub hsub3 (WP.weaken hS3 ?_)
      replace hm := (congrFun (congrFun hk4 s9) s10).symm.trans hm
      replace rl2 := rl2.mono hle4
      replace h1 := h1.mono hle4
      replace hG := hG.mono hle4
      refine WP.region (Vm rfl (V rfl (ov_add rfl rfl rfl) (Va rfl (WL.nil (tn ?_)))))
      exact ⟨H4, s9, s10, (IntKind.wrap .i64 (i2 + 1)), (hle2.trans hle4), (Sub.all rfl), fun w' s => s, hm⟩
     replace hm := ite_f hc5 hm
     refine WP.exit (then_exit (then_exit (block_here (tn ?_))))
     exact ⟨H2, s3, s4, hle2, (Sub.all rfl), fun w' s => s, hm⟩
    rintro g' S' ⟨H5, s11, s12, hle5, hsub4, hS4, hm⟩
    refine WP.sub hsub4 (WP.weaken hS4 ?_)
    replace hm := (congrFun (congrFun hk3 s11) s12).symm.trans hm
    replace rl2 := rl2.mono hle5
    replace h1 := h1.mono hle5
    replace hG := hG.mono hle5
    refine WP.region (Vm rfl (Vm rfl (Vm rfl ?_)))
    have rl3 : RL H5 encStr ([s11, s12] : List (List UInt8)) [(mkS s11), (mkS s12)] := RL.cons (cs := [(mkS s11)]) (xs := [(mkS s12)]) rfl (RL.cons (cs := [(mkS s12)]) (xs := []) rfl (RL.nil _ _))
    refine ws rfl (os_buildSlice (cs := [(mkS s11), (mkS s12)]) (E := 9) (sz := 1) rfl rfl (fun _ => by kernel_rfl) rfl (by decide) (fun b2 => ?_))
    obtain ⟨l2, e12, hm⟩ := bind_some hm
    refine ws rfl (os_app (i := 1) (j := 0) (En := encStr) (xs := xs1) (ys := [(mkS s11), (mkS s12)]) underlying27 (by kernel_rfl : (prog.info? 9).map (fun i => (i.zero, i.size, i.bytes)) = some (some (mkS []), (encStr).size, 16)) rfl (by decide) rfl rfl rfl rfl rfl rfl rl2 rl3 e12 (fun ao5 cap5 rl4 => ?_))
    refine Va rfl (WL.nil (bn (tn ?_)))
    exact ⟨H5, (l1 ++ ([s11, s12] : List (List UInt8))), ao5, cap5, (xs1 ++ [(mkS s11), (mkS s12)]), hle5, rl4, (Sub.all rfl), fun w' s => (s.select [1, 2] (by decide) rfl), hm⟩
   rintro g' S' ⟨H6, l3, ao6, cap6, xs2, hle6, rl5, hsub5, hS5, hm⟩
   refine WP.sub hsub5 (WP.weaken hS5 ?_)
   replace hm := (congrFun hk2 l3).symm.trans hm
   replace h1 := h1.mono hle6
   replace hG := hG.mono hle6
   refine WP.region (Vm rfl (V rfl (ov_add rfl rfl rfl) (Va rfl (WL.nil (tn ?_)))))
   exact ⟨H6, (IntKind.wrap .i64 (i1 + 1)), l3, ao6, cap6, xs2, (hle1.trans hle6), rl5, (Sub.all rfl), fun w' s => s, hm⟩
  replace hm := ite_f hc4 hm
  refine WP.exit (then_exit (then_exit (block_here (tn ?_))))
  exact ⟨H1, l1, ao3, cap3, xs1, hle1, rl2, (Sub.all rfl), fun w' s => (s.select [0] (by decide) rfl), hm⟩
 rintro g' S' ⟨H7, l4, ao7, cap7, xs3, hle7, rl6, hsub6, hS6, hm⟩
 refine WP.sub hsub6 (WP.weaken hS6 ?_)
 replace hm := (congrFun hk1 l4).symm.trans hm
 replace hG := hG.mono hle7
 refine WP.seq (WP.region (Vm rfl (Va rfl (Va rfl (WL.nil (tn (WP.ret ?_)))))))
 obtain rfl := Option.some.inj hm
 refine retQ_ret results18 (Res.tmp rfl (Res.tmp rfl Res.nil)) rfl (fun w' s => ⟨s.below, ?_⟩)
 obtain ⟨h9, hc8⟩ := s.ret_row (i := 0) rfl rl6
 exact ⟨ao7, cap7, rfl, h9, hc8⟩
end Go.Proofs.YtbckcjjffbgidaaGreatDoor.W
