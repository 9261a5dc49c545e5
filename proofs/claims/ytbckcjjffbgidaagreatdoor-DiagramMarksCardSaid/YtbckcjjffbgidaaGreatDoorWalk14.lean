/- The walks. Written by our own program gen.py; Lean checks it. -/
import Derived.Test.YtbckcjjffbgidaaGreatDoorPlain
import Derived.Test.YtbckcjjffbgidaaGreatDoorEqs
import Derived.Test.YtbckcjjffbgidaaGreatDoorProg
import Derived.Test.YtbckcjjffbgidaaGreatDoorExt
import Derived.Test.YtbckcjjffbgidaaGreatDoorBuild
import Derived.Test.YtbckcjjffbgidaaGreatDoorClone
set_option linter.unusedVariables false
set_option maxRecDepth 100000
set_option maxHeartbeats 4000000
namespace Go.Proofs.YtbckcjjffbgidaaGreatDoor.W
open Go Go.RowKit Go.Proofs.Tryz
theorem ref16_ones_con (p_n : Int) (w : World) (H : Heap) (hH : Le H (hp w)) (hG : Glob H) (r : (List Int)) (hm : ref16_ones p_n = some r) :
  Con prog 55 [(.int .i64 p_n)] w H (fun v H' => ∃ (ao1 : Option Addr) (cap1 : Nat), v = (.slice ao1 r.length cap1) ∧ SL H' (encInt .i64) ao1 r ∧ r.length ≤ cap1) := by
 unfold ref16_ones at hm
 refine con_of hH func55 rfl 14 ntmps55 rfl ?_
 refine WP.seq (WP.region (Va rfl (WL.nil (tn (WP.seq (WP.region (Va rfl (WL.nil (tn ?_)))))))))
 obtain ⟨k1, hk1, hm⟩ := joinK_some hm
 refine WP.seq_join (fun g' S' => ∃ (l3 : (List Int)) (ao4 : Option Addr) (cap4 : Nat) (xs2 : List Value), RL H (encInt .i64) l3 xs2 ∧ Sub [(3, (.slice ao4 l3.length cap4)), (1000000007, (.bool false))] g' ∧ (∀ w', S' w' → St w H [.row 3 ((encInt .i64)).size l3.length (.slice ao4 l3.length cap4) xs2] H w') ∧ k1 l3 = some r) ?_ ?_
 ·
  refine WP.seq (WP.region (Va rfl (WL.nil (tn (WP.block ?_)))))
  have rl1 := RL.nil (α := Int) H (encInt .i64)
  refine WP.weaken (fun _ s => s.nilrow 3 ((encInt .i64)).size) ?_
  refine WP.loop (fun m1 g' S' => ∃ (i1 : Int) (l1 : (List Int)) (ao2 : Option Addr) (cap2 : Nat) (xs1 : List Value), RL H (encInt .i64) l1 xs1 ∧ Sub [(0, (.int .i64 p_n)), (3, (.slice ao2 l1.length cap2)), (4, (.int .i64 i1)), (1000000007, (.bool false))] g' ∧ (∀ w', S' w' → St w H [.row 3 ((encInt .i64)).size l1.length (.slice ao2 l1.length cap2) xs1] H w') ∧ ref16_ones_loop1 p_n k1 m1 i1 l1 = some r) ((Int.toNat (p_n - 0) + 1)) ⟨0, ([] : List Int), none, 0, [], rl1, (Sub.all rfl), fun w' s => s, hm⟩ ?_ ?_
  ·
   rintro g' S' ⟨_, _, _, _, _, _, _, _, hm⟩
   exact none_some hm
  rintro m1 g' S' ⟨i1, l1, ao2, cap2, xs1, rl2, hsub1, hS1, hm⟩
  refine WP.sub hsub1 (WP.weaken hS1 ?_)
  rw [ref16_ones_loop1] at hm
  refine WP.seq (WP.seq (WP.region (Vm rfl (Vm rfl (V rfl (ov_lss rfl rfl rfl) (WL.nil (tn ?_)))))))
  refine WP.cond rfl (fun hc2 => ?_) (fun hc2 => ?_)
  ·
   replace hm := ite_t hc2 hm
   refine WP.skip (tn (WP.seq (WP.block (WP.region (Vm rfl ?_)))))
   have rl3 : RL H (encInt .i64) ([1] : List Int) [(.int .i64 1)] := RL.cons (cs := [(.int .i64 1)]) (xs := []) rfl (RL.nil _ _)
   refine ws rfl (os_buildSlice (cs := [(.int .i64 1)]) (E := 3) (sz := 1) rfl rfl (fun _ => by kernel_rfl) rfl (by decide) (fun b1 => ?_))
   obtain ⟨l2, e1, hm⟩ := bind_some hm
   refine ws rfl (os_app (i := 1) (j := 0) (En := (encInt .i64)) (xs := xs1) (ys := [(.int .i64 1)]) underlying39 (by kernel_rfl : (prog.info? 3).map (fun i => (i.zero, i.size, i.bytes)) = some (some (.int .i64 0), ((encInt .i64)).size, 8)) rfl (by decide) rfl rfl rfl rfl rfl rfl rl2 rl3 e1 (fun ao3 cap3 rl4 => ?_))
   refine Va rfl (WL.nil (bn (tn (WP.region (Vm rfl (V rfl (ov_add rfl rfl rfl) (Va rfl (WL.nil (tn ?_)))))))))
   exact ⟨(IntKind.wrap .i64 (i1 + 1)), (l1 ++ ([1] : List Int)), ao3, cap3, (xs1 ++ [(.int .i64 1)]), rl4, (Sub.all rfl), fun w' s => (s.select [1] (by decide) rfl), hm⟩
  replace hm := ite_f hc2 hm
  refine WP.exit (then_exit (then_exit (block_here (tn ?_))))
  exact ⟨l1, ao2, cap2, xs1, rl2, (Sub.all rfl), fun w' s => s, hm⟩
 rintro g' S' ⟨l3, ao4, cap4, xs2, rl5, hsub2, hS2, hm⟩
 refine WP.sub hsub2 (WP.weaken hS2 ?_)
 replace hm := (congrFun hk1 l3).symm.trans hm
 refine WP.seq (WP.region (Vm rfl (Va rfl (WL.nil (tn (WP.ret ?_))))))
 obtain rfl := Option.some.inj hm
 refine retQ_ret results55 (Res.tmp rfl Res.nil) rfl (fun w' s => ⟨s.below, ?_⟩)
 obtain ⟨h2, hc3⟩ := s.ret_row (i := 0) rfl rl5
 exact ⟨ao4, cap4, rfl, h2, hc3⟩
end Go.Proofs.YtbckcjjffbgidaaGreatDoor.W
