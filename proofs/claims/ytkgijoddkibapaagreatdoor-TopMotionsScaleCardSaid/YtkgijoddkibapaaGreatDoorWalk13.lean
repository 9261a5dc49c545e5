import Derived.Test.YtkgijoddkibapaaGreatDoorPlain
import Derived.Test.YtkgijoddkibapaaGreatDoorEqs
import Derived.Test.YtkgijoddkibapaaGreatDoorProg
import Derived.Test.YtkgijoddkibapaaGreatDoorExt
import Derived.Test.YtkgijoddkibapaaGreatDoorBuild
import Derived.Test.YtkgijoddkibapaaGreatDoorClone
set_option linter.unusedVariables false
set_option maxRecDepth 100000
set_option maxHeartbeats 4000000
namespace Go.Proofs.YtkgijoddkibapaaGreatDoor.W
open Go Go.RowKit Go.Proofs.Tryz
theorem slices_Index_stringstring_con (p_s : (List (List UInt8))) (p_v : (List UInt8)) (ao1 : Option Addr) (cap1 : Nat) (w : World) (H : Heap) (hH : Le H (hp w)) (h1 : SL H encStr ao1 p_s) (hc1 : p_s.length ≤ cap1) (hG : Glob H) (r : Int) (hm : slices_Index_stringstring p_s p_v = some r) :
  Con prog 180 [(.slice ao1 p_s.length cap1), (mkS p_v)] w H (fun v _ => v = (.int .i64 r)) := by
 unfold slices_Index_stringstring at hm
 refine con_of hH func180 rfl 19 ntmps180 rfl ?_
 refine WP.seq (WP.region (Va rfl (WL.nil (tn ?_))))
 obtain ⟨k1, hk1, hm⟩ := joinK_some hm
 refine WP.seq_join (fun g' S' => Sub [(1000000007, (.bool false))] g' ∧ (∀ w', S' w' → St w H [] H w') ∧ k1 = some r) ?_ ?_
 ·
  refine WP.seq (WP.region (Vm rfl (V rfl (ov_len_slice underlying41 rfl rfl) (Vm rfl (WL.nil (tn (WP.block ?_)))))))
  refine WP.loop (fun m1 g' S' => ∃ (i1 : Int), Sub [(0, (.slice ao1 p_s.length cap1)), (1, (mkS p_v)), (7, (.int .i64 (p_s.length : Int))), (8, (.int .i64 i1)), (1000000007, (.bool false))] g' ∧ (∀ w', S' w' → St w H [] H w') ∧ slices_Index_stringstring_loop1 p_s p_v k1 m1 i1 = some r) ((Int.toNat ((p_s.length : Int) - 0) + 1)) ⟨0, (Sub.all rfl), fun w' s => s, hm⟩ ?_ ?_
  ·
   rintro g' S' ⟨_, _, _, hm⟩
   exact none_some hm
  rintro m1 g' S' ⟨i1, hsub1, hS1, hm⟩
  refine WP.sub hsub1 (WP.weaken hS1 ?_)
  rw [slices_Index_stringstring_loop1] at hm
  refine WP.seq (WP.region (V rfl (ov_lss rfl rfl rfl) (WL.nil (tn (WP.seq ?_)))))
  refine WP.cond rfl (fun hc2 => ?_) (fun hc2 => ?_)
  ·
   replace hm := ite_t hc2 hm
   refine WP.skip (tn (WP.seq (WP.block (WP.seq (WP.region (Vm rfl (Va rfl (WL.nil (tn (WP.seq (WP.region (Vm rfl (Vm rfl ?_)))))))))))))
   refine Vm rfl ?_
   obtain ⟨x1, e1, hm⟩ := bind_some hm
   obtain ⟨h2, h3, h4, cs1, h5, h6⟩ := h1.get e1 (by decide)
   obtain rfl : cs1 = [(mkS x1)] := h5
   refine V rfl (ov_indexAddr underlying41 sizeOf9 rfl rfl rfl h2 h3 h4) (V rfl (ov_load_elem (v := (mkS x1)) isAgg9 rfl rfl h6) (V rfl (ov_seql rfl rfl rfl) (WL.nil (tn ?_))))
   refine WP.cond rfl (fun hc3 => ?_) (fun hc3 => ?_)
   ·
    replace hm := ite_t hc3 hm
    refine WP.seq (WP.region (Vm rfl (Va rfl (WL.nil (tn (WP.ret (block_ret (then_ret (then_ret (block_ret (then_ret ?_)))))))))))
    obtain rfl := Option.some.inj hm
    refine retQ_ret results180 (Res.tmp rfl Res.nil) rfl (fun w' s => ⟨s.below, ?_⟩)
    exact rfl
   replace hm := ite_f hc3 hm
   refine WP.skip (bn (tn (WP.region (V rfl (ov_add rfl rfl rfl) (Vm rfl (WL.nil (tn ?_)))))))
   exact ⟨(IntKind.wrap .i64 (i1 + 1)), (Sub.all rfl), fun w' s => s, hm⟩
  replace hm := ite_f hc2 hm
  refine WP.exit (then_exit (then_exit (block_here (tn ?_))))
  exact ⟨(Sub.all rfl), fun w' s => s, hm⟩
 rintro g' S' ⟨hsub2, hS2, hm⟩
 refine WP.sub hsub2 (WP.weaken hS2 ?_)
 replace hm := hk1.symm.trans hm
 refine WP.seq (WP.region (Va rfl (WL.nil (tn (WP.ret ?_)))))
 obtain rfl := Option.some.inj hm
 refine retQ_ret results180 (Res.tmp rfl Res.nil) rfl (fun w' s => ⟨s.below, ?_⟩)
 exact rfl
theorem slices_Contains_stringstring_con (p_s : (List (List UInt8))) (p_v : (List UInt8)) (ao1 : Option Addr) (cap1 : Nat) (w : World) (H : Heap) (hH : Le H (hp w)) (h1 : SL H encStr ao1 p_s) (hc1 : p_s.length ≤ cap1) (hG : Glob H) (r : Bool) (hm : slices_Contains_stringstring p_s p_v = some r) :
  Con prog 179 [(.slice ao1 p_s.length cap1), (mkS p_v)] w H (fun v _ => v = (.bool r)) := by
 unfold slices_Contains_stringstring at hm
 refine con_of hH func179 rfl 9 ntmps179 rfl ?_
 refine WP.seq (WP.region (Va rfl (WL.nil (tn (WP.seq (WP.region (Vm rfl (Vm rfl ?_))))))))
 obtain ⟨r1, e1, hm⟩ := bind_some hm
 refine wo rfl (oq_con (r := (.int .i64 r1)) call180 rfl rfl (fun w' s => ⟨_, (slices_Index_stringstring_con p_s p_v ao1 cap1  w' H s.hold h1 hc1 hG r1 e1)⟩)) ?_
 refine V rfl (ov_geq rfl rfl rfl) (Va rfl (WL.nil (tn (WP.ret ?_))))
 obtain rfl := Option.some.inj hm
 refine retQ_ret results179 (Res.tmp rfl Res.nil) rfl (fun w' s => ⟨s.below, ?_⟩)
 exact rfl
theorem program_choice_taken_con (p_m : MChoice) (p_on : (List (List UInt8))) (t1 : TypeId) (c1 : Value) (t2 : TypeId) (c2 : Value) (ao1 : Option Addr) (cap1 : Nat) (w : World) (H : Heap) (hH : Le H (hp w)) (h1 : MotionRep H p_m.then_ (.iface t1 c1)) (h2 : MotionRep H p_m.other (.iface t2 c2)) (h3 : SL H encStr ao1 p_on) (hc1 : p_on.length ≤ cap1) (hG : Glob H) (r : Motion) (hm : program_choice_taken p_m p_on = some r) :
  Con prog 178 [(.agg #[(mkS p_m.name), (.iface t1 c1), (.iface t2 c2)]), (.slice ao1 p_on.length cap1)] w H (fun v H' => ∃ (t3 : TypeId) (c3 : Value), v = (.iface t3 c3) ∧ MotionRep H' r (.iface t3 c3)) := by
 unfold program_choice_taken at hm
 refine con_of hH func178 rfl 13 ntmps178 rfl ?_
 refine WP.seq (WP.region ?_)
 refine ws rfl (os_box (cs := [(mkS p_m.name), (.iface t1 c1), (.iface t2 c2)]) rfl rfl rfl (fun b1 => ?_))
 refine Va rfl (WL.nil (tn (WP.seq (WP.seq (WP.region (Vm rfl (V rfl (ov_fieldAddr underlying210 rfl rfl rfl sizeOf9 rfl rfl) (Vl 0 isAgg9 rfl ?_))))))))
 obtain ⟨r1, e1, hm⟩ := bind_some hm
 refine wo rfl (oq_con (r := (.bool r1)) call179 rfl rfl (fun w' s => ⟨_, (slices_Contains_stringstring_con p_on p_m.name ao1 cap1  w' H s.hold h3 hc1 hG r1 e1)⟩)) ?_
 refine WL.nil (tn ?_)
 refine WP.cond rfl (fun hc2 => ?_) (fun hc2 => ?_)
 ·
  replace hm := ite_t hc2 hm
  refine WP.seq (WP.region (V rfl (ov_fieldAddr underlying210 rfl rfl rfl sizeOf180 rfl rfl) (Vl 0 isAgg180 rfl (Va rfl (WL.nil (tn (WP.ret (then_ret ?_))))))))
  obtain rfl := Option.some.inj hm
  refine retQ_ret results178 (Res.tmp rfl Res.nil) rfl (fun w' s => ⟨s.below, ?_⟩)
  exact ⟨t1, c1, rfl, h1.mono s.le_newer⟩
 replace hm := ite_f hc2 hm
 refine WP.skip (tn (WP.seq (WP.region (V rfl (ov_fieldAddr underlying210 rfl rfl rfl sizeOf180 rfl rfl) (Vl 0 isAgg180 rfl (Va rfl (WL.nil (tn (WP.ret ?_)))))))))
 obtain rfl := Option.some.inj hm
 refine retQ_ret results178 (Res.tmp rfl Res.nil) rfl (fun w' s => ⟨s.below, ?_⟩)
 exact ⟨t2, c2, rfl, h2.mono s.le_newer⟩
end Go.Proofs.YtkgijoddkibapaaGreatDoor.W
