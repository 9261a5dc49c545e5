/- The walks. Written by our own program gen.py; Lean checks it. -/
import Derived.Test.YtbckcjjffbgidaaGreatDoorPlain
import Derived.Test.YtbckcjjffbgidaaGreatDoorEqs
import Derived.Test.YtbckcjjffbgidaaGreatDoorProg
import Derived.Test.YtbckcjjffbgidaaGreatDoorExt
import Derived.Test.YtbckcjjffbgidaaGreatDoorBuild
import Derived.Test.YtbckcjjffbgidaaGreatDoorClone
import Derived.Test.YtbckcjjffbgidaaGreatDoorWalk0
import Derived.Test.YtbckcjjffbgidaaGreatDoorWalk1
import Derived.Test.YtbckcjjffbgidaaGreatDoorWalk2
import Derived.Test.YtbckcjjffbgidaaGreatDoorWalk3
import Derived.Test.YtbckcjjffbgidaaGreatDoorWalk4
import Derived.Test.YtbckcjjffbgidaaGreatDoorWalk5
import Derived.Test.YtbckcjjffbgidaaGreatDoorWalk6
set_option linter.unusedVariables false
set_option maxRecDepth 100000
set_option maxHeartbeats 4000000
namespace Go.Proofs.YtbckcjjffbgidaaGreatDoor.W
open Go Go.RowKit Go.Proofs.Tryz
theorem diagram_cells_con (p_s : Sequence) (ao1 : Option Addr) (cap1 : Nat) (w : World) (H : Heap) (hH : Le H (hp w)) (h1 : SL H encStep ao1 p_s.steps) (hc1 : p_s.steps.length ≤ cap1) (hG : Glob H) (r : (List (List Cell))) (hm : diagram_cells p_s = some r) :
  Con prog 43 [(.agg #[(.int .i64 p_s.actuators), (.slice ao1 p_s.steps.length cap1)])] w H (fun v H' => ∃ (ao2 : Option Addr) (cap2 : Nat), v = (.slice ao2 r.length cap2) ∧ SL H' (encSl encCell) ao2 r ∧ r.length ≤ cap2) := by
 unfold diagram_cells at hm
 rcases Bool.eq_false_or_eq_true (p_s.actuators == 1) with hc | hc
 ·
  replace hm := ite_t hc hm
  exact diagram_cells1_con p_s ao1 cap1 w H hH h1 hc1 hG hc r hm
 replace hm := ite_f hc hm
 rcases Bool.eq_false_or_eq_true (p_s.actuators == 2) with hc | hc
 ·
  replace hm := ite_t hc hm
  exact diagram_cells2_con p_s ao1 cap1 w H hH h1 hc1 hG hc r hm
 replace hm := ite_f hc hm
 rcases Bool.eq_false_or_eq_true (p_s.actuators == 3) with hc | hc
 ·
  replace hm := ite_t hc hm
  exact diagram_cells3_con p_s ao1 cap1 w H hH h1 hc1 hG hc r hm
 replace hm := ite_f hc hm
 rcases Bool.eq_false_or_eq_true (p_s.actuators == 4) with hc | hc
 ·
  replace hm := ite_t hc hm
  exact diagram_cells4_con p_s ao1 cap1 w H hH h1 hc1 hG hc r hm
 replace hm := ite_f hc hm
 rcases Bool.eq_false_or_eq_true (p_s.actuators == 5) with hc | hc
 ·
  replace hm := ite_t hc hm
  exact diagram_cells5_con p_s ao1 cap1 w H hH h1 hc1 hG hc r hm
 replace hm := ite_f hc hm
 rcases Bool.eq_false_or_eq_true (p_s.actuators == 6) with hc | hc
 ·
  replace hm := ite_t hc hm
  exact diagram_cells6_con p_s ao1 cap1 w H hH h1 hc1 hG hc r hm
 replace hm := ite_f hc hm
 exact (none_some hm).elim
theorem diagram_letter_con (p_a : Int) (w : World) (H : Heap) (hH : Le H (hp w)) (hG : Glob H) (r : (List UInt8)) (hm : diagram_letter p_a = some r) :
  Con prog 45 [(.int .i64 p_a)] w H (fun v _ => v = (mkS r)) := by
 unfold diagram_letter at hm
 refine con_of hH func45 rfl 7 ntmps45 rfl ?_
 refine WP.seq (WP.region (Va rfl (WL.nil (tn (WP.seq (WP.region (Vm rfl (V rfl (ov_add rfl rfl rfl) (V rfl (ov_convert_int underlying3 underlying21 rfl rfl) (V rfl (ov_convert_rune' underlying21 underlying9 rfl rfl) (Va rfl (WL.nil (tn ?_)))))))))))))
 refine WP.ret ?_
 obtain rfl := Option.some.inj hm
 refine retQ_ret results45 (Res.tmp rfl Res.nil) rfl (fun w' s => ⟨s.below, ?_⟩)
 exact rfl
theorem diagram_draw_con (p_s : Sequence) (ao1 : Option Addr) (cap1 : Nat) (w : World) (H : Heap) (hH : Le H (hp w)) (h1 : SL H encStep ao1 p_s.steps) (hc1 : p_s.steps.length ≤ cap1) (hG : Glob H) (r : (List (List UInt8))) (hm : diagram_draw p_s = some r) :
  Con prog 41 [(.agg #[(.int .i64 p_s.actuators), (.slice ao1 p_s.steps.length cap1)])] w H (fun v H' => ∃ (ao2 : Option Addr) (cap2 : Nat), v = (.slice ao2 r.length cap2) ∧ SL H' encStr ao2 r ∧ r.length ≤ cap2) := by
 unfold diagram_draw at hm
 refine con_of hH func41 rfl 36 ntmps41 rfl ?_
 refine WP.seq (WP.region ?_)
 refine ws rfl (os_box (cs := [(.int .i64 p_s.actuators), (.slice ao1 p_s.steps.length cap1)]) rfl rfl rfl (fun b1 => ?_))
 refine Va rfl (WL.nil (tn (WP.seq (WP.region (V rfl (ov_load_whole (i := 0) isAgg24 sizeOf24 rfl rfl rfl rfl) ?_)))))
 refine ws rfl (os_inline (cap := []) (vs := [(.agg #[(.int .i64 p_s.actuators), (.slice ao1 p_s.steps.length cap1)]), (.func (.func 53) #[] #[])]) call49 rfl rfl rfl func49 rfl 46 ntmps49 rfl (fun w' s => ?_))
 refine WP.seq (WP.region ?_)
 refine ws rfl (os_box (cs := [(.int .i64 p_s.actuators), (.slice ao1 p_s.steps.length cap1)]) rfl rfl rfl (fun b2 => ?_))
 refine Va rfl (WL.nil (tn (WP.seq (WP.region (Va rfl (WL.nil (tn ?_)))))))
 obtain ⟨k1, hk1, hm⟩ := joinK_some hm
 refine WP.seq_join (fun g' S' => ∃ (H2 : Heap) (l9 : (List (List UInt8))) (ao13 : Option Addr) (cap13 : Nat) (xs5 : List Value), Le H H2 ∧ RL H2 encStr l9 xs5 ∧ Sub [(5, (.slice ao13 l9.length cap13)), (1000000007, (.bool false))] g' ∧ (∀ w', S' w' → St w H [.row 9 (encStr).size l9.length (.slice ao13 l9.length cap13) xs5, .blk b1 24 [(.int .i64 p_s.actuators), (.slice ao1 p_s.steps.length cap1)]] H2 w') ∧ k1 l9 = some r) ?_ ?_
 ·
  refine WP.seq (WP.region (V rfl (ov_load_whole (i := 0) isAgg24 sizeOf24 rfl rfl rfl rfl) ?_))
  obtain ⟨r1, e1, hm⟩ := bind_some hm
  refine ws rfl (os_con call43 rfl rfl (fun w' s => (diagram_cells_con p_s ao1 cap1  w' H s.hold h1 hc1 hG r1 e1)) (fun rr1 H1 hle1 hR1 => ?_))
  replace h1 := h1.mono hle1
  replace hG := hG.mono hle1
  obtain ⟨ao3, cap3, rfl, h3, hc3⟩ := hR1
  refine V rfl (ov_len_slice underlying76 rfl rfl) (Vm rfl (WL.nil (tn (WP.block ?_))))
  have rl1 := RL.nil (α := (List UInt8)) H1 encStr
  refine WP.weaken (fun _ s => s.nilrow 9 (encStr).size) ?_
  refine WP.loop (fun m1 g' S' => ∃ (i1 : Int) (l1 : (List (List UInt8))) (ao4 : Option Addr) (cap4 : Nat) (xs1 : List Value), RL H1 encStr l1 xs1 ∧ Sub [(1, (.func (.func 53) #[] #[])), (5, (.slice ao4 l1.length cap4)), (12, (.slice ao3 r1.length cap3)), (13, (.int .i64 (r1.length : Int))), (14, (.int .i64 i1)), (1000000007, (.bool false))] g' ∧ (∀ w', S' w' → St w H [.row 9 (encStr).size l1.length (.slice ao4 l1.length cap4) xs1, .blk b1 24 [(.int .i64 p_s.actuators), (.slice ao1 p_s.steps.length cap1)]] H1 w') ∧ diagram_draw_loop1 k1 r1 m1 i1 l1 = some r) ((Int.toNat ((r1.length : Int) - 0) + 1)) ⟨0, ([] : List (List UInt8)), none, 0, [], rl1, (Sub.all rfl), fun w' s => (s.select [0, 2] (by decide) rfl), hm⟩ ?_ ?_
  ·
   rintro g' S' ⟨_, _, _, _, _, _, _, _, hm⟩
   exact none_some hm
  rintro m1 g' S' ⟨i1, l1, ao4, cap4, xs1, rl2, hsub1, hS1, hm⟩
  refine WP.sub hsub1 (WP.weaken hS1 ?_)
  rw [diagram_draw_loop1] at hm
  refine WP.seq (WP.region (V rfl (ov_lss rfl rfl rfl) (WL.nil (tn (WP.seq ?_)))))
  refine WP.cond rfl (fun hc4 => ?_) (fun hc4 => ?_)
  ·
   replace hm := ite_t hc4 hm
   refine WP.skip (tn ?_)
   obtain ⟨k2, hk2, hm⟩ := joinK_some hm
   refine WP.seq_join (fun g' S' => ∃ (l8 : (List (List UInt8))) (ao12 : Option Addr) (cap12 : Nat) (xs4 : List Value), RL H1 encStr l8 xs4 ∧ Sub [(1, (.func (.func 53) #[] #[])), (5, (.slice ao12 l8.length cap12)), (12, (.slice ao3 r1.length cap3)), (13, (.int .i64 (r1.length : Int))), (14, (.int .i64 i1)), (1000000007, (.bool false))] g' ∧ (∀ w', S' w' → St w H [.row 9 (encStr).size l8.length (.slice ao12 l8.length cap12) xs4, .blk b1 24 [(.int .i64 p_s.actuators), (.slice ao1 p_s.steps.length cap1)]] H1 w') ∧ k2 l8 = some r) ?_ ?_
   ·
    refine WP.block (WP.seq (WP.region (Vm rfl ?_)))
    obtain ⟨x1, e2, hm⟩ := bind_some hm
    obtain ⟨h5, h6, h7, cs1, h8, h9⟩ := h3.get e2 (by decide)
    obtain ⟨ao5, cap5, rfl, h4, hc5⟩ := h8
    refine V rfl (ov_indexAddr underlying76 sizeOf78 rfl rfl rfl h5 h6 h7) (V rfl (ov_load_elem (v := (.slice ao5 x1.length cap5)) isAgg78 rfl rfl h9) (Va rfl (Va rfl (WL.nil (tn (WP.seq (WP.region (V rfl (ov_build (r := (.agg #[(.pointer none), (.slice none 0 0)])) rfl rfl (fun _ => by kernel_rfl)) ?_))))))))
    refine WL.within (fun w1 s1 => ?_)
    have sv1 := h3
    replace h3 := h3.mono s1.hold
    have sv2 := h9
    replace h9 := h9.mono s1.hold
    have sv3 := h4
    replace h4 := h4.mono s1.hold
    have sv4 := h1
    replace h1 := h1.mono s1.hold
    have sv5 := rl2
    replace rl2 := rl2.mono s1.hold
    have sv6 := hG
    replace hG := hG.mono s1.hold
    have h10 : RowAt (hp w1) (some ⟨b1, 0, none⟩) 0 [(.int .i64 p_s.actuators), (.slice ao1 p_s.steps.length cap1)] := s1.box_row (i := 1) rfl
    refine ws rfl (os_box (cs := [(.pointer none), (.slice none 0 0)]) rfl rfl rfl (fun b3 => ?_))
    refine Va rfl (WL.nil (tn (WP.seq (WP.region (Vm rfl (Vm rfl ?_))))))
    obtain ⟨r2, e3, hm⟩ := bind_some hm
    refine wo rfl (oq_con (r := (mkS r2)) call45 rfl rfl (fun w' s => ⟨_, (diagram_letter_con i1  w' (hp w1) s.hold hG r2 e3)⟩)) ?_
    obtain ⟨s2, e4, hm⟩ := bind_some hm
    refine V rfl (ov_sadd' e4 rfl rfl rfl) ?_
    refine ws rfl (os_inline (cap := []) (vs := [(pB b3 0), (mkS s2)]) call82 rfl rfl rfl func82 rfl 19 ntmps82 rfl (fun w' s => ?_))
    refine WP.seq (WP.region (Va rfl (Va rfl (WL.nil (tn (WP.seq (WP.region (Vm rfl ?_))))))))
    refine ws rfl (os_copyCheck (i := 0) rfl rfl rfl (.inl rfl) ?_)
    refine WL.nil (tn (WP.seq (WP.region (Vm rfl (Vm rfl (V rfl (ov_nilCheckB rfl rfl) (V rfl (ov_fieldAddr underlying123 rfl rfl rfl sizeOf75 rfl rfl) (Vl 0 isAgg75 rfl (Vm rfl ?_)))))))))
    have rl3 := RL.nil (α := UInt8) (hp w1) encByte
    refine WL.weaken (fun _ s => s.nilrow 5 (encByte).size) ?_
    obtain ⟨l2, e5, hm⟩ := bind_some hm
    refine ws rfl (os_app_str (i := 0) (xs := []) underlying75 underlying9 (by kernel_rfl : (prog.info? 5).map (fun i => (i.zero, i.size, i.bytes)) = some (some (.int .u8 0), 1, 1)) rfl rfl rfl rfl rl3 e5 (fun ao6 cap6 ys1 rl4 => ?_))
    refine V rfl (ov_nilCheckB rfl rfl) (V rfl (ov_fieldAddr underlying123 rfl rfl rfl sizeOf75 rfl rfl) ?_)
    refine ws0 rfl (os_store (i := 1) (vs := [(.slice ao6 (([] : List UInt8) ++ s2).length cap6)]) (cs' := [(pB b3 0), (.slice ao6 (([] : List UInt8) ++ s2).length cap6)]) sizeOf75 rfl rfl rfl rfl rfl rfl rfl rfl rfl ?_)
    refine WL.nil (tn (WP.seq (WP.region (Vm rfl (V rfl (ov_len_string underlying9 rfl rfl) (Va rfl (Va rfl (WL.nil (tn (WP.ret ?_))))))))))
    refine retQ_ret (v := (.tuple #[(.int .i64 (s2.length : Int)), .nilIface])) results82 (Res.tmp rfl (Res.tmp rfl Res.nil)) rfl (fun w' s => ⟨_, ?_, s⟩)
    refine WL.nil (tn ?_)
    obtain ⟨k3, hk3, hm⟩ := joinK_some hm
    refine WP.seq_join (fun g' S' => ∃ (l6 : (List UInt8)) (ao10 : Option Addr) (cap10 : Nat) (xs3 : List Value), RL (hp w1) encByte l6 xs3 ∧ Sub [(1, (.func (.func 53) #[] #[])), (5, (.slice ao4 l1.length cap4)), (8, (pB b3 0)), (12, (.slice ao3 r1.length cap3)), (13, (.int .i64 (r1.length : Int))), (14, (.int .i64 i1)), (1000000007, (.bool false))] g' ∧ (∀ w', S' w' → St w1 (hp w1) [.row 5 (encByte).size l6.length (.slice ao10 l6.length cap10) xs3, .blk b3 123 [(pB b3 0), (.slice ao10 l6.length cap10)]] (hp w1) w') ∧ k3 l6 = some r) ?_ ?_
    ·
     refine WP.seq (WP.region (Vm rfl (V rfl (ov_len_slice underlying78 rfl rfl) (Vm rfl (WL.nil (tn (WP.block ?_)))))))
     refine WP.loop (fun m2 g' S' => ∃ (i2 : Int) (l3 : (List UInt8)) (ao7 : Option Addr) (cap7 : Nat) (xs2 : List Value), RL (hp w1) encByte l3 xs2 ∧ Sub [(1, (.func (.func 53) #[] #[])), (5, (.slice ao4 l1.length cap4)), (8, (pB b3 0)), (12, (.slice ao3 r1.length cap3)), (13, (.int .i64 (r1.length : Int))), (14, (.int .i64 i1)), (26, (.slice ao5 x1.length cap5)), (27, (.int .i64 (x1.length : Int))), (28, (.int .i64 i2)), (1000000007, (.bool false))] g' ∧ (∀ w', S' w' → St w1 (hp w1) [.row 5 (encByte).size l3.length (.slice ao7 l3.length cap7) xs2, .blk b3 123 [(pB b3 0), (.slice ao7 l3.length cap7)]] (hp w1) w') ∧ diagram_draw_loop2 x1 k3 m2 i2 l3 = some r) ((Int.toNat ((x1.length : Int) - 0) + 1)) ⟨0, (([] : List UInt8) ++ s2), ao6, cap6, ([] ++ ys1), rl4, (Sub.all rfl), fun w' s => s, hm⟩ ?_ ?_
     ·
      rintro g' S' ⟨_, _, _, _, _, _, _, _, hm⟩
      exact none_some hm
     rintro m2 g' S' ⟨i2, l3, ao7, cap7, xs2, rl5, hsub2, hS2, hm⟩
     refine WP.sub hsub2 (WP.weaken hS2 ?_)
     rw [diagram_draw_loop2] at hm
     refine WP.seq (WP.region (V rfl (ov_lss rfl rfl rfl) (WL.nil (tn (WP.seq ?_)))))
     refine WP.cond rfl (fun hc6 => ?_) (fun hc6 => ?_)
     ·
      replace hm := ite_t hc6 hm
      refine WP.skip (tn (WP.seq (WP.block (WP.seq (WP.region (Vm rfl ?_))))))
      obtain ⟨x2, e6, hm⟩ := bind_some hm
      obtain ⟨h11, h12, h13, cs2, h14, h15⟩ := h4.get e6 (by decide)
      obtain rfl : cs2 = [(.int .u8 x2.first), (.int .u8 x2.second)] := h14
      refine V rfl (ov_indexAddr underlying78 sizeOf80 rfl rfl rfl h11 h12 h13) (V rfl (ov_load_elems (vs := [(.int .u8 x2.first), (.int .u8 x2.second)]) isAgg80 sizeOf80 rfl rfl rfl h15 h13) ?_)
      refine ws rfl (os_alloc (cs := [(.int .u8 0), (.int .u8 0)]) zeroValue80 rfl rfl (fun b4 => ?_))
      refine Va rfl ?_
      refine ws0 rfl (os_store (i := 0) (vs := [(.int .u8 x2.first), (.int .u8 x2.second)]) (cs' := [(.int .u8 x2.first), (.int .u8 x2.second)]) sizeOf80 rfl rfl rfl rfl rfl rfl rfl rfl rfl ?_)
      refine WL.nil (tn (WP.region (Vm rfl (Vm rfl (Vm rfl (V rfl (ov_load_whole (i := 0) isAgg80 sizeOf80 rfl rfl rfl rfl) ?_))))))
      refine ws rfl (os_inline (cap := []) (vs := [(pB b3 0), (.int .i64 i2), (.agg #[(.int .u8 x2.first), (.int .u8 x2.second)])]) call53 rfl rfl rfl func53 rfl 14 ntmps53 rfl (fun w' s => ?_))
      refine WP.seq (WP.region ?_)
      refine ws rfl (os_box (cs := [(.int .u8 x2.first), (.int .u8 x2.second)]) rfl rfl rfl (fun b5 => ?_))
      refine WL.nil (tn (WP.seq (WP.region (Vm rfl (V rfl (ov_fieldAddr underlying80 rfl rfl rfl sizeOf5 rfl rfl) (Vl 0 isAgg5 rfl ?_))))))
      refine ws rfl (os_inline (cap := []) (vs := [(pB b3 0), (.int .u8 x2.first)]) call52 rfl rfl rfl func52 rfl 17 ntmps52 rfl (fun w' s => ?_))
      refine WP.seq (WP.region (Va rfl (WL.nil (tn (WP.seq (WP.region (Vm rfl ?_)))))))
      refine ws rfl (os_copyCheck (i := 3) rfl rfl rfl (.inr rfl) ?_)
      refine WL.nil (tn (WP.seq (WP.region (Vm rfl (Vm rfl (V rfl (ov_nilCheckB rfl rfl) (V rfl (ov_fieldAddr underlying123 rfl rfl rfl sizeOf75 rfl rfl) (Vl 3 isAgg75 rfl (Vm rfl ?_)))))))))
      obtain ⟨u1, e7, hm⟩ := bind_some hm
      replace e7 := guardO_some e7
      have rl6 : RL (hp w1) encByte ([(UInt8.ofNat (Int.toNat x2.first))] : List UInt8) [(.int .u8 x2.first)] := RL.byte1 e7
      refine ws rfl (os_buildSlice (cs := [(.int .u8 x2.first)]) (E := 5) (sz := 1) rfl rfl (fun _ => by kernel_rfl) rfl (by decide) (fun b6 => ?_))
      obtain ⟨l4, e8, hm⟩ := bind_some hm
      refine ws rfl (os_app (i := 3) (j := 0) (En := encByte) (xs := xs2) (ys := [(.int .u8 x2.first)]) underlying75 (by kernel_rfl : (prog.info? 5).map (fun i => (i.zero, i.size, i.bytes)) = some (some (.int .u8 0), (encByte).size, 1)) rfl (by decide) rfl rfl rfl rfl rfl rfl rl5 rl6 e8 (fun ao8 cap8 rl7 => ?_))
      refine V rfl (ov_nilCheckB rfl rfl) (V rfl (ov_fieldAddr underlying123 rfl rfl rfl sizeOf75 rfl rfl) ?_)
      refine ws0 rfl (os_store (i := 4) (vs := [(.slice ao8 (l3 ++ ([(UInt8.ofNat (Int.toNat x2.first))] : List UInt8)).length cap8)]) (cs' := [(pB b3 0), (.slice ao8 (l3 ++ ([(UInt8.ofNat (Int.toNat x2.first))] : List UInt8)).length cap8)]) sizeOf75 rfl rfl rfl rfl rfl rfl rfl rfl rfl ?_)
      refine WL.nil (tn (WP.seq (WP.region (Va rfl (WL.nil (tn (WP.ret ?_)))))))
      refine retQ_ret (v := .nilIface) results52 (Res.tmp rfl Res.nil) rfl (fun w' s => ⟨_, ?_, s⟩)
      refine WL.nil (tn (WP.region (Vm rfl (V rfl (ov_fieldAddr underlying80 rfl rfl rfl sizeOf5 rfl rfl) (Vl 1 isAgg5 rfl ?_)))))
      refine ws rfl (os_inline (cap := []) (vs := [(pB b3 0), (.int .u8 x2.second)]) call52 rfl rfl rfl func52 rfl 17 ntmps52 rfl (fun w' s => ?_))
      refine WP.seq (WP.region (Va rfl (WL.nil (tn (WP.seq (WP.region (Vm rfl ?_)))))))
      refine ws rfl (os_copyCheck (i := 4) rfl rfl rfl (.inr rfl) ?_)
      refine WL.nil (tn (WP.seq (WP.region (Vm rfl (Vm rfl (V rfl (ov_nilCheckB rfl rfl) (V rfl (ov_fieldAddr underlying123 rfl rfl rfl sizeOf75 rfl rfl) (Vl 4 isAgg75 rfl (Vm rfl ?_)))))))))
      obtain ⟨u2, e9, hm⟩ := bind_some hm
      replace e9 := guardO_some e9
      have rl8 : RL (hp w1) encByte ([(UInt8.ofNat (Int.toNat x2.second))] : List UInt8) [(.int .u8 x2.second)] := RL.byte1 e9
      refine ws rfl (os_buildSlice (cs := [(.int .u8 x2.second)]) (E := 5) (sz := 1) rfl rfl (fun _ => by kernel_rfl) rfl (by decide) (fun b7 => ?_))
      obtain ⟨l5, e10, hm⟩ := bind_some hm
      refine ws rfl (os_app (i := 4) (j := 0) (En := encByte) (xs := (xs2 ++ [(.int .u8 x2.first)])) (ys := [(.int .u8 x2.second)]) underlying75 (by kernel_rfl : (prog.info? 5).map (fun i => (i.zero, i.size, i.bytes)) = some (some (.int .u8 0), (encByte).size, 1)) rfl (by decide) rfl rfl rfl rfl rfl rfl rl7 rl8 e10 (fun ao9 cap9 rl9 => ?_))
      refine V rfl (ov_nilCheckB rfl rfl) (V rfl (ov_fieldAddr underlying123 rfl rfl rfl sizeOf75 rfl rfl) ?_)
      refine ws0 rfl (os_store (i := 5) (vs := [(.slice ao9 ((l3 ++ ([(UInt8.ofNat (Int.toNat x2.first))] : List UInt8)) ++ ([(UInt8.ofNat (Int.toNat x2.second))] : List UInt8)).length cap9)]) (cs' := [(pB b3 0), (.slice ao9 ((l3 ++ ([(UInt8.ofNat (Int.toNat x2.first))] : List UInt8)) ++ ([(UInt8.ofNat (Int.toNat x2.second))] : List UInt8)).length cap9)]) sizeOf75 rfl rfl rfl rfl rfl rfl rfl rfl rfl ?_)
      refine WL.nil (tn (WP.seq (WP.region (Va rfl (WL.nil (tn (WP.ret ?_)))))))
      refine retQ_ret (v := .nilIface) results52 (Res.tmp rfl Res.nil) rfl (fun w' s => ⟨_, ?_, s⟩)
      refine WL.nil ?_
      refine retQ_end (v := (.tuple #[])) results53 Res.nil rfl (fun w' s => ⟨_, ?_, s⟩)
      refine WL.nil (bn (tn (WP.region (V rfl (ov_add rfl rfl rfl) (Vm rfl (WL.nil (tn ?_)))))))
      exact ⟨(IntKind.wrap .i64 (i2 + 1)), ((l3 ++ ([(UInt8.ofNat (Int.toNat x2.first))] : List UInt8)) ++ ([(UInt8.ofNat (Int.toNat x2.second))] : List UInt8)), ao9, cap9, ((xs2 ++ [(.int .u8 x2.first)]) ++ [(.int .u8 x2.second)]), rl9, (Sub.all rfl), fun w' s => (s.select [4, 5] (by decide) rfl), hm⟩
     replace hm := ite_f hc6 hm
     refine WP.exit (then_exit (then_exit (block_here (tn ?_))))
     exact ⟨l3, ao7, cap7, xs2, rl5, (Sub.all rfl), fun w' s => s, hm⟩
    rintro g' S' ⟨l6, ao10, cap10, xs3, rl10, hsub3, hS3, hm⟩
    refine WP.sub hsub3 (WP.weaken hS3 ?_)
    replace hm := (congrFun hk3 l6).symm.trans hm
    refine WP.region (Vm rfl (Vm rfl ?_))
    have h3 := sv1
    have h9 := sv2
    have h4 := sv3
    have h1 := sv4
    have rl2 := sv5
    have hG := sv6
    refine ws rfl (os_bstring_in s1 (i := 1) (j := 0) rfl rfl rfl rfl (.inr rfl) rl10 ?_)
    have rl11 : RL H1 encStr ([l6] : List (List UInt8)) [(mkS l6)] := RL.cons (cs := [(mkS l6)]) (xs := []) rfl (RL.nil _ _)
    refine ws rfl (os_buildSlice (cs := [(mkS l6)]) (E := 9) (sz := 1) rfl rfl (fun _ => by kernel_rfl) rfl (by decide) (fun b8 => ?_))
    obtain ⟨l7, e11, hm⟩ := bind_some hm
    refine ws rfl (os_app (i := 1) (j := 0) (En := encStr) (xs := xs1) (ys := [(mkS l6)]) underlying27 (by kernel_rfl : (prog.info? 9).map (fun i => (i.zero, i.size, i.bytes)) = some (some (mkS []), (encStr).size, 16)) rfl (by decide) rfl rfl rfl rfl rfl rfl rl2 rl11 e11 (fun ao11 cap11 rl12 => ?_))
    refine Va rfl (WL.nil (bn (tn ?_)))
    exact ⟨(l1 ++ ([l6] : List (List UInt8))), ao11, cap11, (xs1 ++ [(mkS l6)]), rl12, (Sub.all rfl), fun w' s => (s.select [1, 2] (by decide) rfl), hm⟩
   rintro g' S' ⟨l8, ao12, cap12, xs4, rl13, hsub4, hS4, hm⟩
   refine WP.sub hsub4 (WP.weaken hS4 ?_)
   replace hm := (congrFun hk2 l8).symm.trans hm
   refine WP.region (V rfl (ov_add rfl rfl rfl) (Vm rfl (WL.nil (tn ?_))))
   exact ⟨(IntKind.wrap .i64 (i1 + 1)), l8, ao12, cap12, xs4, rl13, (Sub.all rfl), fun w' s => s, hm⟩
  replace hm := ite_f hc4 hm
  refine WP.exit (then_exit (then_exit (block_here (tn ?_))))
  exact ⟨H1, l1, ao4, cap4, xs1, hle1, rl2, (Sub.all rfl), fun w' s => s, hm⟩
 rintro g' S' ⟨H2, l9, ao13, cap13, xs5, hle2, rl14, hsub5, hS5, hm⟩
 refine WP.sub hsub5 (WP.weaken hS5 ?_)
 replace hm := (congrFun hk1 l9).symm.trans hm
 replace h1 := h1.mono hle2
 replace hG := hG.mono hle2
 refine WP.seq (WP.region (Vm rfl (Va rfl (WL.nil (tn (WP.ret ?_))))))
 refine retQ_ret (v := (.slice ao13 l9.length cap13)) results49 (Res.tmp rfl Res.nil) rfl (fun w' s => ⟨_, ?_, s⟩)
 refine Va rfl (WL.nil (tn ?_))
 obtain ⟨k4, hk4, hm⟩ := joinK_some hm
 refine WP.seq_join (fun g' S' => ∃ (l15 : (List (List UInt8))) (ao20 : Option Addr) (cap20 : Nat) (xs8 : List Value), RL H2 encStr l15 xs8 ∧ Sub [(3, (.slice ao20 l15.length cap20)), (1000000007, (.bool false))] g' ∧ (∀ w', S' w' → St w H [.row 9 (encStr).size l15.length (.slice ao20 l15.length cap20) xs8] H2 w') ∧ k4 l15 = some r) ?_ ?_
 ·
  refine WP.seq (WP.region (V rfl (ov_fieldAddr underlying24 rfl rfl rfl sizeOf22 rfl rfl) (Vl 1 isAgg22 rfl ?_)))
  obtain ⟨r3, e12, hm⟩ := bind_some hm
  refine wo rfl (oq_con (r := (.bool r3)) call80 rfl rfl (fun w' s => ⟨_, (slices_ContainsFunc_api_Stepapi_Step_diagram_draw_1_con p_s.steps ao1 cap1  w' H2 s.hold h1 hc1 hG r3 e12)⟩)) ?_
  refine WL.nil (tn ?_)
  refine WP.cond rfl (fun hc7 => ?_) (fun hc7 => ?_)
  ·
   replace hm := ite_t hc7 hm
   refine WP.seq (WP.region (V rfl (ov_build (r := (.agg #[(.pointer none), (.slice none 0 0)])) rfl rfl (fun _ => by kernel_rfl)) ?_))
   refine WL.within (fun w2 s3 => ?_)
   have sv7 := h1
   replace h1 := h1.mono s3.hold
   have sv8 := rl14
   replace rl14 := rl14.mono s3.hold
   have sv9 := hG
   replace hG := hG.mono s3.hold
   have h16 : RowAt (hp w2) (some ⟨b1, 0, none⟩) 0 [(.int .i64 p_s.actuators), (.slice ao1 p_s.steps.length cap1)] := s3.box_row (i := 1) rfl
   refine ws rfl (os_box (cs := [(.pointer none), (.slice none 0 0)]) rfl rfl rfl (fun b9 => ?_))
   refine Va rfl (WL.nil (tn (WP.seq (WP.region (Vm rfl ?_)))))
   refine ws rfl (os_inline (cap := []) (vs := [(pB b9 0), (mkS [84])]) call82 rfl rfl rfl func82 rfl 19 ntmps82 rfl (fun w' s => ?_))
   refine WP.seq (WP.region (Va rfl (Va rfl (WL.nil (tn (WP.seq (WP.region (Vm rfl ?_))))))))
   refine ws rfl (os_copyCheck (i := 0) rfl rfl rfl (.inl rfl) ?_)
   refine WL.nil (tn (WP.seq (WP.region (Vm rfl (Vm rfl (V rfl (ov_nilCheckB rfl rfl) (V rfl (ov_fieldAddr underlying123 rfl rfl rfl sizeOf75 rfl rfl) (Vl 0 isAgg75 rfl (Vm rfl ?_)))))))))
   have rl15 := RL.nil (α := UInt8) (hp w2) encByte
   refine WL.weaken (fun _ s => s.nilrow 5 (encByte).size) ?_
   obtain ⟨l10, e13, hm⟩ := bind_some hm
   refine ws rfl (os_app_str (i := 0) (xs := []) underlying75 underlying9 (by kernel_rfl : (prog.info? 5).map (fun i => (i.zero, i.size, i.bytes)) = some (some (.int .u8 0), 1, 1)) rfl rfl rfl rfl rl15 e13 (fun ao14 cap14 ys2 rl16 => ?_))
   refine V rfl (ov_nilCheckB rfl rfl) (V rfl (ov_fieldAddr underlying123 rfl rfl rfl sizeOf75 rfl rfl) ?_)
   refine ws0 rfl (os_store (i := 1) (vs := [(.slice ao14 (([] : List UInt8) ++ [84]).length cap14)]) (cs' := [(pB b9 0), (.slice ao14 (([] : List UInt8) ++ [84]).length cap14)]) sizeOf75 rfl rfl rfl rfl rfl rfl rfl rfl rfl ?_)
   refine WL.nil (tn (WP.seq (WP.region (Vm rfl (V rfl (ov_len_string underlying9 rfl rfl) (Va rfl (Va rfl (WL.nil (tn (WP.ret ?_))))))))))
   refine retQ_ret (v := (.tuple #[(.int .i64 (([84] : List UInt8).length : Int)), .nilIface])) results82 (Res.tmp rfl (Res.tmp rfl Res.nil)) rfl (fun w' s => ⟨_, ?_, s⟩)
   refine WL.nil (tn ?_)
   obtain ⟨k5, hk5, hm⟩ := joinK_some hm
   refine WP.seq_join (fun g' S' => ∃ (l13 : (List UInt8)) (ao18 : Option Addr) (cap18 : Nat) (xs7 : List Value), RL (hp w2) encByte l13 xs7 ∧ Sub [(3, (.slice ao13 l9.length cap13)), (4, (pB b9 0)), (1000000007, (.bool false))] g' ∧ (∀ w', S' w' → St w2 (hp w2) [.row 5 (encByte).size l13.length (.slice ao18 l13.length cap18) xs7, .blk b9 123 [(pB b9 0), (.slice ao18 l13.length cap18)]] (hp w2) w') ∧ k5 l13 = some r) ?_ ?_
   ·
    refine WP.seq (WP.region (V rfl (ov_fieldAddrE (ao := (some ⟨b1, 0, none⟩)) (k := 0) underlying24 rfl rfl rfl sizeOf22 rfl rfl) ?_))
    refine V rfl (ov_load_elem (v := (.slice ao1 p_s.steps.length cap1)) isAgg22 rfl rfl (h16.one (off := 1) rfl)) (V rfl (ov_len_slice underlying22 rfl rfl) (Vm rfl (WL.nil (tn (WP.block ?_)))))
    refine WP.loop (fun m3 g' S' => ∃ (i3 : Int) (l11 : (List UInt8)) (ao15 : Option Addr) (cap15 : Nat) (xs6 : List Value), RL (hp w2) encByte l11 xs6 ∧ Sub [(3, (.slice ao13 l9.length cap13)), (4, (pB b9 0)), (17, (.slice ao1 p_s.steps.length cap1)), (18, (.int .i64 (p_s.steps.length : Int))), (19, (.int .i64 i3)), (1000000007, (.bool false))] g' ∧ (∀ w', S' w' → St w2 (hp w2) [.row 5 (encByte).size l11.length (.slice ao15 l11.length cap15) xs6, .blk b9 123 [(pB b9 0), (.slice ao15 l11.length cap15)]] (hp w2) w') ∧ diagram_draw_loop3 p_s k5 m3 i3 l11 = some r) ((Int.toNat ((p_s.steps.length : Int) - 0) + 1)) ⟨0, (([] : List UInt8) ++ [84]), ao14, cap14, ([] ++ ys2), rl16, (Sub.all rfl), fun w' s => s, hm⟩ ?_ ?_
    ·
     rintro g' S' ⟨_, _, _, _, _, _, _, _, hm⟩
     exact none_some hm
    rintro m3 g' S' ⟨i3, l11, ao15, cap15, xs6, rl17, hsub6, hS6, hm⟩
    refine WP.sub hsub6 (WP.weaken hS6 ?_)
    rw [diagram_draw_loop3] at hm
    refine WP.seq (WP.region (V rfl (ov_lss rfl rfl rfl) (WL.nil (tn (WP.seq ?_)))))
    refine WP.cond rfl (fun hc8 => ?_) (fun hc8 => ?_)
    ·
     replace hm := ite_t hc8 hm
     refine WP.skip (tn (WP.seq (WP.block (WP.seq (WP.region ?_)))))
     obtain ⟨x3, e14, hm⟩ := bind_some hm
     obtain ⟨h18, h19, h20, cs3, h21, h22⟩ := h1.get e14 (by decide)
     obtain ⟨ao16, cap16, rfl, h17, hc9⟩ := h21
     refine V rfl (ov_indexAddr underlying22 sizeOf45 rfl rfl rfl h18 h19 h20) (V rfl (ov_load_elems (vs := [(.slice ao16 x3.strokes.length cap16), (.int .i64 x3.wait)]) isAgg45 sizeOf45 rfl rfl rfl h22 h20) ?_)
     refine ws rfl (os_alloc (cs := [(.slice none 0 0), (.int .i64 0)]) zeroValue45 rfl rfl (fun b10 => ?_))
     refine ws0 rfl (os_store (i := 0) (vs := [(.slice ao16 x3.strokes.length cap16), (.int .i64 x3.wait)]) (cs' := [(.slice ao16 x3.strokes.length cap16), (.int .i64 x3.wait)]) sizeOf45 rfl rfl rfl rfl rfl rfl rfl rfl rfl ?_)
     refine WL.nil (tn (WP.region (Vm rfl (V rfl (ov_fieldAddr underlying45 rfl rfl rfl sizeOf3 rfl rfl) (Vl 0 isAgg3 rfl ?_)))))
     obtain ⟨r4, e15, hm⟩ := bind_some hm
     refine wo rfl (oq_con (r := (mkS r4)) call83 rfl rfl (fun w' s => ⟨_, (itoa_con x3.wait  w' (hp w2) s.hold hG r4 e15)⟩)) ?_
     obtain ⟨s4, e16, hm⟩ := bind_some hm
     refine V rfl (ov_sadd' e16 rfl rfl rfl) ?_
     refine ws rfl (os_inline (cap := []) (vs := [(pB b9 0), (mkS s4)]) call82 rfl rfl rfl func82 rfl 19 ntmps82 rfl (fun w' s => ?_))
     refine WP.seq (WP.region (Va rfl (Va rfl (WL.nil (tn (WP.seq (WP.region (Vm rfl ?_))))))))
     refine ws rfl (os_copyCheck (i := 2) rfl rfl rfl (.inr rfl) ?_)
     refine WL.nil (tn (WP.seq (WP.region (Vm rfl (Vm rfl (V rfl (ov_nilCheckB rfl rfl) (V rfl (ov_fieldAddr underlying123 rfl rfl rfl sizeOf75 rfl rfl) (Vl 2 isAgg75 rfl (Vm rfl ?_)))))))))
     obtain ⟨l12, e17, hm⟩ := bind_some hm
     refine ws rfl (os_app_str (i := 1) (xs := xs6) underlying75 underlying9 (by kernel_rfl : (prog.info? 5).map (fun i => (i.zero, i.size, i.bytes)) = some (some (.int .u8 0), 1, 1)) rfl rfl rfl rfl rl17 e17 (fun ao17 cap17 ys3 rl18 => ?_))
     refine V rfl (ov_nilCheckB rfl rfl) (V rfl (ov_fieldAddr underlying123 rfl rfl rfl sizeOf75 rfl rfl) ?_)
     refine ws0 rfl (os_store (i := 2) (vs := [(.slice ao17 (l11 ++ s4).length cap17)]) (cs' := [(pB b9 0), (.slice ao17 (l11 ++ s4).length cap17)]) sizeOf75 rfl rfl rfl rfl rfl rfl rfl rfl rfl ?_)
     refine WL.nil (tn (WP.seq (WP.region (Vm rfl (V rfl (ov_len_string underlying9 rfl rfl) (Va rfl (Va rfl (WL.nil (tn (WP.ret ?_))))))))))
     refine retQ_ret (v := (.tuple #[(.int .i64 (s4.length : Int)), .nilIface])) results82 (Res.tmp rfl (Res.tmp rfl Res.nil)) rfl (fun w' s => ⟨_, ?_, s⟩)
     refine WL.nil (bn (tn (WP.region (V rfl (ov_add rfl rfl rfl) (Vm rfl (WL.nil (tn ?_)))))))
     exact ⟨(IntKind.wrap .i64 (i3 + 1)), (l11 ++ s4), ao17, cap17, (xs6 ++ ys3), rl18, (Sub.all rfl), fun w' s => (s.select [1, 2] (by decide) rfl), hm⟩
    replace hm := ite_f hc8 hm
    refine WP.exit (then_exit (then_exit (block_here (tn ?_))))
    exact ⟨l11, ao15, cap15, xs6, rl17, (Sub.all rfl), fun w' s => s, hm⟩
   rintro g' S' ⟨l13, ao18, cap18, xs7, rl19, hsub7, hS7, hm⟩
   refine WP.sub hsub7 (WP.weaken hS7 ?_)
   replace hm := (congrFun hk5 l13).symm.trans hm
   refine WP.region (Vm rfl (Vm rfl ?_))
   have h1 := sv7
   have rl14 := sv8
   have hG := sv9
   refine ws rfl (os_bstring_in s3 (i := 1) (j := 0) rfl rfl rfl rfl (.inr rfl) rl19 ?_)
   have rl20 : RL H2 encStr ([l13] : List (List UInt8)) [(mkS l13)] := RL.cons (cs := [(mkS l13)]) (xs := []) rfl (RL.nil _ _)
   refine ws rfl (os_buildSlice (cs := [(mkS l13)]) (E := 9) (sz := 1) rfl rfl (fun _ => by kernel_rfl) rfl (by decide) (fun b11 => ?_))
   obtain ⟨l14, e18, hm⟩ := bind_some hm
   refine ws rfl (os_app (i := 1) (j := 0) (En := encStr) (xs := xs5) (ys := [(mkS l13)]) underlying27 (by kernel_rfl : (prog.info? 9).map (fun i => (i.zero, i.size, i.bytes)) = some (some (mkS []), (encStr).size, 16)) rfl (by decide) rfl rfl rfl rfl rfl rfl rl14 rl20 e18 (fun ao19 cap19 rl21 => ?_))
   refine Va rfl (WL.nil (tn ?_))
   exact ⟨(l9 ++ ([l13] : List (List UInt8))), ao19, cap19, (xs5 ++ [(mkS l13)]), rl21, (Sub.all rfl), fun w' s => (s.select [1] (by decide) rfl), hm⟩
  replace hm := ite_f hc7 hm
  refine WP.skip (tn ?_)
  exact ⟨l9, ao13, cap13, xs5, rl14, (Sub.all rfl), fun w' s => (s.select [0] (by decide) rfl), hm⟩
 rintro g' S' ⟨l15, ao20, cap20, xs8, rl22, hsub8, hS8, hm⟩
 refine WP.sub hsub8 (WP.weaken hS8 ?_)
 replace hm := (congrFun hk4 l15).symm.trans hm
 refine WP.seq (WP.region (Vm rfl (Va rfl (WL.nil (tn (WP.ret ?_))))))
 obtain rfl := Option.some.inj hm
 refine retQ_ret results41 (Res.tmp rfl Res.nil) rfl (fun w' s => ⟨s.below, ?_⟩)
 obtain ⟨h23, hc10⟩ := s.ret_row (i := 0) rfl rl22
 exact ⟨ao20, cap20, rfl, h23, hc10⟩
theorem diagram_Draw_con (p_s : Sequence) (ao1 : Option Addr) (cap1 : Nat) (w : World) (H : Heap) (hH : Le H (hp w)) (h1 : SL H encStep ao1 p_s.steps) (hc1 : p_s.steps.length ≤ cap1) (hG : Glob H) (r : ((List (List UInt8)) × Int)) (hm : diagram_Draw p_s = some r) :
  Con prog 13 [(.agg #[(.int .i64 p_s.actuators), (.slice ao1 p_s.steps.length cap1)])] w H (fun v H' => ∃ (ao2 : Option Addr) (cap2 : Nat), v = (.tuple #[(.slice ao2 r.1.length cap2), (.int .i64 r.2)]) ∧ SL H' encStr ao2 r.1 ∧ r.1.length ≤ cap2) := by
 unfold diagram_Draw at hm
 refine con_of hH func13 rfl 12 ntmps13 rfl ?_
 refine WP.seq (WP.region ?_)
 refine ws rfl (os_box (cs := [(.int .i64 p_s.actuators), (.slice ao1 p_s.steps.length cap1)]) rfl rfl rfl (fun b1 => ?_))
 refine Va rfl (Va rfl (WL.nil (tn (WP.seq (WP.seq (WP.region (V rfl (ov_load_whole (i := 0) isAgg24 sizeOf24 rfl rfl rfl rfl) ?_)))))))
 obtain ⟨r1, e1, hm⟩ := bind_some hm
 refine wo rfl (oq_con (r := (.int .i64 r1)) call40 rfl rfl (fun w' s => ⟨_, (sequence_Check_con p_s ao1 cap1  w' H s.hold h1 hc1 hG r1 e1)⟩)) ?_
 refine Va rfl (WL.nil (tn (WP.seq (WP.region (Vm rfl (V rfl (ov_neq rfl rfl rfl) (WL.nil (tn ?_))))))))
 refine WP.cond rfl (fun hc3 => ?_) (fun hc3 => ?_)
 ·
  replace hm := ite_t hc3 hm
  refine WP.seq (WP.region (Vm rfl (Va rfl (Va rfl (WL.nil (tn (WP.ret (then_ret ?_))))))))
  obtain rfl := Option.some.inj hm
  refine retQ_ret results13 (Res.tmp rfl (Res.tmp rfl Res.nil)) rfl (fun w' s => ⟨s.below, ?_⟩)
  exact ⟨none, 0, rfl, SL.nil _ _ _, Nat.le_refl _⟩
 replace hm := ite_f hc3 hm
 refine WP.skip (tn (WP.seq (WP.region (V rfl (ov_load_whole (i := 0) isAgg24 sizeOf24 rfl rfl rfl rfl) ?_))))
 obtain ⟨r2, e2, hm⟩ := bind_some hm
 refine ws rfl (os_con call41 rfl rfl (fun w' s => (diagram_draw_con p_s ao1 cap1  w' H s.hold h1 hc1 hG r2 e2)) (fun rr1 H1 hle1 hR1 => ?_))
 obtain ⟨ao3, cap3, rfl, h3, hc4⟩ := hR1
 refine Va rfl (Va rfl (WL.nil (tn (WP.ret ?_))))
 obtain rfl := Option.some.inj hm
 refine retQ_ret results13 (Res.tmp rfl (Res.tmp rfl Res.nil)) rfl (fun w' s => ⟨s.below, ?_⟩)
 exact ⟨ao3, cap3, rfl, h3.mono s.le_newer, hc4⟩
theorem diagram_Column_con (p_s : Sequence) (p_k : Int) (ao1 : Option Addr) (cap1 : Nat) (w : World) (H : Heap) (hH : Le H (hp w)) (h1 : SL H encStep ao1 p_s.steps) (hc1 : p_s.steps.length ≤ cap1) (hG : Glob H) (r : ((List UInt8) × Int)) (hm : diagram_Column p_s p_k = some r) :
  Con prog 15 [(.agg #[(.int .i64 p_s.actuators), (.slice ao1 p_s.steps.length cap1)]), (.int .i64 p_k)] w H (fun v _ => v = (.tuple #[(mkS r.1), (.int .i64 r.2)])) := by
 unfold diagram_Column at hm
 refine con_of hH func15 rfl 42 ntmps15 rfl ?_
 refine WP.seq (WP.region ?_)
 refine ws rfl (os_box (cs := [(.int .i64 p_s.actuators), (.slice ao1 p_s.steps.length cap1)]) rfl rfl rfl (fun b1 => ?_))
 refine Va rfl (Va rfl (WL.nil (tn (WP.seq (WP.seq (WP.region (V rfl (ov_load_whole (i := 0) isAgg24 sizeOf24 rfl rfl rfl rfl) ?_)))))))
 obtain ⟨r1, e1, hm⟩ := bind_some hm
 refine wo rfl (oq_con (r := (.int .i64 r1)) call40 rfl rfl (fun w' s => ⟨_, (sequence_Check_con p_s ao1 cap1  w' H s.hold h1 hc1 hG r1 e1)⟩)) ?_
 refine Va rfl (WL.nil (tn (WP.seq (WP.region (Vm rfl (V rfl (ov_neq rfl rfl rfl) (WL.nil (tn ?_))))))))
 refine WP.cond rfl (fun hc2 => ?_) (fun hc2 => ?_)
 ·
  replace hm := ite_t hc2 hm
  refine WP.seq (WP.region (Vm rfl (Va rfl (Va rfl (WL.nil (tn (WP.ret (then_ret ?_))))))))
  obtain rfl := Option.some.inj hm
  refine retQ_ret results15 (Res.tmp rfl (Res.tmp rfl Res.nil)) rfl (fun w' s => ⟨s.below, ?_⟩)
  exact rfl
 replace hm := ite_f hc2 hm
 refine WP.skip (tn (WP.seq (WP.seq (WP.region (Vm rfl (V rfl (ov_lss rfl rfl rfl) (Vm rfl ?_)))))))
 refine WL.cut_bool 6 23 (x := ((decide (p_k < 0)) || (decide (p_k ≥ (p_s.steps.length : Int))))) ?_ ?_
 ·
  rcases Bool.eq_false_or_eq_true (decide (p_k < 0)) with hc3 | hc3
  ·
   refine Vi rfl (Idle.no rfl rfl rfl hc3) (Vi rfl (Idle.no rfl rfl rfl hc3) (Vi rfl (Idle.no rfl rfl rfl hc3) (Vi rfl (Idle.no rfl rfl rfl hc3) (Vi rfl (Idle.no rfl rfl rfl hc3) (V rfl (ov_pick_true rfl (guard_eq rfl hc3) rfl) ?_)))))
   exact WL.nil ⟨Sub.cons' rfl (congrArg Value.bool (orT hc3)) (Sub.dropn 6 rfl), fun _ s => s⟩
  refine wy hc3 rfl (ov_move rfl rfl) ?_
  refine wy hc3 rfl (ov_fieldAddr underlying24 rfl rfl rfl sizeOf22 rfl rfl) ?_
  refine wy hc3 rfl (ov_load_box (i := 0) isAgg22 rfl rfl rfl rfl) ?_
  refine wy hc3 rfl (ov_len_slice underlying22 rfl rfl) ?_
  refine wy hc3 rfl (ov_geq rfl rfl rfl) ?_
  refine V rfl (ov_pick_false rfl (guard_eq rfl hc3) rfl) ?_
  exact WL.nil ⟨Sub.cons' rfl (congrArg Value.bool (orF hc3)) (Sub.dropn 6 rfl), fun _ s => s⟩
 refine WL.nil (tn ?_)
 refine WP.cond rfl (fun hc4 => ?_) (fun hc4 => ?_)
 ·
  replace hm := ite_t hc4 hm
  refine WP.seq (WP.region (Va rfl (Va rfl (WL.nil (tn (WP.ret (then_ret ?_)))))))
  obtain rfl := Option.some.inj hm
  refine retQ_ret results15 (Res.tmp rfl (Res.tmp rfl Res.nil)) rfl (fun w' s => ⟨s.below, ?_⟩)
  exact rfl
 replace hm := ite_f hc4 hm
 refine WP.skip (tn (WP.seq (WP.region (Va rfl (WL.nil (tn ?_))))))
 obtain ⟨k1, hk1, hm⟩ := joinK_some hm
 refine WP.seq_join (fun g' S' => ∃ (H2 : Heap) (l3 : (List UInt8)) (ao6 : Option Addr) (cap6 : Nat) (xs2 : List Value), Le H H2 ∧ RL H2 encByte l3 xs2 ∧ Sub [(7, (.slice ao6 l3.length cap6)), (1000000007, (.bool false))] g' ∧ (∀ w', S' w' → St w H [.row 5 (encByte).size l3.length (.slice ao6 l3.length cap6) xs2] H2 w') ∧ k1 l3 = some r) ?_ ?_
 ·
  refine WP.seq (WP.region (V rfl (ov_load_whole (i := 0) isAgg24 sizeOf24 rfl rfl rfl rfl) ?_))
  obtain ⟨r2, e2, hm⟩ := bind_some hm
  refine ws rfl (os_con call43 rfl rfl (fun w' s => (diagram_cells_con p_s ao1 cap1  w' H s.hold h1 hc1 hG r2 e2)) (fun rr1 H1 hle1 hR1 => ?_))
  obtain ⟨ao2, cap2, rfl, h2, hc5⟩ := hR1
  refine V rfl (ov_len_slice underlying76 rfl rfl) (Vm rfl (WL.nil (tn (WP.block ?_))))
  have rl1 := RL.nil (α := UInt8) H1 encByte
  refine WP.weaken (fun _ s => s.nilrow 5 (encByte).size) ?_
  refine WP.loop (fun m1 g' S' => ∃ (i1 : Int) (l1 : (List UInt8)) (ao3 : Option Addr) (cap3 : Nat) (xs1 : List Value), RL H1 encByte l1 xs1 ∧ Sub [(1, (.int .i64 p_k)), (7, (.slice ao3 l1.length cap3)), (25, (.slice ao2 r2.length cap2)), (26, (.int .i64 (r2.length : Int))), (27, (.int .i64 i1)), (1000000007, (.bool false))] g' ∧ (∀ w', S' w' → St w H [.row 5 (encByte).size l1.length (.slice ao3 l1.length cap3) xs1] H1 w') ∧ diagram_Column_loop1 p_k k1 r2 m1 i1 l1 = some r) ((Int.toNat ((r2.length : Int) - 0) + 1)) ⟨0, ([] : List UInt8), none, 0, [], rl1, (Sub.all rfl), fun w' s => (s.select [0] (by decide) rfl), hm⟩ ?_ ?_
  ·
   rintro g' S' ⟨_, _, _, _, _, _, _, _, hm⟩
   exact none_some hm
  rintro m1 g' S' ⟨i1, l1, ao3, cap3, xs1, rl2, hsub1, hS1, hm⟩
  refine WP.sub hsub1 (WP.weaken hS1 ?_)
  rw [diagram_Column_loop1] at hm
  refine WP.seq (WP.region (V rfl (ov_lss rfl rfl rfl) (WL.nil (tn (WP.seq ?_)))))
  refine WP.cond rfl (fun hc6 => ?_) (fun hc6 => ?_)
  ·
   replace hm := ite_t hc6 hm
   refine WP.skip (tn (WP.seq (WP.block (WP.seq (WP.region ?_)))))
   obtain ⟨x1, e3, hm⟩ := bind_some hm
   obtain ⟨h4, h5, h6, cs1, h7, h8⟩ := h2.get e3 (by decide)
   obtain ⟨ao4, cap4, rfl, h3, hc7⟩ := h7
   refine V rfl (ov_indexAddr underlying76 sizeOf78 rfl rfl rfl h4 h5 h6) (V rfl (ov_load_elem (v := (.slice ao4 x1.length cap4)) isAgg78 rfl rfl h8) (Va rfl (WL.nil (tn (WP.region (Vm rfl (Vm rfl (Vm rfl ?_))))))))
   obtain ⟨x2, e4, hm⟩ := bind_some hm
   obtain ⟨h9, h10, h11, cs2, h12, h13⟩ := h3.get e4 (by decide)
   obtain rfl : cs2 = [(.int .u8 x2.first), (.int .u8 x2.second)] := h12
   refine V rfl (ov_indexAddr underlying78 sizeOf80 rfl rfl rfl h9 h10 h11) (V rfl (ov_fieldAddrE underlying80 rfl rfl rfl sizeOf5 rfl rfl) ?_)
   refine V rfl (ov_load_elem (v := (.int .u8 x2.first)) isAgg5 rfl rfl (h13.one (off := 0) rfl)) ?_
   obtain ⟨u1, e5, hm⟩ := bind_some hm
   replace e5 := guardO_some e5
   have rl3 : RL H1 encByte ([(UInt8.ofNat (Int.toNat x2.first))] : List UInt8) [(.int .u8 x2.first)] := RL.byte1 e5
   refine ws rfl (os_buildSlice (cs := [(.int .u8 x2.first)]) (E := 5) (sz := 1) rfl rfl (fun _ => by kernel_rfl) rfl (by decide) (fun b2 => ?_))
   obtain ⟨l2, e6, hm⟩ := bind_some hm
   refine ws rfl (os_app (i := 1) (j := 0) (En := encByte) (xs := xs1) (ys := [(.int .u8 x2.first)]) underlying75 (by kernel_rfl : (prog.info? 5).map (fun i => (i.zero, i.size, i.bytes)) = some (some (.int .u8 0), (encByte).size, 1)) rfl (by decide) rfl rfl rfl rfl rfl rfl rl2 rl3 e6 (fun ao5 cap5 rl4 => ?_))
   refine Va rfl (WL.nil (bn (tn (WP.region (V rfl (ov_add rfl rfl rfl) (Vm rfl (WL.nil (tn ?_))))))))
   exact ⟨(IntKind.wrap .i64 (i1 + 1)), (l1 ++ ([(UInt8.ofNat (Int.toNat x2.first))] : List UInt8)), ao5, cap5, (xs1 ++ [(.int .u8 x2.first)]), rl4, (Sub.all rfl), fun w' s => (s.select [1] (by decide) rfl), hm⟩
  replace hm := ite_f hc6 hm
  refine WP.exit (then_exit (then_exit (block_here (tn ?_))))
  exact ⟨H1, l1, ao3, cap3, xs1, hle1, rl2, (Sub.all rfl), fun w' s => s, hm⟩
 rintro g' S' ⟨H2, l3, ao6, cap6, xs2, hle2, rl5, hsub2, hS2, hm⟩
 refine WP.sub hsub2 (WP.weaken hS2 ?_)
 replace hm := (congrFun hk1 l3).symm.trans hm
 refine WP.seq (WP.region (Vm rfl (V rfl (ov_bytes_str_ownB (i := 0) underlying75 underlying9 underlying5 rl5 rfl rfl rfl) (Va rfl (Va rfl (WL.nil (tn (WP.ret ?_))))))))
 obtain rfl := Option.some.inj hm
 refine retQ_ret results15 (Res.tmp rfl (Res.tmp rfl Res.nil)) rfl (fun w' s => ⟨s.below, ?_⟩)
 exact rfl
theorem diagram_Switches_con (p_s : Sequence) (ao1 : Option Addr) (cap1 : Nat) (w : World) (H : Heap) (hH : Le H (hp w)) (h1 : SL H encStep ao1 p_s.steps) (hc1 : p_s.steps.length ≤ cap1) (hG : Glob H) (r : ((List (List UInt8)) × Int)) (hm : diagram_Switches p_s = some r) :
  Con prog 17 [(.agg #[(.int .i64 p_s.actuators), (.slice ao1 p_s.steps.length cap1)])] w H (fun v H' => ∃ (ao2 : Option Addr) (cap2 : Nat), v = (.tuple #[(.slice ao2 r.1.length cap2), (.int .i64 r.2)]) ∧ SL H' encStr ao2 r.1 ∧ r.1.length ≤ cap2) := by
 unfold diagram_Switches at hm
 refine con_of hH func17 rfl 62 ntmps17 rfl ?_
 refine WP.seq (WP.region ?_)
 refine ws rfl (os_box (cs := [(.int .i64 p_s.actuators), (.slice ao1 p_s.steps.length cap1)]) rfl rfl rfl (fun b1 => ?_))
 refine Va rfl (Va rfl (WL.nil (tn (WP.seq (WP.seq (WP.region (V rfl (ov_load_whole (i := 0) isAgg24 sizeOf24 rfl rfl rfl rfl) ?_)))))))
 obtain ⟨r1, e1, hm⟩ := bind_some hm
 refine wo rfl (oq_con (r := (.int .i64 r1)) call40 rfl rfl (fun w' s => ⟨_, (sequence_Check_con p_s ao1 cap1  w' H s.hold h1 hc1 hG r1 e1)⟩)) ?_
 refine Va rfl (WL.nil (tn (WP.seq (WP.region (Vm rfl (V rfl (ov_neq rfl rfl rfl) (WL.nil (tn ?_))))))))
 refine WP.cond rfl (fun hc3 => ?_) (fun hc3 => ?_)
 ·
  replace hm := ite_t hc3 hm
  refine WP.seq (WP.region (Vm rfl (Va rfl (Va rfl (WL.nil (tn (WP.ret (then_ret ?_))))))))
  obtain rfl := Option.some.inj hm
  refine retQ_ret results17 (Res.tmp rfl (Res.tmp rfl Res.nil)) rfl (fun w' s => ⟨s.below, ?_⟩)
  exact ⟨none, 0, rfl, SL.nil _ _ _, Nat.le_refl _⟩
 replace hm := ite_f hc3 hm
 refine WP.skip (tn (WP.seq (WP.region (Va rfl (WL.nil (tn ?_))))))
 obtain ⟨k1, hk1, hm⟩ := joinK_some hm
 refine WP.seq_join (fun g' S' => ∃ (H2 : Heap) (l13 : (List (List UInt8))) (ao18 : Option Addr) (cap18 : Nat) (xs13 : List Value), Le H H2 ∧ RL H2 encStr l13 xs13 ∧ Sub [(5, (.slice ao18 l13.length cap18)), (1000000007, (.bool false))] g' ∧ (∀ w', S' w' → St w H [.row 9 (encStr).size l13.length (.slice ao18 l13.length cap18) xs13] H2 w') ∧ k1 l13 = some r) ?_ ?_
 ·
  refine WP.seq (WP.region (V rfl (ov_load_whole (i := 0) isAgg24 sizeOf24 rfl rfl rfl rfl) ?_))
  obtain ⟨r2, e2, hm⟩ := bind_some hm
  refine ws rfl (os_con call43 rfl rfl (fun w' s => (diagram_cells_con p_s ao1 cap1  w' H s.hold h1 hc1 hG r2 e2)) (fun rr1 H1 hle1 hR1 => ?_))
  replace hG := hG.mono hle1
  obtain ⟨ao3, cap3, rfl, h3, hc4⟩ := hR1
  refine V rfl (ov_len_slice underlying76 rfl rfl) (Vm rfl (WL.nil (tn (WP.block ?_))))
  have rl1 := RL.nil (α := (List UInt8)) H1 encStr
  refine WP.weaken (fun _ s => s.nilrow 9 (encStr).size) ?_
  refine WP.loop (fun m1 g' S' => ∃ (i1 : Int) (l1 : (List (List UInt8))) (ao4 : Option Addr) (cap4 : Nat) (xs1 : List Value), RL H1 encStr l1 xs1 ∧ Sub [(5, (.slice ao4 l1.length cap4)), (20, (.slice ao3 r2.length cap3)), (21, (.int .i64 (r2.length : Int))), (22, (.int .i64 i1)), (1000000007, (.bool false))] g' ∧ (∀ w', S' w' → St w H [.row 9 (encStr).size l1.length (.slice ao4 l1.length cap4) xs1] H1 w') ∧ diagram_Switches_loop1 k1 r2 m1 i1 l1 = some r) ((Int.toNat ((r2.length : Int) - 0) + 1)) ⟨0, ([] : List (List UInt8)), none, 0, [], rl1, (Sub.all rfl), fun w' s => (s.select [0] (by decide) rfl), hm⟩ ?_ ?_
  ·
   rintro g' S' ⟨_, _, _, _, _, _, _, _, hm⟩
   exact none_some hm
  rintro m1 g' S' ⟨i1, l1, ao4, cap4, xs1, rl2, hsub1, hS1, hm⟩
  refine WP.sub hsub1 (WP.weaken hS1 ?_)
  rw [diagram_Switches_loop1] at hm
  refine WP.seq (WP.region (V rfl (ov_lss rfl rfl rfl) (WL.nil (tn (WP.seq ?_)))))
  refine WP.cond rfl (fun hc5 => ?_) (fun hc5 => ?_)
  ·
   replace hm := ite_t hc5 hm
   refine WP.skip (tn ?_)
   obtain ⟨k2, hk2, hm⟩ := joinK_some hm
   refine WP.seq_join (fun g' S' => ∃ (l12 : (List (List UInt8))) (ao17 : Option Addr) (cap17 : Nat) (xs12 : List Value), RL H1 encStr l12 xs12 ∧ Sub [(5, (.slice ao17 l12.length cap17)), (20, (.slice ao3 r2.length cap3)), (21, (.int .i64 (r2.length : Int))), (22, (.int .i64 i1)), (1000000007, (.bool false))] g' ∧ (∀ w', S' w' → St w H [.row 9 (encStr).size l12.length (.slice ao17 l12.length cap17) xs12] H1 w') ∧ k2 l12 = some r) ?_ ?_
   ·
    refine WP.block (WP.seq (WP.region (Vm rfl ?_)))
    obtain ⟨x1, e3, hm⟩ := bind_some hm
    obtain ⟨h5, h6, h7, cs1, h8, h9⟩ := h3.get e3 (by decide)
    obtain ⟨ao5, cap5, rfl, h4, hc6⟩ := h8
    refine V rfl (ov_indexAddr underlying76 sizeOf78 rfl rfl rfl h5 h6 h7) (V rfl (ov_load_elem (v := (.slice ao5 x1.length cap5)) isAgg78 rfl rfl h9) (Va rfl (Va rfl (WL.nil (tn (WP.seq (WP.region (V rfl (ov_build (r := (.agg #[(mkS [48]), (mkS [49])])) rfl rfl (fun _ => by kernel_rfl)) (Vm rfl (WL.nil (tn (WP.block ?_))))))))))))
    refine WP.loop (fun m2 g' S' => ∃ (i2 : Int) (l2 : (List (List UInt8))) (ao6 : Option Addr) (cap6 : Nat) (xs2 : List Value), RL H1 encStr l2 xs2 ∧ Sub [(5, (.slice ao6 l2.length cap6)), (6, (.int .i64 i1)), (7, (.slice ao5 x1.length cap5)), (20, (.slice ao3 r2.length cap3)), (21, (.int .i64 (r2.length : Int))), (22, (.int .i64 i1)), (27, (.agg #[(mkS [48]), (mkS [49])])), (28, (.int .i64 i2)), (1000000007, (.bool false))] g' ∧ (∀ w', S' w' → St w H [.row 9 (encStr).size l2.length (.slice ao6 l2.length cap6) xs2] H1 w') ∧ diagram_Switches_loop2 i1 k2 x1 m2 i2 l2 = some r) ((Int.toNat (2 - 0) + 1)) ⟨0, l1, ao4, cap4, xs1, rl2, (Sub.all rfl), fun w' s => s, hm⟩ ?_ ?_
    ·
     rintro g' S' ⟨_, _, _, _, _, _, _, _, hm⟩
     exact none_some hm
    rintro m2 g' S' ⟨i2, l2, ao6, cap6, xs2, rl3, hsub2, hS2, hm⟩
    refine WP.sub hsub2 (WP.weaken hS2 ?_)
    rw [diagram_Switches_loop2] at hm
    refine WP.seq (WP.region (V rfl (ov_lss rfl rfl rfl) (WL.nil (tn (WP.seq ?_)))))
    refine WP.cond rfl (fun hc7 => ?_) (fun hc7 => ?_)
    ·
     replace hm := ite_t hc7 hm
     refine WP.skip (tn ?_)
     obtain ⟨k3, hk3, hm⟩ := joinK_some hm
     refine WP.seq_join (fun g' S' => ∃ (l11 : (List (List UInt8))) (ao16 : Option Addr) (cap16 : Nat) (xs11 : List Value), RL H1 encStr l11 xs11 ∧ Sub [(5, (.slice ao16 l11.length cap16)), (6, (.int .i64 i1)), (7, (.slice ao5 x1.length cap5)), (20, (.slice ao3 r2.length cap3)), (21, (.int .i64 (r2.length : Int))), (22, (.int .i64 i1)), (27, (.agg #[(mkS [48]), (mkS [49])])), (28, (.int .i64 i2)), (1000000007, (.bool false))] g' ∧ (∀ w', S' w' → St w H [.row 9 (encStr).size l11.length (.slice ao16 l11.length cap16) xs11] H1 w') ∧ k3 l11 = some r) ?_ ?_
     ·
      refine WP.block ?_
      obtain ⟨k4, hk4, hm⟩ := joinK_some hm
      refine WP.seq_join (fun g' S' => ∃ (b4 : Nat) (s1 : (List UInt8)), Sub [(5, (.slice ao6 l2.length cap6)), (6, (.int .i64 i1)), (7, (.slice ao5 x1.length cap5)), (8, (pB b4 0)), (9, (mkS s1)), (20, (.slice ao3 r2.length cap3)), (21, (.int .i64 (r2.length : Int))), (22, (.int .i64 i1)), (27, (.agg #[(mkS [48]), (mkS [49])])), (28, (.int .i64 i2)), (1000000007, (.bool false))] g' ∧ (∀ w', S' w' → St w H [.blk b4 3 [(.int .i64 i2)], .row 9 (encStr).size l2.length (.slice ao6 l2.length cap6) xs2] H1 w') ∧ k4 s1 = some r) ?_ ?_
      ·
       refine WP.region (Vm rfl ?_)
       rcases Bool.eq_false_or_eq_true (i2 == 0) with hc8 | hc8
       ·
        replace hm := ite_t hc8 hm
        refine V rfl (ov_index_at (j := 0) (cs := [(mkS [48]), (mkS [49])]) (r := (mkS [48])) (eq_of_beq hc8) rfl rfl rfl (fun _ => by kernel_rfl)) ?_
        refine ws rfl (os_alloc (cs := [(.int .i64 0)]) zeroValue3 rfl rfl (fun b2 => ?_))
        refine ws0 rfl (os_store (i := 0) (vs := [(.int .i64 i2)]) (cs' := [(.int .i64 i2)]) sizeOf3 rfl rfl rfl rfl rfl rfl rfl rfl rfl ?_)
        refine Va rfl (WL.nil (tn ?_))
        exact ⟨b2, [48], (Sub.all rfl), fun w' s => s, hm⟩
       replace hm := ite_f hc8 hm
       rcases Bool.eq_false_or_eq_true (i2 == 1) with hc9 | hc9
       ·
        replace hm := ite_t hc9 hm
        refine V rfl (ov_index_at (j := 1) (cs := [(mkS [48]), (mkS [49])]) (r := (mkS [49])) (eq_of_beq hc9) rfl rfl rfl (fun _ => by kernel_rfl)) ?_
        refine ws rfl (os_alloc (cs := [(.int .i64 0)]) zeroValue3 rfl rfl (fun b3 => ?_))
        refine ws0 rfl (os_store (i := 0) (vs := [(.int .i64 i2)]) (cs' := [(.int .i64 i2)]) sizeOf3 rfl rfl rfl rfl rfl rfl rfl rfl rfl ?_)
        refine Va rfl (WL.nil (tn ?_))
        exact ⟨b3, [49], (Sub.all rfl), fun w' s => s, hm⟩
       replace hm := ite_f hc9 hm
       exact (none_some hm).elim
      rintro g' S' ⟨b4, s1, hsub3, hS3, hm⟩
      refine WP.sub hsub3 (WP.weaken hS3 ?_)
      replace hm := (congrFun hk4 s1).symm.trans hm
      refine WP.seq (WP.region (Vm rfl ?_))
      obtain ⟨r3, e4, hm⟩ := bind_some hm
      refine wo rfl (oq_con (r := (mkS r3)) call45 rfl rfl (fun w' s => ⟨_, (diagram_letter_con i1  w' H1 s.hold hG r3 e4)⟩)) ?_
      refine Vm rfl ?_
      obtain ⟨s2, e5, hm⟩ := bind_some hm
      refine V rfl (ov_sadd' e5 rfl rfl rfl) ?_
      obtain ⟨s3, e6, hm⟩ := bind_some hm
      refine V rfl (ov_sadd' e6 rfl rfl rfl) ?_
      obtain ⟨u1, e7, hm⟩ := bind_some hm
      replace e7 := guardO_some e7
      refine ws rfl (os_bytes_own underlying9 underlying75 underlying5 rfl rfl e7 (fun ao7 cap7 xs3 rl4 => ?_))
      refine ws rfl (os_alloc (cs := [(.slice none 0 0)]) zeroValue75 rfl rfl (fun b5 => ?_))
      refine ws0 rfl (os_store (i := 0) (vs := [(.slice ao7 s3.length cap7)]) (cs' := [(.slice ao7 s3.length cap7)]) sizeOf75 rfl rfl rfl rfl rfl rfl rfl rfl rfl ?_)
      refine WL.nil (tn (WP.seq (WP.region (V rfl (ov_makeFunc' (first := []) rfl rfl rfl) (Va rfl (WL.nil (tn ?_)))))))
      obtain ⟨k5, hk5, hm⟩ := joinK_some hm
      refine WP.seq_join (fun g' S' => ∃ (l5 : (List UInt8)) (ao10 : Option Addr) (cap10 : Nat) (xs6 : List Value), RL H1 encByte l5 xs6 ∧ Sub [(5, (.slice ao6 l2.length cap6)), (6, (.int .i64 i1)), (7, (.slice ao5 x1.length cap5)), (10, (pB b5 0)), (11, (.func (.func 46) #[] #[(pB b4 0), (pB b5 0)])), (20, (.slice ao3 r2.length cap3)), (21, (.int .i64 (r2.length : Int))), (22, (.int .i64 i1)), (27, (.agg #[(mkS [48]), (mkS [49])])), (28, (.int .i64 i2)), (1000000007, (.bool false))] g' ∧ (∀ w', S' w' → St w H [.blk b5 75 [(.slice ao10 l5.length cap10)], .mrow 5 l5.length (.slice ao10 l5.length cap10) xs6, .blk b4 3 [(.int .i64 i2)], .row 9 (encStr).size l2.length (.slice ao6 l2.length cap6) xs2] H1 w') ∧ k5 l5 = some r) ?_ ?_
      ·
       refine WP.region (Vm rfl ?_)
       obtain ⟨x2, e8, hm⟩ := bind_some hm
       obtain ⟨h10, h11, h12, cs2, h13, h14⟩ := hG.1.1.1.get e8 (by decide)
       obtain rfl : cs2 = [(.int .u8 x2)] := h13
       refine V rfl (ov_indexAddr_globL rfl underlying84 sizeOf5 rfl rfl rfl h10 h11) (V rfl (ov_load_elem (v := (.int .u8 x2)) isAgg5 rfl rfl h14) ?_)
       refine ws rfl (os_inline (cap := [(pB b4 0), (pB b5 0)]) (vs := [(.int .u8 x2)]) call46 rfl rfl rfl func46 rfl 15 ntmps46 rfl (fun w' s => ?_))
       refine WP.seq (WP.seq (WP.region (Vm rfl (Vl 2 isAgg3 rfl ?_))))
       obtain ⟨x3, e9, hm⟩ := bind_some hm
       obtain ⟨h15, h16, h17, cs3, h18, h19⟩ := hG.1.1.1.get e9 (by decide)
       obtain rfl : cs3 = [(.int .u8 x3)] := h18
       refine V rfl (ov_indexAddr_globL rfl underlying84 sizeOf5 rfl rfl rfl h15 h16) (V rfl (ov_load_elem (v := (.int .u8 x3)) isAgg5 rfl rfl h19) (V rfl (ov_eql rfl rfl rfl) (WL.nil (tn ?_))))
       refine WP.cond rfl (fun hc10 => ?_) (fun hc10 => ?_)
       ·
        replace hm := ite_t hc10 hm
        refine WP.seq (WP.region (Vl 0 isAgg75 rfl ?_))
        have rl5 : RL H1 encByte ([35] : List UInt8) [(.int .u8 35)] := RL.one rfl
        refine ws rfl (os_buildSlice (cs := [(.int .u8 35)]) (E := 5) (sz := 1) rfl rfl (fun _ => by kernel_rfl) rfl (by decide) (fun b6 => ?_))
        obtain ⟨l3, e10, hm⟩ := bind_some hm
        refine ws rfl (os_app_m (i := 2) (j := 0) underlying75 (by kernel_rfl : (prog.info? 5).map (fun i => (i.zero, i.size, i.bytes)) = some (some (.int .u8 0), 1, 1)) rfl rfl rfl rfl rfl rl4 rl5 e10 (fun ao8 cap8 xs4 rl6 => ?_))
        refine ws0 rfl (os_store (i := 1) (vs := [(.slice ao8 (s3 ++ ([35] : List UInt8)).length cap8)]) (cs' := [(.slice ao8 (s3 ++ ([35] : List UInt8)).length cap8)]) sizeOf75 rfl rfl rfl rfl rfl rfl rfl rfl rfl ?_)
        refine WL.nil (tn (WP.ret (then_ret ?_)))
        refine retQ_ret (v := (.tuple #[])) results46 Res.nil rfl (fun w' s => ⟨_, ?_, s⟩)
        refine WL.nil (tn ?_)
        exact ⟨(s3 ++ ([35] : List UInt8)), ao8, cap8, xs4, rl6, (Sub.all rfl), fun w' s => (s.select [1, 2, 3, 4] (by decide) rfl), hm⟩
       replace hm := ite_f hc10 hm
       refine WP.skip (tn (WP.region (Vl 0 isAgg75 rfl ?_)))
       have rl7 : RL H1 encByte ([46] : List UInt8) [(.int .u8 46)] := RL.one rfl
       refine ws rfl (os_buildSlice (cs := [(.int .u8 46)]) (E := 5) (sz := 1) rfl rfl (fun _ => by kernel_rfl) rfl (by decide) (fun b7 => ?_))
       obtain ⟨l4, e11, hm⟩ := bind_some hm
       refine ws rfl (os_app_m (i := 2) (j := 0) underlying75 (by kernel_rfl : (prog.info? 5).map (fun i => (i.zero, i.size, i.bytes)) = some (some (.int .u8 0), 1, 1)) rfl rfl rfl rfl rfl rl4 rl7 e11 (fun ao9 cap9 xs5 rl8 => ?_))
       refine ws0 rfl (os_store (i := 1) (vs := [(.slice ao9 (s3 ++ ([46] : List UInt8)).length cap9)]) (cs' := [(.slice ao9 (s3 ++ ([46] : List UInt8)).length cap9)]) sizeOf75 rfl rfl rfl rfl rfl rfl rfl rfl rfl ?_)
       refine WL.nil ?_
       refine retQ_end (v := (.tuple #[])) results46 Res.nil rfl (fun w' s => ⟨_, ?_, s⟩)
       refine WL.nil (tn ?_)
       exact ⟨(s3 ++ ([46] : List UInt8)), ao9, cap9, xs5, rl8, (Sub.all rfl), fun w' s => (s.select [1, 2, 3, 4] (by decide) rfl), hm⟩
      rintro g' S' ⟨l5, ao10, cap10, xs6, rl9, hsub4, hS4, hm⟩
      refine WP.sub hsub4 (WP.weaken hS4 ?_)
      replace hm := (congrFun hk5 l5).symm.trans hm
      obtain ⟨k6, hk6, hm⟩ := joinK_some hm
      refine WP.seq_join (fun g' S' => ∃ (l9 : (List UInt8)) (ao14 : Option Addr) (cap14 : Nat) (xs10 : List Value), RL H1 encByte l9 xs10 ∧ Sub [(5, (.slice ao6 l2.length cap6)), (6, (.int .i64 i1)), (7, (.slice ao5 x1.length cap5)), (10, (pB b5 0)), (20, (.slice ao3 r2.length cap3)), (21, (.int .i64 (r2.length : Int))), (22, (.int .i64 i1)), (27, (.agg #[(mkS [48]), (mkS [49])])), (28, (.int .i64 i2)), (1000000007, (.bool false))] g' ∧ (∀ w', S' w' → St w H [.blk b5 75 [(.slice ao14 l9.length cap14)], .mrow 5 l9.length (.slice ao14 l9.length cap14) xs10, .row 9 (encStr).size l2.length (.slice ao6 l2.length cap6) xs2] H1 w') ∧ k6 l9 = some r) ?_ ?_
      ·
       refine WP.seq (WP.region (Vm rfl (V rfl (ov_len_slice underlying78 rfl rfl) (Vm rfl (WL.nil (tn (WP.block ?_)))))))
       refine WP.loop (fun m3 g' S' => ∃ (i3 : Int) (l6 : (List UInt8)) (ao11 : Option Addr) (cap11 : Nat) (xs7 : List Value), RL H1 encByte l6 xs7 ∧ Sub [(5, (.slice ao6 l2.length cap6)), (6, (.int .i64 i1)), (7, (.slice ao5 x1.length cap5)), (10, (pB b5 0)), (11, (.func (.func 46) #[] #[(pB b4 0), (pB b5 0)])), (20, (.slice ao3 r2.length cap3)), (21, (.int .i64 (r2.length : Int))), (22, (.int .i64 i1)), (27, (.agg #[(mkS [48]), (mkS [49])])), (28, (.int .i64 i2)), (43, (.slice ao5 x1.length cap5)), (44, (.int .i64 (x1.length : Int))), (45, (.int .i64 i3)), (1000000007, (.bool false))] g' ∧ (∀ w', S' w' → St w H [.blk b5 75 [(.slice ao11 l6.length cap11)], .mrow 5 l6.length (.slice ao11 l6.length cap11) xs7, .blk b4 3 [(.int .i64 i2)], .row 9 (encStr).size l2.length (.slice ao6 l2.length cap6) xs2] H1 w') ∧ diagram_Switches_loop3 x1 i2 k6 m3 i3 l6 = some r) ((Int.toNat ((x1.length : Int) - 0) + 1)) ⟨0, l5, ao10, cap10, xs6, rl9, (Sub.all rfl), fun w' s => s, hm⟩ ?_ ?_
       ·
        rintro g' S' ⟨_, _, _, _, _, _, _, _, hm⟩
        exact none_some hm
       rintro m3 g' S' ⟨i3, l6, ao11, cap11, xs7, rl10, hsub5, hS5, hm⟩
       refine WP.sub hsub5 (WP.weaken hS5 ?_)
       rw [diagram_Switches_loop3] at hm
       refine WP.seq (WP.region (V rfl (ov_lss rfl rfl rfl) (WL.nil (tn (WP.seq ?_)))))
       refine WP.cond rfl (fun hc11 => ?_) (fun hc11 => ?_)
       ·
        replace hm := ite_t hc11 hm
        refine WP.skip (tn (WP.seq (WP.block (WP.seq (WP.region ?_)))))
        obtain ⟨x4, e12, hm⟩ := bind_some hm
        obtain ⟨h20, h21, h22, cs4, h23, h24⟩ := h4.get e12 (by decide)
        obtain rfl : cs4 = [(.int .u8 x4.first), (.int .u8 x4.second)] := h23
        refine V rfl (ov_indexAddr underlying78 sizeOf80 rfl rfl rfl h20 h21 h22) (V rfl (ov_load_elems (vs := [(.int .u8 x4.first), (.int .u8 x4.second)]) isAgg80 sizeOf80 rfl rfl rfl h24 h22) ?_)
        refine ws rfl (os_alloc (cs := [(.int .u8 0), (.int .u8 0)]) zeroValue80 rfl rfl (fun b8 => ?_))
        refine ws0 rfl (os_store (i := 0) (vs := [(.int .u8 x4.first), (.int .u8 x4.second)]) (cs' := [(.int .u8 x4.first), (.int .u8 x4.second)]) sizeOf80 rfl rfl rfl rfl rfl rfl rfl rfl rfl ?_)
        refine WL.nil (tn (WP.region (Vm rfl (V rfl (ov_fieldAddr underlying80 rfl rfl rfl sizeOf5 rfl rfl) (Vl 0 isAgg5 rfl ?_)))))
        refine ws rfl (os_inline (cap := [(pB b4 0), (pB b5 0)]) (vs := [(.int .u8 x4.second)]) call46 rfl rfl rfl func46 rfl 15 ntmps46 rfl (fun w' s => ?_))
        refine WP.seq (WP.seq (WP.region (Vm rfl (Vl 3 isAgg3 rfl ?_))))
        obtain ⟨x5, e13, hm⟩ := bind_some hm
        obtain ⟨h25, h26, h27, cs5, h28, h29⟩ := hG.1.1.1.get e13 (by decide)
        obtain rfl : cs5 = [(.int .u8 x5)] := h28
        refine V rfl (ov_indexAddr_globL rfl underlying84 sizeOf5 rfl rfl rfl h25 h26) (V rfl (ov_load_elem (v := (.int .u8 x5)) isAgg5 rfl rfl h29) (V rfl (ov_eql rfl rfl rfl) (WL.nil (tn ?_))))
        refine WP.cond rfl (fun hc12 => ?_) (fun hc12 => ?_)
        ·
         replace hm := ite_t hc12 hm
         refine WP.seq (WP.region (Vl 1 isAgg75 rfl ?_))
         have rl11 : RL H1 encByte ([35] : List UInt8) [(.int .u8 35)] := RL.one rfl
         refine ws rfl (os_buildSlice (cs := [(.int .u8 35)]) (E := 5) (sz := 1) rfl rfl (fun _ => by kernel_rfl) rfl (by decide) (fun b9 => ?_))
         obtain ⟨l7, e14, hm⟩ := bind_some hm
         refine ws rfl (os_app_m (i := 3) (j := 0) underlying75 (by kernel_rfl : (prog.info? 5).map (fun i => (i.zero, i.size, i.bytes)) = some (some (.int .u8 0), 1, 1)) rfl rfl rfl rfl rfl rl10 rl11 e14 (fun ao12 cap12 xs8 rl12 => ?_))
         refine ws0 rfl (os_store (i := 2) (vs := [(.slice ao12 (l6 ++ ([35] : List UInt8)).length cap12)]) (cs' := [(.slice ao12 (l6 ++ ([35] : List UInt8)).length cap12)]) sizeOf75 rfl rfl rfl rfl rfl rfl rfl rfl rfl ?_)
         refine WL.nil (tn (WP.ret (then_ret ?_)))
         refine retQ_ret (v := (.tuple #[])) results46 Res.nil rfl (fun w' s => ⟨_, ?_, s⟩)
         refine WL.nil (bn (tn (WP.region (V rfl (ov_add rfl rfl rfl) (Vm rfl (WL.nil (tn ?_)))))))
         exact ⟨(IntKind.wrap .i64 (i3 + 1)), (l6 ++ ([35] : List UInt8)), ao12, cap12, xs8, rl12, (Sub.all rfl), fun w' s => (s.select [2, 3, 4, 5] (by decide) rfl), hm⟩
        replace hm := ite_f hc12 hm
        refine WP.skip (tn (WP.region (Vl 1 isAgg75 rfl ?_)))
        have rl13 : RL H1 encByte ([46] : List UInt8) [(.int .u8 46)] := RL.one rfl
        refine ws rfl (os_buildSlice (cs := [(.int .u8 46)]) (E := 5) (sz := 1) rfl rfl (fun _ => by kernel_rfl) rfl (by decide) (fun b10 => ?_))
        obtain ⟨l8, e15, hm⟩ := bind_some hm
        refine ws rfl (os_app_m (i := 3) (j := 0) underlying75 (by kernel_rfl : (prog.info? 5).map (fun i => (i.zero, i.size, i.bytes)) = some (some (.int .u8 0), 1, 1)) rfl rfl rfl rfl rfl rl10 rl13 e15 (fun ao13 cap13 xs9 rl14 => ?_))
        refine ws0 rfl (os_store (i := 2) (vs := [(.slice ao13 (l6 ++ ([46] : List UInt8)).length cap13)]) (cs' := [(.slice ao13 (l6 ++ ([46] : List UInt8)).length cap13)]) sizeOf75 rfl rfl rfl rfl rfl rfl rfl rfl rfl ?_)
        refine WL.nil ?_
        refine retQ_end (v := (.tuple #[])) results46 Res.nil rfl (fun w' s => ⟨_, ?_, s⟩)
        refine WL.nil (bn (tn (WP.region (V rfl (ov_add rfl rfl rfl) (Vm rfl (WL.nil (tn ?_)))))))
        exact ⟨(IntKind.wrap .i64 (i3 + 1)), (l6 ++ ([46] : List UInt8)), ao13, cap13, xs9, rl14, (Sub.all rfl), fun w' s => (s.select [2, 3, 4, 5] (by decide) rfl), hm⟩
       replace hm := ite_f hc11 hm
       refine WP.exit (then_exit (then_exit (block_here (tn ?_))))
       exact ⟨l6, ao11, cap11, xs7, rl10, (Sub.all rfl), fun w' s => (s.select [0, 1, 3] (by decide) rfl), hm⟩
      rintro g' S' ⟨l9, ao14, cap14, xs10, rl15, hsub6, hS6, hm⟩
      refine WP.sub hsub6 (WP.weaken hS6 ?_)
      replace hm := (congrFun hk6 l9).symm.trans hm
      refine WP.region (Vm rfl (Vl 0 isAgg75 rfl (V rfl (ov_bytes_str_ownBm (i := 1) underlying75 underlying9 underlying5 rl15 rfl rfl rfl) ?_)))
      have rl16 : RL H1 encStr ([l9] : List (List UInt8)) [(mkS l9)] := RL.cons (cs := [(mkS l9)]) (xs := []) rfl (RL.nil _ _)
      refine ws rfl (os_buildSlice (cs := [(mkS l9)]) (E := 9) (sz := 1) rfl rfl (fun _ => by kernel_rfl) rfl (by decide) (fun b11 => ?_))
      obtain ⟨l10, e16, hm⟩ := bind_some hm
      refine ws rfl (os_app (i := 3) (j := 0) (En := encStr) (xs := xs2) (ys := [(mkS l9)]) underlying27 (by kernel_rfl : (prog.info? 9).map (fun i => (i.zero, i.size, i.bytes)) = some (some (mkS []), (encStr).size, 16)) rfl (by decide) rfl rfl rfl rfl rfl rfl rl3 rl16 e16 (fun ao15 cap15 rl17 => ?_))
      refine Va rfl (WL.nil (bn (tn ?_)))
      exact ⟨(l2 ++ ([l9] : List (List UInt8))), ao15, cap15, (xs2 ++ [(mkS l9)]), rl17, (Sub.all rfl), fun w' s => (s.select [3] (by decide) rfl), hm⟩
     rintro g' S' ⟨l11, ao16, cap16, xs11, rl18, hsub7, hS7, hm⟩
     refine WP.sub hsub7 (WP.weaken hS7 ?_)
     replace hm := (congrFun hk3 l11).symm.trans hm
     refine WP.region (V rfl (ov_add rfl rfl rfl) (Vm rfl (WL.nil (tn ?_))))
     exact ⟨(IntKind.wrap .i64 (i2 + 1)), l11, ao16, cap16, xs11, rl18, (Sub.all rfl), fun w' s => s, hm⟩
    replace hm := ite_f hc7 hm
    refine WP.exit (then_exit (then_exit (block_here (bn (tn ?_)))))
    exact ⟨l2, ao6, cap6, xs2, rl3, (Sub.all rfl), fun w' s => s, hm⟩
   rintro g' S' ⟨l12, ao17, cap17, xs12, rl19, hsub8, hS8, hm⟩
   refine WP.sub hsub8 (WP.weaken hS8 ?_)
   replace hm := (congrFun hk2 l12).symm.trans hm
   refine WP.region (V rfl (ov_add rfl rfl rfl) (Vm rfl (WL.nil (tn ?_))))
   exact ⟨(IntKind.wrap .i64 (i1 + 1)), l12, ao17, cap17, xs12, rl19, (Sub.all rfl), fun w' s => s, hm⟩
  replace hm := ite_f hc5 hm
  refine WP.exit (then_exit (then_exit (block_here (tn ?_))))
  exact ⟨H1, l1, ao4, cap4, xs1, hle1, rl2, (Sub.all rfl), fun w' s => s, hm⟩
 rintro g' S' ⟨H2, l13, ao18, cap18, xs13, hle2, rl20, hsub9, hS9, hm⟩
 refine WP.sub hsub9 (WP.weaken hS9 ?_)
 replace hm := (congrFun hk1 l13).symm.trans hm
 refine WP.seq (WP.region (Vm rfl (Va rfl (Va rfl (WL.nil (tn (WP.ret ?_)))))))
 obtain rfl := Option.some.inj hm
 refine retQ_ret results17 (Res.tmp rfl (Res.tmp rfl Res.nil)) rfl (fun w' s => ⟨s.below, ?_⟩)
 obtain ⟨h30, hc13⟩ := s.ret_row (i := 0) rfl rl20
 exact ⟨ao18, cap18, rfl, h30, hc13⟩
end Go.Proofs.YtbckcjjffbgidaaGreatDoor.W
