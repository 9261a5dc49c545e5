/- The walks. Written by our own program gen.py; Lean checks it. -/
import Derived.Test.YtbckcjjffbgidaaGreatDoorPlain
import Derived.Test.YtbckcjjffbgidaaGreatDoorEqs
import Derived.Test.YtbckcjjffbgidaaGreatDoorProg
import Derived.Test.YtbckcjjffbgidaaGreatDoorExt
import Derived.Test.YtbckcjjffbgidaaGreatDoorBuild
import Derived.Test.YtbckcjjffbgidaaGreatDoorClone
import Derived.Test.YtbckcjjffbgidaaGreatDoorWalk7
set_option linter.unusedVariables false
set_option maxRecDepth 100000
set_option maxHeartbeats 4000000
namespace Go.Proofs.YtbckcjjffbgidaaGreatDoor.W
open Go Go.RowKit Go.Proofs.Tryz
theorem diagram_stretched_con (p_s : Sequence) (p_counts : (List Int)) (ao1 : Option Addr) (cap1 : Nat) (ao2 : Option Addr) (cap2 : Nat) (w : World) (H : Heap) (hH : Le H (hp w)) (h1 : SL H encStep ao1 p_s.steps) (hc1 : p_s.steps.length ≤ cap1) (h2 : SL H (encInt .i64) ao2 p_counts) (hc2 : p_counts.length ≤ cap2) (hG : Glob H) (r : (List (List UInt8))) (hm : diagram_stretched p_s p_counts = some r) :
  Con prog 64 [(.agg #[(.int .i64 p_s.actuators), (.slice ao1 p_s.steps.length cap1)]), (.slice ao2 p_counts.length cap2)] w H (fun v H' => ∃ (ao3 : Option Addr) (cap3 : Nat), v = (.slice ao3 r.length cap3) ∧ SL H' encStr ao3 r ∧ r.length ≤ cap3) := by
 unfold diagram_stretched at hm
 refine con_of hH func64 rfl 8 ntmps64 rfl ?_
 refine WP.seq (WP.region ?_)
 refine ws rfl (os_box (cs := [(.int .i64 p_s.actuators), (.slice ao1 p_s.steps.length cap1)]) rfl rfl rfl (fun b1 => ?_))
 refine ws rfl (os_box (cs := [(.slice ao2 p_counts.length cap2)]) rfl rfl rfl (fun b2 => ?_))
 refine Va rfl (WL.nil (tn (WP.seq (WP.region (V rfl (ov_load_whole (i := 1) isAgg24 sizeOf24 rfl rfl rfl rfl) (V rfl (ov_makeFunc' (first := []) rfl rfl rfl) ?_))))))
 refine ws rfl (os_inline (cap := []) (vs := [(.agg #[(.int .i64 p_s.actuators), (.slice ao1 p_s.steps.length cap1)]), (.func (.func 100) #[] #[(pB b2 0)])]) call49 rfl rfl rfl func49 rfl 46 ntmps49 rfl (fun w' s => ?_))
 refine WP.seq (WP.region ?_)
 refine ws rfl (os_box (cs := [(.int .i64 p_s.actuators), (.slice ao1 p_s.steps.length cap1)]) rfl rfl rfl (fun b3 => ?_))
 refine Va rfl (WL.nil (tn (WP.seq (WP.region (Va rfl (WL.nil (tn ?_)))))))
 obtain ⟨k1, hk1, hm⟩ := joinK_some hm
 refine WP.seq_join (fun g' S' => ∃ (H2 : Heap) (l9 : (List (List UInt8))) (ao14 : Option Addr) (cap14 : Nat) (xs5 : List Value), Le H H2 ∧ RL H2 encStr l9 xs5 ∧ Sub [(5, (.slice ao14 l9.length cap14)), (1000000007, (.bool false))] g' ∧ (∀ w', S' w' → St w H [.row 9 (encStr).size l9.length (.slice ao14 l9.length cap14) xs5, .blk b2 39 [(.slice ao2 p_counts.length cap2)], .blk b1 24 [(.int .i64 p_s.actuators), (.slice ao1 p_s.steps.length cap1)]] H2 w') ∧ k1 l9 = some r) ?_ ?_
 ·
  refine WP.seq (WP.region (V rfl (ov_load_whole (i := 0) isAgg24 sizeOf24 rfl rfl rfl rfl) ?_))
  obtain ⟨r1, e1, hm⟩ := bind_some hm
  refine ws rfl (os_con call43 rfl rfl (fun w' s => (diagram_cells_con p_s ao1 cap1  w' H s.hold h1 hc1 hG r1 e1)) (fun rr1 H1 hle1 hR1 => ?_))
  replace h1 := h1.mono hle1
  replace h2 := h2.mono hle1
  replace hG := hG.mono hle1
  obtain ⟨ao4, cap4, rfl, h4, hc4⟩ := hR1
  refine V rfl (ov_len_slice underlying76 rfl rfl) (Vm rfl (WL.nil (tn (WP.block ?_))))
  have rl1 := RL.nil (α := (List UInt8)) H1 encStr
  refine WP.weaken (fun _ s => s.nilrow 9 (encStr).size) ?_
  refine WP.loop (fun m1 g' S' => ∃ (i1 : Int) (l1 : (List (List UInt8))) (ao5 : Option Addr) (cap5 : Nat) (xs1 : List Value), RL H1 encStr l1 xs1 ∧ Sub [(1, (.func (.func 100) #[] #[(pB b2 0)])), (5, (.slice ao5 l1.length cap5)), (12, (.slice ao4 r1.length cap4)), (13, (.int .i64 (r1.length : Int))), (14, (.int .i64 i1)), (1000000007, (.bool false))] g' ∧ (∀ w', S' w' → St w H [.row 9 (encStr).size l1.length (.slice ao5 l1.length cap5) xs1, .blk b2 39 [(.slice ao2 p_counts.length cap2)], .blk b1 24 [(.int .i64 p_s.actuators), (.slice ao1 p_s.steps.length cap1)]] H1 w') ∧ diagram_stretched_loop1 k1 r1 p_counts m1 i1 l1 = some r) ((Int.toNat ((r1.length : Int) - 0) + 1)) ⟨0, ([] : List (List UInt8)), none, 0, [], rl1, (Sub.all rfl), fun w' s => (s.select [0, 2, 3] (by decide) rfl), hm⟩ ?_ ?_
  ·
   rintro g' S' ⟨_, _, _, _, _, _, _, _, hm⟩
   exact none_some hm
  rintro m1 g' S' ⟨i1, l1, ao5, cap5, xs1, rl2, hsub1, hS1, hm⟩
  refine WP.sub hsub1 (WP.weaken hS1 ?_)
  rw [diagram_stretched_loop1] at hm
  refine WP.seq (WP.region (V rfl (ov_lss rfl rfl rfl) (WL.nil (tn (WP.seq ?_)))))
  refine WP.cond rfl (fun hc5 => ?_) (fun hc5 => ?_)
  ·
   replace hm := ite_t hc5 hm
   refine WP.skip (tn ?_)
   obtain ⟨k2, hk2, hm⟩ := joinK_some hm
   refine WP.seq_join (fun g' S' => ∃ (l8 : (List (List UInt8))) (ao13 : Option Addr) (cap13 : Nat) (xs4 : List Value), RL H1 encStr l8 xs4 ∧ Sub [(1, (.func (.func 100) #[] #[(pB b2 0)])), (5, (.slice ao13 l8.length cap13)), (12, (.slice ao4 r1.length cap4)), (13, (.int .i64 (r1.length : Int))), (14, (.int .i64 i1)), (1000000007, (.bool false))] g' ∧ (∀ w', S' w' → St w H [.row 9 (encStr).size l8.length (.slice ao13 l8.length cap13) xs4, .blk b2 39 [(.slice ao2 p_counts.length cap2)], .blk b1 24 [(.int .i64 p_s.actuators), (.slice ao1 p_s.steps.length cap1)]] H1 w') ∧ k2 l8 = some r) ?_ ?_
   ·
    refine WP.block (WP.seq (WP.region (Vm rfl ?_)))
    obtain ⟨x1, e2, hm⟩ := bind_some hm
    obtain ⟨h6, h7, h8, cs1, h9, h10⟩ := h4.get e2 (by decide)
    obtain ⟨ao6, cap6, rfl, h5, hc6⟩ := h9
    refine V rfl (ov_indexAddr underlying76 sizeOf78 rfl rfl rfl h6 h7 h8) (V rfl (ov_load_elem (v := (.slice ao6 x1.length cap6)) isAgg78 rfl rfl h10) (Va rfl (Va rfl (WL.nil (tn (WP.seq (WP.region (V rfl (ov_build (r := (.agg #[(.pointer none), (.slice none 0 0)])) rfl rfl (fun _ => by kernel_rfl)) ?_))))))))
    refine WL.within (fun w1 s1 => ?_)
    have sv1 := h4
    replace h4 := h4.mono s1.hold
    have sv2 := h10
    replace h10 := h10.mono s1.hold
    have sv3 := h5
    replace h5 := h5.mono s1.hold
    have sv4 := h1
    replace h1 := h1.mono s1.hold
    have sv5 := h2
    replace h2 := h2.mono s1.hold
    have sv6 := rl2
    replace rl2 := rl2.mono s1.hold
    have sv7 := hG
    replace hG := hG.mono s1.hold
    have h11 : RowAt (hp w1) (some ⟨b2, 0, none⟩) 0 [(.slice ao2 p_counts.length cap2)] := s1.box_row (i := 1) rfl
    have h12 : RowAt (hp w1) (some ⟨b1, 0, none⟩) 0 [(.int .i64 p_s.actuators), (.slice ao1 p_s.steps.length cap1)] := s1.box_row (i := 2) rfl
    refine ws rfl (os_box (cs := [(.pointer none), (.slice none 0 0)]) rfl rfl rfl (fun b4 => ?_))
    refine Va rfl (WL.nil (tn (WP.seq (WP.region (Vm rfl (Vm rfl ?_))))))
    obtain ⟨r2, e3, hm⟩ := bind_some hm
    refine wo rfl (oq_con (r := (mkS r2)) call45 rfl rfl (fun w' s => ⟨_, (diagram_letter_con i1  w' (hp w1) s.hold hG r2 e3)⟩)) ?_
    obtain ⟨s2, e4, hm⟩ := bind_some hm
    refine V rfl (ov_sadd' e4 rfl rfl rfl) ?_
    refine ws rfl (os_inline (cap := []) (vs := [(pB b4 0), (mkS s2)]) call82 rfl rfl rfl func82 rfl 19 ntmps82 rfl (fun w' s => ?_))
    refine WP.seq (WP.region (Va rfl (Va rfl (WL.nil (tn (WP.seq (WP.region (Vm rfl ?_))))))))
    refine ws rfl (os_copyCheck (i := 0) rfl rfl rfl (.inl rfl) ?_)
    refine WL.nil (tn (WP.seq (WP.region (Vm rfl (Vm rfl (V rfl (ov_nilCheckB rfl rfl) (V rfl (ov_fieldAddr underlying123 rfl rfl rfl sizeOf75 rfl rfl) (Vl 0 isAgg75 rfl (Vm rfl ?_)))))))))
    have rl3 := RL.nil (α := UInt8) (hp w1) encByte
    refine WL.weaken (fun _ s => s.nilrow 5 (encByte).size) ?_
    obtain ⟨l2, e5, hm⟩ := bind_some hm
    refine ws rfl (os_app_str (i := 0) (xs := []) underlying75 underlying9 (by kernel_rfl : (prog.info? 5).map (fun i => (i.zero, i.size, i.bytes)) = some (some (.int .u8 0), 1, 1)) rfl rfl rfl rfl rl3 e5 (fun ao7 cap7 ys1 rl4 => ?_))
    refine V rfl (ov_nilCheckB rfl rfl) (V rfl (ov_fieldAddr underlying123 rfl rfl rfl sizeOf75 rfl rfl) ?_)
    refine ws0 rfl (os_store (i := 1) (vs := [(.slice ao7 (([] : List UInt8) ++ s2).length cap7)]) (cs' := [(pB b4 0), (.slice ao7 (([] : List UInt8) ++ s2).length cap7)]) sizeOf75 rfl rfl rfl rfl rfl rfl rfl rfl rfl ?_)
    refine WL.nil (tn (WP.seq (WP.region (Vm rfl (V rfl (ov_len_string underlying9 rfl rfl) (Va rfl (Va rfl (WL.nil (tn (WP.ret ?_))))))))))
    refine retQ_ret (v := (.tuple #[(.int .i64 (s2.length : Int)), .nilIface])) results82 (Res.tmp rfl (Res.tmp rfl Res.nil)) rfl (fun w' s => ⟨_, ?_, s⟩)
    refine WL.nil (tn ?_)
    obtain ⟨k3, hk3, hm⟩ := joinK_some hm
    refine WP.seq_join (fun g' S' => ∃ (l6 : (List UInt8)) (ao11 : Option Addr) (cap11 : Nat) (xs3 : List Value), RL (hp w1) encByte l6 xs3 ∧ Sub [(1, (.func (.func 100) #[] #[(pE (some ⟨b2, 0, none⟩) 0)])), (5, (.slice ao5 l1.length cap5)), (8, (pB b4 0)), (12, (.slice ao4 r1.length cap4)), (13, (.int .i64 (r1.length : Int))), (14, (.int .i64 i1)), (1000000007, (.bool false))] g' ∧ (∀ w', S' w' → St w1 (hp w1) [.row 5 (encByte).size l6.length (.slice ao11 l6.length cap11) xs3, .blk b4 123 [(pB b4 0), (.slice ao11 l6.length cap11)]] (hp w1) w') ∧ k3 l6 = some r) ?_ ?_
    ·
     refine WP.seq (WP.region (Vm rfl (V rfl (ov_len_slice underlying78 rfl rfl) (Vm rfl (WL.nil (tn (WP.block ?_)))))))
     refine WP.loop (fun m2 g' S' => ∃ (i2 : Int) (l3 : (List UInt8)) (ao8 : Option Addr) (cap8 : Nat) (xs2 : List Value), RL (hp w1) encByte l3 xs2 ∧ Sub [(1, (.func (.func 100) #[] #[(pE (some ⟨b2, 0, none⟩) 0)])), (5, (.slice ao5 l1.length cap5)), (8, (pB b4 0)), (12, (.slice ao4 r1.length cap4)), (13, (.int .i64 (r1.length : Int))), (14, (.int .i64 i1)), (26, (.slice ao6 x1.length cap6)), (27, (.int .i64 (x1.length : Int))), (28, (.int .i64 i2)), (1000000007, (.bool false))] g' ∧ (∀ w', S' w' → St w1 (hp w1) [.row 5 (encByte).size l3.length (.slice ao8 l3.length cap8) xs2, .blk b4 123 [(pB b4 0), (.slice ao8 l3.length cap8)]] (hp w1) w') ∧ diagram_stretched_loop2 p_counts x1 k3 m2 i2 l3 = some r) ((Int.toNat ((x1.length : Int) - 0) + 1)) ⟨0, (([] : List UInt8) ++ s2), ao7, cap7, ([] ++ ys1), rl4, (Sub.all rfl), fun w' s => s, hm⟩ ?_ ?_
     ·
      rintro g' S' ⟨_, _, _, _, _, _, _, _, hm⟩
      exact none_some hm
     rintro m2 g' S' ⟨i2, l3, ao8, cap8, xs2, rl5, hsub2, hS2, hm⟩
     refine WP.sub hsub2 (WP.weaken hS2 ?_)
     rw [diagram_stretched_loop2] at hm
     refine WP.seq (WP.region (V rfl (ov_lss rfl rfl rfl) (WL.nil (tn (WP.seq ?_)))))
     refine WP.cond rfl (fun hc7 => ?_) (fun hc7 => ?_)
     ·
      replace hm := ite_t hc7 hm
      refine WP.skip (tn (WP.seq (WP.block (WP.seq (WP.region (Vm rfl ?_))))))
      obtain ⟨x2, e6, hm⟩ := bind_some hm
      obtain ⟨h13, h14, h15, cs2, h16, h17⟩ := h5.get e6 (by decide)
      obtain rfl : cs2 = [(.int .u8 x2.first), (.int .u8 x2.second)] := h16
      refine V rfl (ov_indexAddr underlying78 sizeOf80 rfl rfl rfl h13 h14 h15) (V rfl (ov_load_elems (vs := [(.int .u8 x2.first), (.int .u8 x2.second)]) isAgg80 sizeOf80 rfl rfl rfl h17 h15) ?_)
      refine ws rfl (os_alloc (cs := [(.int .u8 0), (.int .u8 0)]) zeroValue80 rfl rfl (fun b5 => ?_))
      refine Va rfl ?_
      refine ws0 rfl (os_store (i := 0) (vs := [(.int .u8 x2.first), (.int .u8 x2.second)]) (cs' := [(.int .u8 x2.first), (.int .u8 x2.second)]) sizeOf80 rfl rfl rfl rfl rfl rfl rfl rfl rfl ?_)
      refine WL.nil (tn (WP.region (Vm rfl (Vm rfl (Vm rfl (V rfl (ov_load_whole (i := 0) isAgg80 sizeOf80 rfl rfl rfl rfl) ?_))))))
      refine ws rfl (os_inline (cap := [(pE (some ⟨b2, 0, none⟩) 0)]) (vs := [(pB b4 0), (.int .i64 i2), (.agg #[(.int .u8 x2.first), (.int .u8 x2.second)])]) call100 rfl rfl rfl func100 rfl 22 ntmps100 rfl (fun w' s => ?_))
      refine WP.seq (WP.region ?_)
      refine ws rfl (os_box (cs := [(.int .u8 x2.first), (.int .u8 x2.second)]) rfl rfl rfl (fun b6 => ?_))
      refine WL.nil (tn (WP.seq ?_))
      refine WP.region_any (S₀ := St w1 (hp w1) [.blk b6 80 [(.int .u8 x2.first), (.int .u8 x2.second)], .blk b5 80 [(.int .u8 x2.first), (.int .u8 x2.second)]] (hp w1)) 11 rfl (by kernel_rfl) (fun w' s => (s.select [0, 1] (by decide) rfl)) (fun _ s => s.drew) ?_
      refine TQ 0 (by kernel_rfl) rfl (ov_move rfl rfl) (TQ 1 (by kernel_rfl) rfl (ov_fieldAddr underlying80 rfl rfl rfl sizeOf5 rfl rfl) (TQ 2 (by kernel_rfl) rfl (ov_load_box (i := 0) isAgg5 rfl rfl rfl rfl) (TQ 3 (by kernel_rfl) rfl (ov_convert_int underlying5 underlying21 rfl rfl) (TQ 4 (by kernel_rfl) rfl (ov_convert_rune' underlying21 underlying9 rfl rfl) (TQ 5 (by kernel_rfl) rfl (ov_load_elem (v := (.slice ao2 p_counts.length cap2)) isAgg39 rfl rfl h11) (TQ 6 (by kernel_rfl) rfl (ov_move rfl rfl) ?_))))))
      obtain ⟨x3, e7, hm⟩ := bind_some hm
      obtain ⟨h18, h19, h20, cs3, h21, h22⟩ := h2.get e7 (by decide)
      obtain rfl : cs3 = [(.int .i64 x3)] := h21
      refine TQ 7 (by kernel_rfl) rfl (ov_indexAddr underlying39 sizeOf3 rfl rfl rfl h18 h19 h20) (TQ 8 (by kernel_rfl) rfl (ov_load_elem (v := (.int .i64 x3)) isAgg3 rfl rfl h22) ?_)
      refine AL.any (rs := [9]) (by kernel_rfl) (by decide) ?_
      refine ALs.cons (i := 9) rfl (Runs.free rfl) rfl rfl ?_ ?_
      ·
       obtain ⟨r3, e8, hm⟩ := bind_some hm
       refine OQ.step (oq_con (r := (mkS r3)) call101 rfl rfl (fun w' s => ⟨_, (repS_con ((Utf8.encode (IntKind.wrap .i32 x2.first)).data.toList) x3  w' (hp w1) s.hold hG r3 e8)⟩)) ?_
       refine ⟨fun w' s => (s.select [0, 1] (by decide) rfl), ?_⟩
       refine AL.any (rs := [10]) (by kernel_rfl) (by decide) ?_
       refine ALs.cons (i := 10) rfl (Runs.free rfl) rfl rfl ?_ ?_
       ·
        refine os_inline (cap := []) (vs := [(pB b4 0), (mkS r3)]) call82 rfl rfl rfl func82 rfl 19 ntmps82 rfl (fun w' s => ?_)
        refine WP.seq (WP.region (Va rfl (Va rfl (WL.nil (tn (WP.seq (WP.region (Vm rfl ?_))))))))
        refine ws rfl (os_copyCheck (i := 3) rfl rfl rfl (.inr rfl) ?_)
        refine WL.nil (tn (WP.seq (WP.region (Vm rfl (Vm rfl (V rfl (ov_nilCheckB rfl rfl) (V rfl (ov_fieldAddr underlying123 rfl rfl rfl sizeOf75 rfl rfl) (Vl 3 isAgg75 rfl (Vm rfl ?_)))))))))
        obtain ⟨l4, e9, hm⟩ := bind_some hm
        refine ws rfl (os_app_str (i := 2) (xs := xs2) underlying75 underlying9 (by kernel_rfl : (prog.info? 5).map (fun i => (i.zero, i.size, i.bytes)) = some (some (.int .u8 0), 1, 1)) rfl rfl rfl rfl rl5 e9 (fun ao9 cap9 ys2 rl6 => ?_))
        refine V rfl (ov_nilCheckB rfl rfl) (V rfl (ov_fieldAddr underlying123 rfl rfl rfl sizeOf75 rfl rfl) ?_)
        refine ws0 rfl (os_store (i := 3) (vs := [(.slice ao9 (l3 ++ r3).length cap9)]) (cs' := [(pB b4 0), (.slice ao9 (l3 ++ r3).length cap9)]) sizeOf75 rfl rfl rfl rfl rfl rfl rfl rfl rfl ?_)
        refine WL.nil (tn (WP.seq (WP.region (Vm rfl (V rfl (ov_len_string underlying9 rfl rfl) (Va rfl (Va rfl (WL.nil (tn (WP.ret ?_))))))))))
        refine retQ_ret (v := (.tuple #[(.int .i64 (r3.length : Int)), .nilIface])) results82 (Res.tmp rfl (Res.tmp rfl Res.nil)) rfl (fun w' s => ⟨_, ?_, s⟩)
        refine ⟨fun w' s => (s.select [0, 1] (by decide) rfl), ?_⟩
        refine AL.done (by kernel_rfl) ?_
        refine tn (WP.region (Vm rfl (V rfl (ov_fieldAddr underlying80 rfl rfl rfl sizeOf5 rfl rfl) (Vl 0 isAgg5 rfl ?_))))
        refine ws rfl (os_inline (cap := []) (vs := [(pB b4 0), (.int .u8 x2.second)]) call52 rfl rfl rfl func52 rfl 17 ntmps52 rfl (fun w' s => ?_))
        refine WP.seq (WP.region (Va rfl (WL.nil (tn (WP.seq (WP.region (Vm rfl ?_)))))))
        refine ws rfl (os_copyCheck (i := 3) rfl rfl rfl (.inr rfl) ?_)
        refine WL.nil (tn (WP.seq (WP.region (Vm rfl (Vm rfl (V rfl (ov_nilCheckB rfl rfl) (V rfl (ov_fieldAddr underlying123 rfl rfl rfl sizeOf75 rfl rfl) (Vl 3 isAgg75 rfl (Vm rfl ?_)))))))))
        obtain ⟨u1, e10, hm⟩ := bind_some hm
        replace e10 := guardO_some e10
        have rl7 : RL (hp w1) encByte ([(UInt8.ofNat (Int.toNat x2.second))] : List UInt8) [(.int .u8 x2.second)] := RL.byte1 e10
        refine ws rfl (os_buildSlice (cs := [(.int .u8 x2.second)]) (E := 5) (sz := 1) rfl rfl (fun _ => by kernel_rfl) rfl (by decide) (fun b7 => ?_))
        obtain ⟨l5, e11, hm⟩ := bind_some hm
        refine ws rfl (os_app (i := 3) (j := 0) (En := encByte) (xs := (xs2 ++ ys2)) (ys := [(.int .u8 x2.second)]) underlying75 (by kernel_rfl : (prog.info? 5).map (fun i => (i.zero, i.size, i.bytes)) = some (some (.int .u8 0), (encByte).size, 1)) rfl (by decide) rfl rfl rfl rfl rfl rfl rl6 rl7 e11 (fun ao10 cap10 rl8 => ?_))
        refine V rfl (ov_nilCheckB rfl rfl) (V rfl (ov_fieldAddr underlying123 rfl rfl rfl sizeOf75 rfl rfl) ?_)
        refine ws0 rfl (os_store (i := 4) (vs := [(.slice ao10 ((l3 ++ r3) ++ ([(UInt8.ofNat (Int.toNat x2.second))] : List UInt8)).length cap10)]) (cs' := [(pB b4 0), (.slice ao10 ((l3 ++ r3) ++ ([(UInt8.ofNat (Int.toNat x2.second))] : List UInt8)).length cap10)]) sizeOf75 rfl rfl rfl rfl rfl rfl rfl rfl rfl ?_)
        refine WL.nil (tn (WP.seq (WP.region (Va rfl (WL.nil (tn (WP.ret ?_)))))))
        refine retQ_ret (v := .nilIface) results52 (Res.tmp rfl Res.nil) rfl (fun w' s => ⟨_, ?_, s⟩)
        refine WL.nil ?_
        refine retQ_end (v := (.tuple #[])) results100 Res.nil rfl (fun w' s => ⟨_, ?_, s⟩)
        refine WL.nil (bn (tn (WP.region (V rfl (ov_add rfl rfl rfl) (Vm rfl (WL.nil (tn ?_)))))))
        exact ⟨(IntKind.wrap .i64 (i2 + 1)), ((l3 ++ r3) ++ ([(UInt8.ofNat (Int.toNat x2.second))] : List UInt8)), ao10, cap10, ((xs2 ++ ys2) ++ [(.int .u8 x2.second)]), rl8, (Sub.all rfl), fun w' s => (s.select [3, 4] (by decide) rfl), hm⟩
       exact ALs.nil
      exact ALs.nil
     replace hm := ite_f hc7 hm
     refine WP.exit (then_exit (then_exit (block_here (tn ?_))))
     exact ⟨l3, ao8, cap8, xs2, rl5, (Sub.all rfl), fun w' s => s, hm⟩
    rintro g' S' ⟨l6, ao11, cap11, xs3, rl9, hsub3, hS3, hm⟩
    refine WP.sub hsub3 (WP.weaken hS3 ?_)
    replace hm := (congrFun hk3 l6).symm.trans hm
    refine WP.region (Vm rfl (Vm rfl ?_))
    have h4 := sv1
    have h10 := sv2
    have h5 := sv3
    have h1 := sv4
    have h2 := sv5
    have rl2 := sv6
    have hG := sv7
    refine ws rfl (os_bstring_in s1 (i := 1) (j := 0) rfl rfl rfl rfl (.inr rfl) rl9 ?_)
    have rl10 : RL H1 encStr ([l6] : List (List UInt8)) [(mkS l6)] := RL.cons (cs := [(mkS l6)]) (xs := []) rfl (RL.nil _ _)
    refine ws rfl (os_buildSlice (cs := [(mkS l6)]) (E := 9) (sz := 1) rfl rfl (fun _ => by kernel_rfl) rfl (by decide) (fun b8 => ?_))
    obtain ⟨l7, e12, hm⟩ := bind_some hm
    refine ws rfl (os_app (i := 1) (j := 0) (En := encStr) (xs := xs1) (ys := [(mkS l6)]) underlying27 (by kernel_rfl : (prog.info? 9).map (fun i => (i.zero, i.size, i.bytes)) = some (some (mkS []), (encStr).size, 16)) rfl (by decide) rfl rfl rfl rfl rfl rfl rl2 rl10 e12 (fun ao12 cap12 rl11 => ?_))
    refine Va rfl (WL.nil (bn (tn ?_)))
    exact ⟨(l1 ++ ([l6] : List (List UInt8))), ao12, cap12, (xs1 ++ [(mkS l6)]), rl11, (Sub.all rfl), fun w' s => (s.select [1, 2, 3] (by decide) rfl), hm⟩
   rintro g' S' ⟨l8, ao13, cap13, xs4, rl12, hsub4, hS4, hm⟩
   refine WP.sub hsub4 (WP.weaken hS4 ?_)
   replace hm := (congrFun hk2 l8).symm.trans hm
   refine WP.region (V rfl (ov_add rfl rfl rfl) (Vm rfl (WL.nil (tn ?_))))
   exact ⟨(IntKind.wrap .i64 (i1 + 1)), l8, ao13, cap13, xs4, rl12, (Sub.all rfl), fun w' s => s, hm⟩
  replace hm := ite_f hc5 hm
  refine WP.exit (then_exit (then_exit (block_here (tn ?_))))
  exact ⟨H1, l1, ao5, cap5, xs1, hle1, rl2, (Sub.all rfl), fun w' s => s, hm⟩
 rintro g' S' ⟨H2, l9, ao14, cap14, xs5, hle2, rl13, hsub5, hS5, hm⟩
 refine WP.sub hsub5 (WP.weaken hS5 ?_)
 replace hm := (congrFun hk1 l9).symm.trans hm
 refine WP.seq (WP.region (Vm rfl (Va rfl (WL.nil (tn (WP.ret ?_))))))
 refine retQ_ret (v := (.slice ao14 l9.length cap14)) results49 (Res.tmp rfl Res.nil) rfl (fun w' s => ⟨_, ?_, s⟩)
 refine Va rfl (WL.nil (tn (WP.ret ?_)))
 obtain rfl := Option.some.inj hm
 refine retQ_ret results64 (Res.tmp rfl Res.nil) rfl (fun w' s => ⟨s.below, ?_⟩)
 obtain ⟨h23, hc8⟩ := s.ret_row (i := 0) rfl rl13
 exact ⟨ao14, cap14, rfl, h23, hc8⟩
end Go.Proofs.YtbckcjjffbgidaaGreatDoor.W
