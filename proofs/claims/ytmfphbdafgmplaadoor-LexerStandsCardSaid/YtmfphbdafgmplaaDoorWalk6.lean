/- The walks. Written by our own program gen.py; Lean checks it. -/
import Derived.Test.YtmfphbdafgmplaaDoorPlain
import Derived.Test.YtmfphbdafgmplaaDoorEqs
import Derived.Test.YtmfphbdafgmplaaDoorProg
import Derived.Test.YtmfphbdafgmplaaDoorExt
import Derived.Test.YtmfphbdafgmplaaDoorClone
import Derived.Test.YtmfphbdafgmplaaDoorBuild
set_option linter.unusedVariables false
set_option maxRecDepth 100000
set_option maxHeartbeats 4000000
namespace Go.Proofs.YtmfphbdafgmplaaDoor.W
open Go Go.RowKit
theorem lexer_Fields_con (p_line : (List UInt8)) (w : World) (H : Heap) (hH : Le H (hp w)) (hG : Glob H) (r : (List (List UInt8))) (hm : lexer_Fields p_line = some r) :
    Con Tryd.prog 37 [(mkS p_line)] w H (fun v H' => ∃ (ao1 : Option Addr) (cap1 : Nat), v = (.slice ao1 r.length cap1) ∧ SL H' encStr ao1 r ∧ r.length ≤ cap1) := by
  unfold lexer_Fields at hm
  refine con_of hH Tryd.func37 rfl 5 Tryd.ntmps37 rfl ?_
  refine WP.seq (WP.region ?_)
  refine wq rfl rfl rfl (ov_assign rfl rfl) ?_
  refine WL.nil (then_normal (WP.seq (WP.region ?_)))
  refine wq rfl rfl rfl (ov_move rfl rfl) ?_
  obtain ⟨r1, e1, hm⟩ := bind_some hm
  refine WL.step (Runs.free rfl) rfl rfl (os_con Tryd.call69 rfl rfl (fun w' s => (fieldsSp_con p_line  w' H s.hold hG r1 e1)) (fun rr1 H1 hle1 hR1 => ?_))
  replace hG := hG.mono hle1
  obtain ⟨ao2, cap2, rfl, h2, hc2⟩ := hR1
  refine wq rfl rfl rfl (ov_assign rfl rfl) ?_
  refine WL.nil (then_normal (WP.ret ?_))
  obtain rfl := Option.some.inj hm
  refine retQ_ret Tryd.results37 (Res.tmp rfl Res.nil) rfl (fun w' s => ⟨s.below, ?_⟩)
  exact ⟨ao2, cap2, rfl, h2.mono s.le_newer, hc2⟩

theorem ref12_Fields_con (p_line : (List UInt8)) (w : World) (H : Heap) (hH : Le H (hp w)) (hG : Glob H) (r : (List (List UInt8))) (hm : ref12_Fields p_line = some r) :
    Con Tryd.prog 38 [(mkS p_line)] w H (fun v H' => ∃ (ao1 : Option Addr) (cap1 : Nat), v = (.slice ao1 r.length cap1) ∧ SL H' encStr ao1 r ∧ r.length ≤ cap1) := by
  unfold ref12_Fields at hm
  refine con_of hH Tryd.func38 rfl 36 Tryd.ntmps38 rfl ?_
  refine WP.seq (WP.region ?_)
  refine wq rfl rfl rfl (ov_assign rfl rfl) ?_
  refine WL.nil (then_normal (WP.seq (WP.region ?_)))
  refine wq rfl rfl rfl (ov_assign rfl rfl) ?_
  refine WL.nil (then_normal (WP.seq (WP.region ?_)))
  refine wq rfl rfl rfl (ov_assign rfl rfl) ?_
  refine WL.nil (then_normal ?_)
  obtain ⟨k1, hk1, hm⟩ := joinK_some hm
  refine WP.seq_join (fun g' S' => ∃ (l5 : (List (List UInt8))) (ao6 : Option Addr) (cap6 : Nat) (xs4 : List Value), RL H encStr l5 xs4 ∧ Sub [(3, (.slice ao6 l5.length cap6)), (1000000007, (.bool false))] g' ∧ (∀ w', S' w' → St w H [.row 9 (encStr).size l5.length (.slice ao6 l5.length cap6) xs4] H w') ∧ k1 l5 = some r) ?_ ?_
  · skip
    refine WP.seq (WP.region ?_)
    refine wq rfl rfl rfl (ov_assign rfl rfl) ?_
    refine WL.nil (then_normal (WP.block ?_))
    have rl1 := RL.nil (α := (List UInt8)) H encStr
    refine WP.weaken (fun _ s => s.nilrow 9 (encStr).size) ?_
    refine WP.loop (fun m1 g' S' => ∃ (s1 : (List UInt8)) (i1 : Int) (l1 : (List (List UInt8))) (ao2 : Option Addr) (cap2 : Nat) (xs1 : List Value), RL H encStr l1 xs1 ∧ Sub [(0, (mkS p_line)), (3, (.slice ao2 l1.length cap2)), (4, (mkS s1)), (5, (.int .i64 i1)), (1000000007, (.bool false))] g' ∧ (∀ w', S' w' → St w H [.row 9 (encStr).size l1.length (.slice ao2 l1.length cap2) xs1] H w') ∧ ref12_Fields_loop1 p_line k1 m1 s1 i1 l1 = some r) ((p_line.length + 2)) ⟨[], 0, ([] : List (List UInt8)), none, 0, [], rl1, (Sub.cons rfl (Sub.cons rfl (Sub.cons rfl (Sub.cons rfl (Sub.cons rfl (Sub.nil _)))))), fun w' s => s, hm⟩ ?_ ?_
    · rintro g' S' ⟨_, _, _, _, _, _, _, _, _, hm⟩
      exact none_some hm
    · rintro m1 g' S' ⟨s1, i1, l1, ao2, cap2, xs1, rl2, hsub1, hS1, hm⟩
      refine WP.sub hsub1 (WP.weaken hS1 ?_)
      rw [ref12_Fields_loop1] at hm
      refine WP.seq (WP.seq (WP.region ?_))
      refine wq rfl rfl rfl (ov_move rfl rfl) ?_
      refine wq rfl rfl rfl (ov_move rfl rfl) ?_
      refine wq rfl rfl rfl (ov_len_string Tryd.underlying9 rfl rfl) ?_
      refine wq rfl rfl rfl (ov_leq rfl rfl rfl) ?_
      refine WL.nil (then_normal ?_)
      refine WP.cond rfl (fun hc2 => ?_) (fun hc2 => ?_)
      · replace hm := ite_t hc2 hm
        refine WP.skip (then_normal ?_)
        obtain ⟨k2, hk2, hm⟩ := joinK_some hm
        refine WP.seq_join (fun g' S' => ∃ (s4 : (List UInt8)) (l4 : (List (List UInt8))) (ao5 : Option Addr) (cap5 : Nat) (xs3 : List Value), RL H encStr l4 xs3 ∧ Sub [(0, (mkS p_line)), (3, (.slice ao5 l4.length cap5)), (4, (mkS s4)), (5, (.int .i64 i1)), (1000000007, (.bool false))] g' ∧ (∀ w', S' w' → St w H [.row 9 (encStr).size l4.length (.slice ao5 l4.length cap5) xs3] H w') ∧ k2 s4 l4 = some r) ?_ ?_
        · skip
          refine WP.block (WP.seq (WP.seq (WP.region ?_)))
          refine wq rfl rfl rfl (ov_move rfl rfl) ?_
          refine wq rfl rfl rfl (ov_move rfl rfl) ?_
          refine wq rfl rfl rfl (ov_len_string Tryd.underlying9 rfl rfl) ?_
          refine wq rfl rfl rfl (ov_lss rfl rfl rfl) ?_
          refine wq rfl rfl rfl (ov_move rfl rfl) ?_
          obtain ⟨c1, e1, hm⟩ := bind_some hm
          refine WL.cut_bool 5 21 (x := c1) ?_ ?_
          · rcases Bool.eq_false_or_eq_true (decide (i1 < (p_line.length : Int))) with hc3 | hc3
            · skip
              replace hm := ite_t hc3 e1
              refine WL.quiet (Runs.yes rfl rfl rfl hc3) rfl rfl (OV.quiet (ov_move rfl rfl)) ?_
              refine WL.quiet (Runs.yes rfl rfl rfl hc3) rfl rfl (OV.quiet (ov_move rfl rfl)) ?_
              obtain ⟨b1, e2, hm⟩ := bind_some hm
              refine WL.quiet (Runs.yes rfl rfl rfl hc3) rfl rfl (OV.quiet (ov_index_string Tryd.underlying9 rfl rfl rfl e2)) ?_
              refine WL.quiet (Runs.yes rfl rfl rfl hc3) rfl rfl (OV.quiet (ov_neq rfl rfl rfl)) ?_
              refine wq rfl rfl rfl (ov_pick_true rfl (guard_eq rfl hc3) rfl) ?_
              exact WL.nil ⟨Sub.cons' rfl (congrArg Value.bool (Option.some.inj hm)) (Sub.skip rfl (Sub.skip rfl (Sub.skip rfl (Sub.skip rfl (Sub.skip rfl (Sub.refl _)))))), fun _ s => s⟩
            · skip
              replace hm := ite_f hc3 e1
              refine WL.idle (Idle.no rfl rfl rfl hc3) rfl rfl ?_
              refine WL.idle (Idle.no rfl rfl rfl hc3) rfl rfl ?_
              refine WL.idle (Idle.no rfl rfl rfl hc3) rfl rfl ?_
              refine WL.idle (Idle.no rfl rfl rfl hc3) rfl rfl ?_
              refine wq rfl rfl rfl (ov_pick_false rfl (guard_eq rfl hc3) rfl) ?_
              exact WL.nil ⟨Sub.cons' rfl (congrArg Value.bool (Option.some.inj hm)) (Sub.skip rfl (Sub.skip rfl (Sub.skip rfl (Sub.skip rfl (Sub.skip rfl (Sub.refl _)))))), fun _ s => s⟩
          refine WL.nil (then_normal ?_)
          refine WP.cond rfl (fun hc4 => ?_) (fun hc4 => ?_)
          · replace hm := ite_t hc4 hm
            refine WP.seq (WP.region ?_)
            refine wq rfl rfl rfl (ov_move rfl rfl) ?_
            refine wq rfl rfl rfl (ov_move rfl rfl) ?_
            refine wq rfl rfl rfl (ov_move rfl rfl) ?_
            refine wq rfl rfl rfl (ov_move rfl rfl) ?_
            refine wq rfl rfl rfl (ov_add rfl rfl rfl) ?_
            obtain ⟨s2, e3, hm⟩ := bind_some hm
            refine wq rfl rfl rfl (ov_slice_string Tryd.underlying9 rfl rfl rfl rfl e3) ?_
            obtain ⟨s3, e4, hm⟩ := bind_some hm
            refine wq rfl rfl rfl (ov_sadd' e4 rfl rfl rfl) ?_
            refine wq rfl rfl rfl (ov_assign rfl rfl) ?_
            refine WL.nil (then_normal (WP.exit (then_exit (block_here (then_normal ?_)))))
            exact ⟨s3, l1, ao2, cap2, xs1, rl2, (Sub.cons rfl (Sub.cons rfl (Sub.cons rfl (Sub.cons rfl (Sub.cons rfl (Sub.nil _)))))), fun w' s => s, hm⟩
          · replace hm := ite_f hc4 hm
            refine WP.skip (then_normal ?_)
            obtain ⟨k3, hk3, hm⟩ := joinK_some hm
            refine WP.seq_join (fun g' S' => ∃ (l3 : (List (List UInt8))) (ao4 : Option Addr) (cap4 : Nat) (xs2 : List Value), RL H encStr l3 xs2 ∧ Sub [(0, (mkS p_line)), (3, (.slice ao4 l3.length cap4)), (5, (.int .i64 i1)), (1000000007, (.bool false))] g' ∧ (∀ w', S' w' → St w H [.row 9 (encStr).size l3.length (.slice ao4 l3.length cap4) xs2] H w') ∧ k3 l3 = some r) ?_ ?_
            · skip
              refine WP.seq (WP.region ?_)
              refine wq rfl rfl rfl (ov_move rfl rfl) ?_
              refine wq rfl rfl rfl (ov_sneq rfl rfl rfl) ?_
              refine WL.nil (then_normal ?_)
              refine WP.cond rfl (fun hc5 => ?_) (fun hc5 => ?_)
              · replace hm := ite_t hc5 hm
                refine WP.region ?_
                refine wq rfl rfl rfl (ov_move rfl rfl) ?_
                refine wq rfl rfl rfl (ov_move rfl rfl) ?_
                have rl3 : RL H encStr ([s1] : List (List UInt8)) [(mkS s1)] := RL.cons (cs := [(mkS s1)]) (xs := []) rfl (RL.nil _ _)
                refine WL.step (Runs.free rfl) rfl rfl (os_buildSlice (cs := [(mkS s1)]) (E := 9) (sz := 1) rfl rfl (fun _ => by kernel_rfl) rfl (by decide) (fun b2 => ?_))
                obtain ⟨l2, e5, hm⟩ := bind_some hm
                refine WL.step (Runs.free rfl) rfl rfl (os_app (i := 1) (j := 0) (En := encStr) (xs := xs1) (ys := [(mkS s1)]) Tryd.underlying44 (by kernel_rfl : (Tryd.prog.info? 9).map (fun i => (i.zero, i.size, i.bytes)) = some (some (mkS []), (encStr).size, 16)) rfl (by decide) rfl rfl rfl rfl rfl rfl rl2 rl3 e5 (fun ao3 cap3 rl4 => ?_))
                refine wq rfl rfl rfl (ov_assign rfl rfl) ?_
                refine WL.nil (then_normal ?_)
                exact ⟨(l1 ++ ([s1] : List (List UInt8))), ao3, cap3, (xs1 ++ [(mkS s1)]), rl4, (Sub.cons rfl (Sub.cons rfl (Sub.cons rfl (Sub.cons rfl (Sub.nil _))))), fun w' s => (s.select [1] (by decide) rfl), hm⟩
              · replace hm := ite_f hc5 hm
                refine WP.skip (then_normal ?_)
                exact ⟨l1, ao2, cap2, xs1, rl2, (Sub.cons rfl (Sub.cons rfl (Sub.cons rfl (Sub.cons rfl (Sub.nil _))))), fun w' s => s, hm⟩
            · rintro g' S' ⟨l3, ao4, cap4, xs2, rl5, hsub2, hS2, hm⟩
              refine WP.sub hsub2 (WP.weaken hS2 ?_)
              replace hm := (congrFun hk3 l3).symm.trans hm
              refine WP.region ?_
              refine wq rfl rfl rfl (ov_assign rfl rfl) ?_
              refine WL.nil (block_normal (then_normal ?_))
              exact ⟨[], l3, ao4, cap4, xs2, rl5, (Sub.cons rfl (Sub.cons rfl (Sub.cons rfl (Sub.cons rfl (Sub.cons rfl (Sub.nil _)))))), fun w' s => s, hm⟩
        · rintro g' S' ⟨s4, l4, ao5, cap5, xs3, rl6, hsub3, hS3, hm⟩
          refine WP.sub hsub3 (WP.weaken hS3 ?_)
          replace hm := (congrFun (congrFun hk2 s4) l4).symm.trans hm
          refine WP.region ?_
          refine wq rfl rfl rfl (ov_move rfl rfl) ?_
          refine wq rfl rfl rfl (ov_add rfl rfl rfl) ?_
          refine wq rfl rfl rfl (ov_assign rfl rfl) ?_
          refine WL.nil (then_normal ?_)
          exact ⟨s4, (IntKind.wrap .i64 (i1 + 1)), l4, ao5, cap5, xs3, rl6, (Sub.cons rfl (Sub.cons rfl (Sub.cons rfl (Sub.cons rfl (Sub.cons rfl (Sub.nil _)))))), fun w' s => s, hm⟩
      · replace hm := ite_f hc2 hm
        refine WP.exit (then_exit (then_exit (block_here (then_normal ?_))))
        exact ⟨l1, ao2, cap2, xs1, rl2, (Sub.cons rfl (Sub.cons rfl (Sub.nil _))), fun w' s => s, hm⟩
  · rintro g' S' ⟨l5, ao6, cap6, xs4, rl7, hsub4, hS4, hm⟩
    refine WP.sub hsub4 (WP.weaken hS4 ?_)
    replace hm := (congrFun hk1 l5).symm.trans hm
    refine WP.seq (WP.region ?_)
    refine wq rfl rfl rfl (ov_move rfl rfl) ?_
    refine wq rfl rfl rfl (ov_assign rfl rfl) ?_
    refine WL.nil (then_normal (WP.ret ?_))
    obtain rfl := Option.some.inj hm
    refine retQ_ret Tryd.results38 (Res.tmp rfl Res.nil) rfl (fun w' s => ⟨s.below, ?_⟩)
    obtain ⟨h2, hc6⟩ := s.ret_row (i := 0) rfl rl7
    exact ⟨ao6, cap6, rfl, h2, hc6⟩

theorem law12_bare_con (p_l : (List Token)) (ao1 : Option Addr) (cap1 : Nat) (w : World) (H : Heap) (hH : Le H (hp w)) (h1 : SL H encToken ao1 p_l) (hc1 : p_l.length ≤ cap1) (hG : Glob H) (r : (List Token)) (hm : law12_bare p_l = some r) :
    Con Tryd.prog 43 [(.slice ao1 p_l.length cap1)] w H (fun v H' => ∃ (ao2 : Option Addr) (cap2 : Nat), v = (.slice ao2 r.length cap2) ∧ SL H' encToken ao2 r ∧ r.length ≤ cap2) := by
  unfold law12_bare at hm
  refine con_of hH Tryd.func43 rfl 18 Tryd.ntmps43 rfl ?_
  refine WP.seq (WP.region ?_)
  refine wq rfl rfl rfl (ov_assign rfl rfl) ?_
  refine WL.nil (then_normal (WP.seq (WP.region ?_)))
  refine wq rfl rfl rfl (ov_move rfl rfl) ?_
  obtain ⟨l1, e1, hm⟩ := bind_some hm
  refine WL.step (Runs.free rfl) rfl rfl (os_clone rfl rfl h1 hc1 e1 (fun ao3 cap3 xs1 rl1 => ?_))
  refine wq rfl rfl rfl (ov_assign rfl rfl) ?_
  refine WL.nil (then_normal ?_)
  obtain ⟨k1, hk1, hm⟩ := joinK_some hm
  refine WP.seq_join (fun g' S' => ∃ (l3 : (List Token)) (ao5 : Option Addr) (cap5 : Nat) (xs3 : List Value), RL H encToken l3 xs3 ∧ Sub [(3, (.slice ao5 l3.length cap5)), (1000000007, (.bool false))] g' ∧ (∀ w', S' w' → St w H [.row 37 (encToken).size l3.length (.slice ao5 l3.length cap5) xs3] H w') ∧ k1 l3 = some r) ?_ ?_
  · skip
    refine WP.seq (WP.region ?_)
    refine wq rfl rfl rfl (ov_move rfl rfl) ?_
    refine wq rfl rfl rfl (ov_len_slice Tryd.underlying30 rfl rfl) ?_
    refine wq rfl rfl rfl (ov_move rfl rfl) ?_
    refine WL.nil (then_normal (WP.block ?_))
    refine WP.loop (fun m1 g' S' => ∃ (i1 : Int) (l2 : (List Token)) (ao4 : Option Addr) (cap4 : Nat) (xs2 : List Value), RL H encToken l2 xs2 ∧ Sub [(3, (.slice ao4 l2.length cap4)), (8, (.int .i64 (p_l.length : Int))), (9, (.int .i64 i1)), (1000000007, (.bool false))] g' ∧ (∀ w', S' w' → St w H [.row 37 (encToken).size l2.length (.slice ao4 l2.length cap4) xs2] H w') ∧ law12_bare_loop1 p_l k1 m1 i1 l2 = some r) ((Int.toNat ((p_l.length : Int) - 0) + 1)) ⟨0, p_l, ao3, cap3, xs1, rl1, (Sub.cons rfl (Sub.cons rfl (Sub.cons rfl (Sub.cons rfl (Sub.nil _))))), fun w' s => s, hm⟩ ?_ ?_
    · rintro g' S' ⟨_, _, _, _, _, _, _, _, hm⟩
      exact none_some hm
    · rintro m1 g' S' ⟨i1, l2, ao4, cap4, xs2, rl2, hsub1, hS1, hm⟩
      refine WP.sub hsub1 (WP.weaken hS1 ?_)
      rw [law12_bare_loop1] at hm
      refine WP.seq (WP.region ?_)
      refine wq rfl rfl rfl (ov_lss rfl rfl rfl) ?_
      refine WL.nil (then_normal (WP.seq ?_))
      refine WP.cond rfl (fun hc3 => ?_) (fun hc3 => ?_)
      · replace hm := ite_t hc3 hm
        refine WP.skip (then_normal (WP.seq (WP.block (WP.seq (WP.region ?_)))))
        refine wq rfl rfl rfl (ov_move rfl rfl) ?_
        refine wq rfl rfl rfl (ov_assign rfl rfl) ?_
        refine WL.nil (then_normal (WP.region ?_))
        refine wq rfl rfl rfl (ov_move rfl rfl) ?_
        refine wq rfl rfl rfl (ov_move rfl rfl) ?_
        obtain ⟨x1, e2, hm⟩ := bind_some hm
        obtain ⟨h3, h4, h5, cs1, h6, h7⟩ := RL.get rl2 e2
        obtain rfl : cs1 = [(.int .i64 x1.kind), (mkS x1.text), (.int .i64 x1.at_)] := h6
        refine wq rfl rfl rfl (ov_indexAddr_own (i := 0) Tryd.underlying30 Tryd.sizeOf37 rfl rfl rfl rfl h3 h4) ?_
        refine wq rfl rfl rfl (ov_fieldAddrE Tryd.underlying37 rfl rfl rfl Tryd.sizeOf3 rfl rfl) ?_
        have rl3 := RL.set rl2 (y := (Token.mk x1.kind x1.text 0)) (off := 2) (vs := [(.int .i64 0)]) e2 h7 rfl (Nat.le_of_ble_eq_true rfl)
        have e3 := at?_set (y := (Token.mk x1.kind x1.text 0)) e2
        refine WL.step0 (Runs.free rfl) rfl (os_store_own (i := 0) (vs := [(.int .i64 0)]) Tryd.sizeOf3 rfl rfl rfl rfl (own_pos h3 h4) rfl rfl (elem_le (off := 2) h5 (Nat.le_of_ble_eq_true rfl)) rfl ?_)
        rw [show l2.length = (List.set l2 (Int.toNat i1) (Token.mk x1.kind x1.text 0)).length from List.length_set.symm]
        obtain ⟨h8, h9, h10, cs2, h11, h12⟩ := rl3.get e3
        obtain rfl : cs2 = [(.int .i64 x1.kind), (mkS x1.text), (.int .i64 0)] := h11
        refine WL.nil (block_normal (then_normal (WP.region ?_)))
        refine wq rfl rfl rfl (ov_add rfl rfl rfl) ?_
        refine wq rfl rfl rfl (ov_move rfl rfl) ?_
        refine WL.nil (then_normal ?_)
        exact ⟨(IntKind.wrap .i64 (i1 + 1)), (List.set l2 (Int.toNat i1) (Token.mk x1.kind x1.text 0)), ao4, cap4, (spl xs2 (Int.toNat i1 * encToken.size + 2) [(.int .i64 0)]), rl3, (Sub.cons rfl (Sub.cons rfl (Sub.cons rfl (Sub.cons rfl (Sub.nil _))))), fun w' s => s, hm⟩
      · replace hm := ite_f hc3 hm
        refine WP.exit (then_exit (then_exit (block_here (then_normal ?_))))
        exact ⟨l2, ao4, cap4, xs2, rl2, (Sub.cons rfl (Sub.cons rfl (Sub.nil _))), fun w' s => s, hm⟩
  · rintro g' S' ⟨l3, ao5, cap5, xs3, rl4, hsub2, hS2, hm⟩
    refine WP.sub hsub2 (WP.weaken hS2 ?_)
    replace hm := (congrFun hk1 l3).symm.trans hm
    refine WP.seq (WP.region ?_)
    refine wq rfl rfl rfl (ov_move rfl rfl) ?_
    refine wq rfl rfl rfl (ov_assign rfl rfl) ?_
    refine WL.nil (then_normal (WP.ret ?_))
    obtain rfl := Option.some.inj hm
    refine retQ_ret Tryd.results43 (Res.tmp rfl Res.nil) rfl (fun w' s => ⟨s.below, ?_⟩)
    obtain ⟨h13, hc4⟩ := s.ret_row (i := 0) rfl rl4
    exact ⟨ao5, cap5, rfl, h13, hc4⟩

end Go.Proofs.YtmfphbdafgmplaaDoor.W
