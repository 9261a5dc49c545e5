/- The walks. Written by our own program gen.py; Lean checks it. -/
import Derived.Test.YtmfphbdafgmplaaDoorPlain
import Derived.Test.YtmfphbdafgmplaaDoorEqs
import Derived.Test.YtmfphbdafgmplaaDoorProg
import Derived.Test.YtmfphbdafgmplaaDoorExt
import Derived.Test.YtmfphbdafgmplaaDoorClone
import Derived.Test.YtmfphbdafgmplaaDoorBuild
import Derived.Test.YtmfphbdafgmplaaDoorWalk0
import Derived.Test.YtmfphbdafgmplaaDoorWalk1
set_option linter.unusedVariables false
set_option maxRecDepth 100000
set_option maxHeartbeats 4000000
namespace Go.Proofs.YtmfphbdafgmplaaDoor.W
open Go Go.RowKit
theorem lexer_Scan_con (p_text : (List UInt8)) (w : World) (H : Heap) (hH : Le H (hp w)) (hG : Glob H) (r : ((List Token) × Int × Int)) (hm : lexer_Scan p_text = some r) :
    Con Tryd.prog 15 [(mkS p_text)] w H (fun v H' => ∃ (ao1 : Option Addr) (cap1 : Nat), v = (.tuple #[(.slice ao1 r.1.length cap1), (.int .i64 r.2.1), (.int .i64 r.2.2)]) ∧ SL H' encToken ao1 r.1 ∧ r.1.length ≤ cap1) := by
  unfold lexer_Scan at hm
  refine con_of hH Tryd.func15 rfl 25 Tryd.ntmps15 rfl ?_
  refine WP.seq (WP.region ?_)
  refine WL.step (Runs.free rfl) rfl rfl (os_alloc (cs := [(.slice none 0 0)]) Tryd.zeroValue30 rfl rfl (fun b1 => ?_))
  refine WL.step (Runs.free rfl) rfl rfl (os_alloc (cs := [(.int .i64 0)]) Tryd.zeroValue3 rfl rfl (fun b2 => ?_))
  refine WL.step (Runs.free rfl) rfl rfl (os_alloc (cs := [(.int .i64 0)]) Tryd.zeroValue24 rfl rfl (fun b3 => ?_))
  refine WL.nil (then_normal (WP.seq (WP.seq (WP.region ?_))))
  refine wq rfl rfl rfl (ov_move rfl rfl) ?_
  refine wq rfl rfl rfl (ov_len_string Tryd.underlying9 rfl rfl) ?_
  refine wq rfl rfl rfl (ov_gtr rfl rfl rfl) ?_
  refine WL.nil (then_normal ?_)
  refine WP.cond rfl (fun hc2 => ?_) (fun hc2 => ?_)
  · replace hm := ite_t hc2 hm
    refine WP.seq (WP.region ?_)
    refine WL.step0 (Runs.free rfl) rfl (os_store (i := 2) (vs := [(.slice none 0 0)]) (cs' := [(.slice none 0 0)]) Tryd.sizeOf30 rfl rfl rfl rfl rfl rfl rfl rfl rfl ?_)
    refine WL.step0 (Runs.free rfl) rfl (os_store (i := 1) (vs := [(.int .i64 0)]) (cs' := [(.int .i64 0)]) Tryd.sizeOf3 rfl rfl rfl rfl rfl rfl rfl rfl rfl ?_)
    refine WL.step0 (Runs.free rfl) rfl (os_store (i := 0) (vs := [(.int .i64 17)]) (cs' := [(.int .i64 17)]) Tryd.sizeOf24 rfl rfl rfl rfl rfl rfl rfl rfl rfl ?_)
    refine WL.nil (then_normal (WP.ret (then_ret ?_)))
    obtain rfl := Option.some.inj hm
    refine retQ_ret Tryd.results15 (Res.cell rfl (box_load (i := 2) Tryd.isAgg30 rfl) (Res.cell rfl (box_load (i := 1) Tryd.isAgg3 rfl) (Res.cell rfl (box_load (i := 0) Tryd.isAgg24 rfl) Res.nil))) rfl (fun w' s => ⟨s.below, ?_⟩)
    exact ⟨none, 0, rfl, SL.nil _ _ _, Nat.le_refl _⟩
  · replace hm := ite_f hc2 hm
    refine WP.skip (then_normal (WP.seq (WP.region ?_)))
    refine WL.step (Runs.free rfl) rfl rfl (os_alloc (cs := [(.slice none 0 0)]) Tryd.zeroValue30 rfl rfl (fun b4 => ?_))
    refine WL.nil (then_normal (WP.seq (WP.seq (WP.region ?_))))
    refine wq rfl rfl rfl (ov_move rfl rfl) ?_
    refine WL.step (Runs.free rfl) rfl rfl (os_inline (cap := []) (vs := [(mkS p_text)]) Tryd.call44 rfl rfl rfl Tryd.func44 rfl 6 Tryd.ntmps44 rfl (fun w' s => ?_))
    refine WP.seq (WP.region ?_)
    refine WL.step (Runs.free rfl) rfl rfl (os_box (cs := [(mkS p_text)]) rfl rfl rfl (fun b5 => ?_))
    refine wq rfl rfl rfl (ov_assign rfl rfl) ?_
    refine WL.nil (then_normal (WP.seq (WP.region ?_)))
    refine WL.step (Runs.free rfl) rfl rfl (os_inline (cap := []) (vs := []) Tryd.call81 rfl rfl rfl Tryd.func81 rfl 8 Tryd.ntmps81 rfl (fun w' s => ?_))
    refine WP.seq (WP.region ?_)
    refine WL.step (Runs.free rfl) rfl rfl (os_alloc (cs := [(.int .i64 0), (.slice none 0 0), .nilFunc, (.int .i64 0), (.slice none 0 0), .nilFunc, (.int .i64 0), (.slice none 0 0), .nilFunc, (.int .i64 0), (.slice none 0 0), .nilFunc, (.int .i64 0), (.slice none 0 0), .nilFunc, (.int .i64 0), (.slice none 0 0), .nilFunc]) Tryd.zeroValue110 rfl rfl (fun b6 => ?_))
    refine WL.nil (then_normal (WP.seq (WP.region ?_)))
    have rl1 : RL H (encInt .i64) ([1, 2, 3] : List Int) [(.int .i64 1), (.int .i64 2), (.int .i64 3)] := RL.cons (cs := [(.int .i64 1)]) (xs := [(.int .i64 2), (.int .i64 3)]) rfl (RL.cons (cs := [(.int .i64 2)]) (xs := [(.int .i64 3)]) rfl (RL.cons (cs := [(.int .i64 3)]) (xs := []) rfl (RL.nil _ _)))
    refine WL.step (Runs.free rfl) rfl rfl (os_buildSlice (cs := [(.int .i64 1), (.int .i64 2), (.int .i64 3)]) (E := 3) (sz := 1) rfl rfl (fun _ => by kernel_rfl) rfl (by decide) (fun b7 => ?_))
    refine WL.held rl1 (fun H1 hc3 hle1 h2 => ?_)
    replace hG := hG.mono hle1
    refine wq rfl rfl rfl (ov_build (r := (.agg #[(.int .i64 0), (.slice (some ⟨b7, 0, none⟩) ([1, 2, 3] : List Int).length 3), (.func (.func 21) #[] #[])])) rfl rfl (fun _ => by kernel_rfl)) ?_
    have rl2 : RL H1 (encInt .i64) ([2] : List Int) [(.int .i64 2)] := RL.cons (cs := [(.int .i64 2)]) (xs := []) rfl (RL.nil _ _)
    refine WL.step (Runs.free rfl) rfl rfl (os_buildSlice (cs := [(.int .i64 2)]) (E := 3) (sz := 1) rfl rfl (fun _ => by kernel_rfl) rfl (by decide) (fun b8 => ?_))
    refine WL.held rl2 (fun H2 hc4 hle2 h3 => ?_)
    replace h2 := h2.mono hle2
    replace hG := hG.mono hle2
    refine wq rfl rfl rfl (ov_build (r := (.agg #[(.int .i64 1), (.slice (some ⟨b8, 0, none⟩) ([2] : List Int).length 1), (.func (.func 20) #[] #[])])) rfl rfl (fun _ => by kernel_rfl)) ?_
    refine wq rfl rfl rfl (ov_build (r := (.agg #[(.int .i64 2), (.slice none 0 0), (.func (.func 98) #[] #[])])) rfl rfl (fun _ => by kernel_rfl)) ?_
    refine wq rfl rfl rfl (ov_build (r := (.agg #[(.int .i64 0), (.slice none 0 0), .nilFunc])) rfl rfl (fun _ => by kernel_rfl)) ?_
    refine wq rfl rfl rfl (ov_build (r := (.agg #[(.int .i64 0), (.slice none 0 0), .nilFunc, (.int .i64 0), (.slice (some ⟨b7, 0, none⟩) ([1, 2, 3] : List Int).length 3), (.func (.func 21) #[] #[]), (.int .i64 1), (.slice (some ⟨b8, 0, none⟩) ([2] : List Int).length 1), (.func (.func 20) #[] #[]), (.int .i64 0), (.slice none 0 0), .nilFunc, (.int .i64 2), (.slice none 0 0), (.func (.func 98) #[] #[]), (.int .i64 0), (.slice none 0 0), .nilFunc])) rfl rfl (fun _ => by kernel_rfl)) ?_
    refine WL.step0 (Runs.free rfl) rfl (os_store (i := 0) (vs := [(.int .i64 0), (.slice none 0 0), .nilFunc, (.int .i64 0), (.slice (some ⟨b7, 0, none⟩) ([1, 2, 3] : List Int).length 3), (.func (.func 21) #[] #[]), (.int .i64 1), (.slice (some ⟨b8, 0, none⟩) ([2] : List Int).length 1), (.func (.func 20) #[] #[]), (.int .i64 0), (.slice none 0 0), .nilFunc, (.int .i64 2), (.slice none 0 0), (.func (.func 98) #[] #[]), (.int .i64 0), (.slice none 0 0), .nilFunc]) (cs' := [(.int .i64 0), (.slice none 0 0), .nilFunc, (.int .i64 0), (.slice (some ⟨b7, 0, none⟩) ([1, 2, 3] : List Int).length 3), (.func (.func 21) #[] #[]), (.int .i64 1), (.slice (some ⟨b8, 0, none⟩) ([2] : List Int).length 1), (.func (.func 20) #[] #[]), (.int .i64 0), (.slice none 0 0), .nilFunc, (.int .i64 2), (.slice none 0 0), (.func (.func 98) #[] #[]), (.int .i64 0), (.slice none 0 0), .nilFunc]) Tryd.sizeOf110 rfl rfl rfl rfl rfl rfl rfl rfl rfl ?_)
    refine WL.nil (then_normal (WP.ret ?_))
    refine retQ_ret (v := (.agg #[(.int .i64 0), (.slice none 0 0), .nilFunc, (.int .i64 0), (.slice (some ⟨b7, 0, none⟩) ([1, 2, 3] : List Int).length 3), (.func (.func 21) #[] #[]), (.int .i64 1), (.slice (some ⟨b8, 0, none⟩) ([2] : List Int).length 1), (.func (.func 20) #[] #[]), (.int .i64 0), (.slice none 0 0), .nilFunc, (.int .i64 2), (.slice none 0 0), (.func (.func 98) #[] #[]), (.int .i64 0), (.slice none 0 0), .nilFunc])) Tryd.results81 (Res.cell rfl (box_loads (i := 0) Tryd.isAgg110 Tryd.sizeOf110 rfl rfl) Res.nil) rfl (fun w' s => ⟨_, ?_, s⟩)
    refine WL.step (Runs.free rfl) rfl rfl (os_alloc (cs := [(.int .i64 0), (.slice none 0 0), .nilFunc, (.int .i64 0), (.slice none 0 0), .nilFunc, (.int .i64 0), (.slice none 0 0), .nilFunc, (.int .i64 0), (.slice none 0 0), .nilFunc, (.int .i64 0), (.slice none 0 0), .nilFunc, (.int .i64 0), (.slice none 0 0), .nilFunc]) Tryd.zeroValue110 rfl rfl (fun b9 => ?_))
    refine WL.step0 (Runs.free rfl) rfl (os_store (i := 0) (vs := [(.int .i64 0), (.slice none 0 0), .nilFunc, (.int .i64 0), (.slice (some ⟨b7, 0, none⟩) ([1, 2, 3] : List Int).length 3), (.func (.func 21) #[] #[]), (.int .i64 1), (.slice (some ⟨b8, 0, none⟩) ([2] : List Int).length 1), (.func (.func 20) #[] #[]), (.int .i64 0), (.slice none 0 0), .nilFunc, (.int .i64 2), (.slice none 0 0), (.func (.func 98) #[] #[]), (.int .i64 0), (.slice none 0 0), .nilFunc]) (cs' := [(.int .i64 0), (.slice none 0 0), .nilFunc, (.int .i64 0), (.slice (some ⟨b7, 0, none⟩) ([1, 2, 3] : List Int).length 3), (.func (.func 21) #[] #[]), (.int .i64 1), (.slice (some ⟨b8, 0, none⟩) ([2] : List Int).length 1), (.func (.func 20) #[] #[]), (.int .i64 0), (.slice none 0 0), .nilFunc, (.int .i64 2), (.slice none 0 0), (.func (.func 98) #[] #[]), (.int .i64 0), (.slice none 0 0), .nilFunc]) Tryd.sizeOf110 rfl rfl rfl rfl rfl rfl rfl rfl rfl ?_)
    refine WL.nil (then_normal (WP.seq (WP.region ?_)))
    refine wq rfl rfl rfl (ov_makeFunc' (first := []) rfl rfl rfl) ?_
    refine wq rfl rfl rfl (ov_assign rfl rfl) ?_
    refine WL.nil (then_normal (WP.ret ?_))
    refine retQ_ret (v := (.func (.func 82) #[] #[(pB b5 0), (pB b9 0)])) Tryd.results44 (Res.tmp rfl Res.nil) rfl (fun w' s => ⟨_, ?_, s⟩)
    refine WL.nil (then_normal (WP.block ?_))
    refine WP.range (ps := [13, 14]) (cap := [(pB b5 0), (pB b9 0)]) Tryd.call82 rfl Tryd.func82 rfl 70 Tryd.ntmps82 rfl (fun l1 D1 R1 hr1 => ?_)
    obtain ⟨k1, hk1, hm⟩ := joinK_some hm
    refine WP.seq_join (fun g' S' => ∃ (l9 : (List Token)) (ao9 : Option Addr) (cap9 : Nat) (xs2 : List Value), RL H2 encToken l9 xs2 ∧ Sub [(0, (.func (.yield l1) #[] #[])), (1, (pB b5 0)), (1000000007, (.bool false))] g' ∧ (∀ w', S' w' → St w H [.row 37 (encToken).size l9.length (.slice ao9 l9.length cap9) xs2, .obj l1 (R1 .ready none), .obj D1 (.deferred (some [])), .blk b9 110 [(.int .i64 0), (.slice none 0 0), .nilFunc, (.int .i64 0), (.slice (some ⟨b7, 0, none⟩) ([1, 2, 3] : List Int).length 3), (.func (.func 21) #[] #[]), (.int .i64 1), (.slice (some ⟨b8, 0, none⟩) ([2] : List Int).length 1), (.func (.func 20) #[] #[]), (.int .i64 0), (.slice none 0 0), .nilFunc, (.int .i64 2), (.slice none 0 0), (.func (.func 98) #[] #[]), (.int .i64 0), (.slice none 0 0), .nilFunc], .blk b5 9 [(mkS p_text)], .blk b4 30 [(.slice ao9 l9.length cap9)], .blk b3 24 [(.int .i64 0)], .blk b2 3 [(.int .i64 0)], .blk b1 30 [(.slice none 0 0)]] H2 w') ∧ k1 l9 = some r) ?_ ?_
    · skip
      refine WP.seq (WP.region ?_)
      refine wq rfl rfl rfl (ov_assign rfl rfl) ?_
      refine WL.nil (then_normal (WP.block ?_))
      have rl3 := RL.nil (α := Token) H2 encToken
      refine WP.weaken (fun _ s => s.nilrow 37 (encToken).size) ?_
      refine WP.loop (fun m1 g' S' => ∃ (i1 : Int) (l2 : (List Token)) (ao2 : Option Addr) (cap2 : Nat) (xs1 : List Value), RL H2 encToken l2 xs1 ∧ Sub [(0, (.func (.yield l1) #[] #[])), (1, (pB b5 0)), (2, (pB b9 0)), (4, (.int .i64 i1)), (1000000007, (.bool false))] g' ∧ (∀ w', S' w' → St w H [.row 37 (encToken).size l2.length (.slice ao2 l2.length cap2) xs1, .obj l1 (R1 .ready none), .obj D1 (.deferred (some [])), .blk b9 110 [(.int .i64 0), (.slice none 0 0), .nilFunc, (.int .i64 0), (.slice (some ⟨b7, 0, none⟩) ([1, 2, 3] : List Int).length 3), (.func (.func 21) #[] #[]), (.int .i64 1), (.slice (some ⟨b8, 0, none⟩) ([2] : List Int).length 1), (.func (.func 20) #[] #[]), (.int .i64 0), (.slice none 0 0), .nilFunc, (.int .i64 2), (.slice none 0 0), (.func (.func 98) #[] #[]), (.int .i64 0), (.slice none 0 0), .nilFunc], .blk b5 9 [(mkS p_text)], .blk b4 30 [(.slice ao2 l2.length cap2)], .blk b3 24 [(.int .i64 0)], .blk b2 3 [(.int .i64 0)], .blk b1 30 [(.slice none 0 0)]] H2 w') ∧ lexer_Scan_loop1 p_text k1 m1 i1 l2 = some r) ((Int.toNat ((p_text.length : Int) - 0) + 1)) ⟨0, ([] : List Token), none, 0, [], rl3, (Sub.cons rfl (Sub.cons rfl (Sub.cons rfl (Sub.cons rfl (Sub.cons rfl (Sub.nil _)))))), fun w' s => (s.select [0, 1, 2, 3, 5, 6, 7, 8, 9] (by decide) rfl), hm⟩ ?_ ?_
      · rintro g' S' ⟨_, _, _, _, _, _, _, _, hm⟩
        exact none_some hm
      · rintro m1 g' S' ⟨i1, l2, ao2, cap2, xs1, rl4, hsub1, hS1, hm⟩
        refine WP.sub hsub1 (WP.weaken hS1 ?_)
        rw [lexer_Scan_loop1] at hm
        refine WP.seq (WP.seq (WP.region ?_))
        refine wq rfl rfl rfl (ov_move rfl rfl) ?_
        refine wq rfl rfl rfl (ov_load_box (i := 4) Tryd.isAgg9 rfl rfl rfl rfl) ?_
        refine wq rfl rfl rfl (ov_len_string Tryd.underlying9 rfl rfl) ?_
        refine wq rfl rfl rfl (ov_lss rfl rfl rfl) ?_
        refine WL.nil (then_normal ?_)
        refine WP.cond rfl (fun hc5 => ?_) (fun hc5 => ?_)
        · replace hm := ite_t hc5 hm
          refine WP.skip (then_normal (WP.block (WP.seq (WP.region ?_))))
          refine wq rfl rfl rfl (ov_load_box (i := 4) Tryd.isAgg9 rfl rfl rfl rfl) ?_
          refine wq rfl rfl rfl (ov_move rfl rfl) ?_
          obtain ⟨b10, e1, hm⟩ := bind_some hm
          refine wq rfl rfl rfl (ov_index_string Tryd.underlying9 rfl rfl rfl e1) ?_
          obtain ⟨r1, e2, hm⟩ := bind_some hm
          refine WL.quiet (Runs.free rfl) rfl rfl (oq_con (r := (.int .i64 r1)) Tryd.call49 rfl rfl (fun w' s => ⟨_, (lexer_class_con (b10.toNat : Int)  w' H2 s.hold hG r1 e2)⟩)) ?_
          refine wq rfl rfl rfl (ov_assign rfl rfl) ?_
          refine WL.nil (then_normal (WP.seq (WP.seq (WP.region ?_))))
          refine wq rfl rfl rfl (ov_move rfl rfl) ?_
          refine wq rfl rfl rfl (ov_eql rfl rfl rfl) ?_
          refine WL.nil (then_normal ?_)
          refine WP.cond rfl (fun hc6 => ?_) (fun hc6 => ?_)
          · replace hm := ite_t hc6 hm
            refine WP.seq (WP.region ?_)
            refine wq rfl rfl rfl (ov_move rfl rfl) ?_
            refine wq rfl rfl rfl (ov_add rfl rfl rfl) ?_
            refine wq rfl rfl rfl (ov_assign rfl rfl) ?_
            refine WL.nil (then_normal (WP.exit (then_exit (block_here (then_normal ?_)))))
            exact ⟨(IntKind.wrap .i64 (i1 + 1)), l2, ao2, cap2, xs1, rl4, (Sub.cons rfl (Sub.cons rfl (Sub.cons rfl (Sub.cons rfl (Sub.cons rfl (Sub.nil _)))))), fun w' s => s, hm⟩
          · replace hm := ite_f hc6 hm
            refine WP.skip (then_normal (WP.seq (WP.region ?_)))
            refine wq rfl rfl rfl (ov_move rfl rfl) ?_
            rcases Bool.eq_false_or_eq_true (r1 == 0) with hc7 | hc7
            · replace hm := ite_t hc7 hm
              refine wq rfl rfl rfl (ov_indexAddr_at (j := 0) Tryd.underlying110 Tryd.sizeOf109 rfl rfl rfl (eq_of_beq hc7) rfl) ?_
              refine wq rfl rfl rfl (ov_load_boxes (i := 3) (vs := [(.int .i64 0), (.slice none 0 0), .nilFunc]) Tryd.isAgg109 Tryd.sizeOf109 rfl rfl rfl rfl (part_of rfl)) ?_
              refine WL.step (Runs.free rfl) rfl rfl (os_alloc (cs := [(.int .i64 0), (.slice none 0 0), .nilFunc]) Tryd.zeroValue109 rfl rfl (fun b11 => ?_))
              refine WL.step0 (Runs.free rfl) rfl (os_store (i := 0) (vs := [(.int .i64 0), (.slice none 0 0), .nilFunc]) (cs' := [(.int .i64 0), (.slice none 0 0), .nilFunc]) Tryd.sizeOf109 rfl rfl rfl rfl rfl rfl rfl rfl rfl ?_)
              refine WL.nil (then_normal (WP.seq (WP.seq (WP.region ?_))))
              refine wq rfl rfl rfl (ov_fieldAddr Tryd.underlying109 rfl rfl rfl Tryd.sizeOf42 rfl rfl) ?_
              refine wq rfl rfl rfl (ov_load_box (i := 0) Tryd.isAgg42 rfl rfl rfl rfl) ?_
              refine wq rfl rfl rfl (ov_binOp (r := .bool true) rfl rfl rfl eqGuard_nofn (fun _ => by kernel_rfl)) ?_
              refine WL.nil (then_normal (WP.cond_true rfl (WP.seq (WP.region ?_))))
              refine wq rfl rfl rfl (ov_move rfl rfl) ?_
              refine wq rfl rfl rfl (ov_move rfl rfl) ?_
              refine wq rfl rfl rfl (ov_build (r := (.agg #[(.int .i64 0), (mkS []), (.int .i64 i1)])) rfl rfl (fun _ => by kernel_rfl)) ?_
              refine WL.yield (i := 2) (vs := [(.agg #[(.int .i64 0), (mkS []), (.int .i64 i1)]), (.int .i64 4)]) (Runs.free rfl) rfl rfl rfl rfl rfl hr1 rfl rfl rfl ?_
              refine WP.seq (WP.region ?_)
              refine WL.step (Runs.free rfl) rfl rfl (os_alloc (cs := [(.int .i64 0), (mkS []), (.int .i64 0)]) Tryd.zeroValue37 rfl rfl (fun b12 => ?_))
              refine WL.step0 (Runs.free rfl) rfl (os_store (i := 0) (vs := [(.int .i64 0), (mkS []), (.int .i64 i1)]) (cs' := [(.int .i64 0), (mkS []), (.int .i64 i1)]) Tryd.sizeOf37 rfl rfl rfl rfl rfl rfl rfl rfl rfl ?_)
              refine WL.nil (then_normal (WP.region ?_))
              refine wq rfl rfl rfl (ov_assign rfl rfl) ?_
              refine WL.nil (then_normal ?_)
              refine begin_of (i := 3) rfl ?_
              refine WP.block (WP.seq (WP.seq (WP.region ?_)))
              refine wq rfl rfl rfl (ov_move rfl rfl) ?_
              refine wq rfl rfl rfl (ov_neq rfl rfl rfl) ?_
              refine WL.nil (then_normal ?_)
              refine WP.cond rfl (fun hc8 => ?_) (fun hc8 => ?_)
              · replace hm := ite_t hc8 hm
                refine WP.seq ?_
                refine WP.region_anyF (S₀ := St w H [.blk b12 37 [(.int .i64 0), (mkS []), (.int .i64 i1)], .blk b11 109 [(.int .i64 0), (.slice none 0 0), .nilFunc], .row 37 (encToken).size l2.length (.slice ao2 l2.length cap2) xs1, .obj l1 (R1 .busy none), .obj D1 (.deferred (some [])), .blk b9 110 [(.int .i64 0), (.slice none 0 0), .nilFunc, (.int .i64 0), (.slice (some ⟨b7, 0, none⟩) ([1, 2, 3] : List Int).length 3), (.func (.func 21) #[] #[]), (.int .i64 1), (.slice (some ⟨b8, 0, none⟩) ([2] : List Int).length 1), (.func (.func 20) #[] #[]), (.int .i64 0), (.slice none 0 0), .nilFunc, (.int .i64 2), (.slice none 0 0), (.func (.func 98) #[] #[]), (.int .i64 0), (.slice none 0 0), .nilFunc], .blk b5 9 [(mkS p_text)], .blk b4 30 [(.slice ao2 l2.length cap2)]] H2) 6 rfl (by kernel_rfl) (by kernel_rfl) (fun w' s => (s.select [0, 1, 2, 3, 4, 5, 6, 7] (by decide) rfl)) (fun _ s => s.drew) ?_
                refine tq (i := 0) rfl (by kernel_rfl) rfl rfl rfl (ov_fieldAddr Tryd.underlying37 rfl rfl rfl Tryd.sizeOf3 rfl rfl) ?_
                refine tq (i := 1) rfl (by kernel_rfl) rfl rfl rfl (ov_load_box (i := 0) Tryd.isAgg3 rfl rfl rfl rfl) ?_
                refine tq (i := 2) rfl (by kernel_rfl) rfl rfl rfl (ov_move rfl rfl) ?_
                refine AL.any (rs := [3]) (by kernel_rfl) (by decide) ?_
                refine ALs.cons0 (i := 3) rfl (Runs.free rfl) rfl ?_ ?_
                · skip
                  refine os_store (i := 10) (vs := [(.slice none 0 0)]) (cs' := [(.slice none 0 0)]) Tryd.sizeOf30 rfl rfl rfl rfl rfl rfl rfl rfl rfl ?_
                  refine ⟨fun w' s => (s.select [0, 1, 2, 3, 4, 5, 6, 7] (by decide) rfl), ?_⟩
                  refine AL.any (rs := [4]) (by kernel_rfl) (by decide) ?_
                  refine ALs.cons0 (i := 4) rfl (Runs.free rfl) rfl ?_ ?_
                  · skip
                    refine os_store (i := 9) (vs := [(.int .i64 i1)]) (cs' := [(.int .i64 i1)]) Tryd.sizeOf3 rfl rfl rfl rfl rfl rfl rfl rfl rfl ?_
                    refine ⟨fun w' s => (s.select [0, 1, 2, 3, 4, 5, 6, 7] (by decide) rfl), ?_⟩
                    refine AL.any (rs := [5]) (by kernel_rfl) (by decide) ?_
                    refine ALs.cons0 (i := 5) rfl (Runs.free rfl) rfl ?_ ?_
                    · skip
                      refine os_store (i := 8) (vs := [(.int .i64 4)]) (cs' := [(.int .i64 4)]) Tryd.sizeOf24 rfl rfl rfl rfl rfl rfl rfl rfl rfl ?_
                      refine ⟨fun w' s => (s.select [0, 1, 2, 3, 4, 5, 6, 7] (by decide) rfl), ?_⟩
                      refine AL.done (by kernel_rfl) ?_
                      refine then_normal (WP.ret (then_ret (block_ret ?_)))
                      refine round_ret (i := 3) rfl ?_
                      refine WL.nil (then_normal (WP.ret (then_ret (block_ret (then_ret (block_ret (then_ret ?_)))))))
                      refine retQ_ret (v := (.tuple #[])) Tryd.results82 Res.nil rfl (fun w' s => ⟨St w H [.obj l1 (R1 .done (some .ret)), .obj D1 (.deferred (some [])), .blk b12 37 [(.int .i64 0), (mkS []), (.int .i64 i1)], .blk b11 109 [(.int .i64 0), (.slice none 0 0), .nilFunc], .row 37 (encToken).size l2.length (.slice ao2 l2.length cap2) xs1, .blk b9 110 [(.int .i64 0), (.slice none 0 0), .nilFunc, (.int .i64 0), (.slice (some ⟨b7, 0, none⟩) ([1, 2, 3] : List Int).length 3), (.func (.func 21) #[] #[]), (.int .i64 1), (.slice (some ⟨b8, 0, none⟩) ([2] : List Int).length 1), (.func (.func 20) #[] #[]), (.int .i64 0), (.slice none 0 0), .nilFunc, (.int .i64 2), (.slice none 0 0), (.func (.func 98) #[] #[]), (.int .i64 0), (.slice none 0 0), .nilFunc], .blk b5 9 [(mkS p_text)], .blk b4 30 [(.slice ao2 l2.length cap2)], .blk b3 24 [(.int .i64 4)], .blk b2 3 [(.int .i64 i1)], .blk b1 30 [(.slice none 0 0)]] H2, ?_, (s.select [3, 4, 0, 1, 2, 5, 6, 7, 8, 9, 10] (by decide) rfl)⟩)
                      refine after_ret ?_
                      refine block_ret (then_ret ?_)
                      obtain rfl := Option.some.inj hm
                      refine retQ_retM (i := 0) rfl Tryd.results15 (Res.cell rfl (box_load (i := 8) Tryd.isAgg30 rfl) (Res.cell rfl (box_load (i := 7) Tryd.isAgg3 rfl) (Res.cell rfl (box_load (i := 6) Tryd.isAgg24 rfl) Res.nil))) rfl (fun w' s => ⟨s.below, ?_⟩)
                      exact ⟨none, 0, rfl, SL.nil _ _ _, Nat.le_refl _⟩
                    exact ALs.nil
                  exact ALs.nil
                exact ALs.nil
              · replace hm := ite_f hc8 hm
                refine WP.skip (then_normal (WP.region ?_))
                refine wq rfl rfl rfl (ov_load_box (i := 7) Tryd.isAgg30 rfl rfl rfl rfl) ?_
                refine wq rfl rfl rfl (ov_load_whole (i := 0) Tryd.isAgg37 Tryd.sizeOf37 rfl rfl rfl rfl) ?_
                have rl5 : RL H2 encToken ([(Token.mk 0 [] i1)] : List Token) [(.int .i64 0), (mkS []), (.int .i64 i1)] := RL.cons (cs := [(.int .i64 0), (mkS []), (.int .i64 i1)]) (xs := []) rfl (RL.nil _ _)
                refine WL.step (Runs.free rfl) rfl rfl (os_buildSlice (cs := [(.int .i64 0), (mkS []), (.int .i64 i1)]) (E := 37) (sz := 3) rfl rfl (fun _ => by kernel_rfl) rfl (by decide) (fun b13 => ?_))
                obtain ⟨l3, e3, hm⟩ := bind_some hm
                refine WL.step (Runs.free rfl) rfl rfl (os_app (i := 3) (j := 0) (En := encToken) (xs := xs1) (ys := [(.int .i64 0), (mkS []), (.int .i64 i1)]) Tryd.underlying30 (by kernel_rfl : (Tryd.prog.info? 37).map (fun i => (i.zero, i.size, i.bytes)) = some (some (.agg #[(.int .i64 0), (mkS []), (.int .i64 0)]), (encToken).size, 32)) rfl (by decide) rfl rfl rfl rfl rfl rfl rl4 rl5 e3 (fun ao3 cap3 rl6 => ?_))
                refine WL.step0 (Runs.free rfl) rfl (os_store (i := 8) (vs := [(.slice ao3 (l2 ++ ([(Token.mk 0 [] i1)] : List Token)).length cap3)]) (cs' := [(.slice ao3 (l2 ++ ([(Token.mk 0 [] i1)] : List Token)).length cap3)]) Tryd.sizeOf30 rfl rfl rfl rfl rfl rfl rfl rfl rfl ?_)
                refine WL.nil (block_normal ?_)
                refine round_normal (i := 4) rfl ?_
                refine WL.nil (then_normal (WP.ret (then_ret (block_ret (then_ret (block_ret (then_ret ?_)))))))
                refine retQ_ret (v := (.tuple #[])) Tryd.results82 Res.nil rfl (fun w' s => ⟨St w H [.obj l1 (R1 .ready none), .obj D1 (.deferred (some [])), .row 37 (encToken).size ([(Token.mk 0 [] i1)] : List Token).length (.slice (some ⟨b13, 0, none⟩) ([(Token.mk 0 [] i1)] : List Token).length 1) [(.int .i64 0), (mkS []), (.int .i64 i1)], .blk b12 37 [(.int .i64 0), (mkS []), (.int .i64 i1)], .blk b11 109 [(.int .i64 0), (.slice none 0 0), .nilFunc], .row 37 (encToken).size (l2 ++ ([(Token.mk 0 [] i1)] : List Token)).length (.slice ao3 (l2 ++ ([(Token.mk 0 [] i1)] : List Token)).length cap3) (xs1 ++ [(.int .i64 0), (mkS []), (.int .i64 i1)]), .blk b9 110 [(.int .i64 0), (.slice none 0 0), .nilFunc, (.int .i64 0), (.slice (some ⟨b7, 0, none⟩) ([1, 2, 3] : List Int).length 3), (.func (.func 21) #[] #[]), (.int .i64 1), (.slice (some ⟨b8, 0, none⟩) ([2] : List Int).length 1), (.func (.func 20) #[] #[]), (.int .i64 0), (.slice none 0 0), .nilFunc, (.int .i64 2), (.slice none 0 0), (.func (.func 98) #[] #[]), (.int .i64 0), (.slice none 0 0), .nilFunc], .blk b5 9 [(mkS p_text)], .blk b4 30 [(.slice ao3 (l2 ++ ([(Token.mk 0 [] i1)] : List Token)).length cap3)], .blk b3 24 [(.int .i64 0)], .blk b2 3 [(.int .i64 0)], .blk b1 30 [(.slice none 0 0)]] H2, ?_, (s.select [4, 5, 0, 1, 2, 3, 6, 7, 8, 9, 10, 11] (by decide) rfl)⟩)
                refine after_normal ?_
                refine block_normal (then_normal (WP.seq (WP.region ?_)))
                refine wq rfl rfl rfl (ov_load_box (i := 7) Tryd.isAgg30 rfl rfl rfl rfl) ?_
                refine WL.step0 (Runs.free rfl) rfl (os_store (i := 10) (vs := [(.slice ao3 (l2 ++ ([(Token.mk 0 [] i1)] : List Token)).length cap3)]) (cs' := [(.slice ao3 (l2 ++ ([(Token.mk 0 [] i1)] : List Token)).length cap3)]) Tryd.sizeOf30 rfl rfl rfl rfl rfl rfl rfl rfl rfl ?_)
                refine WL.step0 (Runs.free rfl) rfl (os_store (i := 9) (vs := [(.int .i64 0)]) (cs' := [(.int .i64 0)]) Tryd.sizeOf3 rfl rfl rfl rfl rfl rfl rfl rfl rfl ?_)
                refine WL.step0 (Runs.free rfl) rfl (os_store (i := 8) (vs := [(.int .i64 0)]) (cs' := [(.int .i64 0)]) Tryd.sizeOf24 rfl rfl rfl rfl rfl rfl rfl rfl rfl ?_)
                refine WL.nil (then_normal (WP.ret ?_))
                obtain rfl := Option.some.inj hm
                refine retQ_retM (i := 0) rfl Tryd.results15 (Res.cell rfl (box_load (i := 9) Tryd.isAgg30 rfl) (Res.cell rfl (box_load (i := 8) Tryd.isAgg3 rfl) (Res.cell rfl (box_load (i := 7) Tryd.isAgg24 rfl) Res.nil))) rfl (fun w' s => ⟨s.below, ?_⟩)
                obtain ⟨h4, hc9⟩ := s.ret_row (i := 3) rfl rl6
                exact ⟨ao3, cap3, rfl, h4, hc9⟩
            · replace hm := ite_f hc7 hm
              rcases Bool.eq_false_or_eq_true (r1 == 1) with hc10 | hc10
              · replace hm := ite_t hc10 hm
                refine wq rfl rfl rfl (ov_indexAddr_at (j := 1) Tryd.underlying110 Tryd.sizeOf109 rfl rfl rfl (eq_of_beq hc10) rfl) ?_
                refine wq rfl rfl rfl (ov_load_boxes (i := 3) (vs := [(.int .i64 0), (.slice (some ⟨b7, 0, none⟩) ([1, 2, 3] : List Int).length 3), (.func (.func 21) #[] #[])]) Tryd.isAgg109 Tryd.sizeOf109 rfl rfl rfl rfl (part_of rfl)) ?_
                refine WL.step (Runs.free rfl) rfl rfl (os_alloc (cs := [(.int .i64 0), (.slice none 0 0), .nilFunc]) Tryd.zeroValue109 rfl rfl (fun b14 => ?_))
                refine WL.step0 (Runs.free rfl) rfl (os_store (i := 0) (vs := [(.int .i64 0), (.slice (some ⟨b7, 0, none⟩) ([1, 2, 3] : List Int).length 3), (.func (.func 21) #[] #[])]) (cs' := [(.int .i64 0), (.slice (some ⟨b7, 0, none⟩) ([1, 2, 3] : List Int).length 3), (.func (.func 21) #[] #[])]) Tryd.sizeOf109 rfl rfl rfl rfl rfl rfl rfl rfl rfl ?_)
                refine WL.nil (then_normal (WP.seq (WP.seq (WP.region ?_))))
                refine wq rfl rfl rfl (ov_fieldAddr Tryd.underlying109 rfl rfl rfl Tryd.sizeOf42 rfl rfl) ?_
                refine wq rfl rfl rfl (ov_load_box (i := 0) Tryd.isAgg42 rfl rfl rfl rfl) ?_
                refine wq rfl rfl rfl (ov_binOp (r := .bool false) rfl rfl rfl eqGuard_fn (fun _ => by kernel_rfl)) ?_
                refine WL.nil (then_normal (WP.cond_false rfl (WP.skip (then_normal (WP.seq ?_)))))
                refine WP.region_draws (by kernel_rfl) (by kernel_rfl) (fun _ s => s.drew) ?_
                refine QL.quiet (Runs.free rfl) rfl rfl (OV.quiet (ov_load_box (i := 5) Tryd.isAgg9 rfl rfl rfl rfl)) ?_
                refine QL.quiet (Runs.free rfl) rfl rfl (OV.quiet (ov_move rfl rfl)) ?_
                obtain ⟨s1, e4, hm⟩ := bind_some hm
                refine QL.quiet (Runs.free rfl) rfl rfl (OV.quiet (ov_slice_string_from Tryd.underlying9 rfl rfl rfl e4)) ?_
                refine QL.quiet (Runs.free rfl) rfl rfl (OV.quiet (ov_fieldAddr Tryd.underlying109 rfl rfl rfl Tryd.sizeOf107 rfl rfl)) ?_
                refine QL.quiet (Runs.free rfl) rfl rfl (OV.quiet (ov_load_box (i := 0) Tryd.isAgg107 rfl rfl rfl rfl)) ?_
                obtain ⟨r2, e5, hm⟩ := bind_some hm
                refine QL.quiet (Runs.free rfl) rfl rfl (oq_con (r := (.int .i64 r2)) Tryd.call48 rfl rfl (fun w' s => ⟨_, (lexer_run_con s1 ([1, 2, 3] : List Int) (some ⟨b7, 0, none⟩) 3  w' H2 s.hold h2 hc3 hG r2 e5)⟩)) ?_
                refine QL.quiet (Runs.free rfl) rfl rfl (OV.quiet (ov_max rfl rfl rfl)) ?_
                refine QL.quiet (Runs.free rfl) rfl rfl (OV.quiet (ov_assign rfl rfl)) ?_
                refine QL.nil ?_
                refine then_normal (WP.seq (WP.region ?_))
                refine wq rfl rfl rfl (ov_load_box (i := 5) Tryd.isAgg9 rfl rfl rfl rfl) ?_
                refine wq rfl rfl rfl (ov_move rfl rfl) ?_
                refine wq rfl rfl rfl (ov_move rfl rfl) ?_
                refine wq rfl rfl rfl (ov_move rfl rfl) ?_
                refine wq rfl rfl rfl (ov_add rfl rfl rfl) ?_
                obtain ⟨s2, e6, hm⟩ := bind_some hm
                refine wq rfl rfl rfl (ov_slice_string Tryd.underlying9 rfl rfl rfl rfl e6) ?_
                refine wq rfl rfl rfl (ov_assign rfl rfl) ?_
                refine WL.nil (then_normal (WP.seq ?_))
                obtain ⟨k2, hk2, hm⟩ := joinK_some hm
                refine WP.seq_join (fun g' S' => ∃ (i2 : Int), Sub [(0, (.func (.yield l1) #[] #[])), (1, (pB b5 0)), (2, (pB b9 0)), (4, (.int .i64 i1)), (6, (pB b14 0)), (7, (.int .i64 (if r2 > 1 then r2 else 1))), (8, (mkS s2)), (9, (.int .i64 i2)), (1000000007, (.bool false))] g' ∧ (∀ w', S' w' → St w H [.blk b14 109 [(.int .i64 0), (.slice (some ⟨b7, 0, none⟩) ([1, 2, 3] : List Int).length 3), (.func (.func 21) #[] #[])], .row 37 (encToken).size l2.length (.slice ao2 l2.length cap2) xs1, .obj l1 (R1 .ready none), .obj D1 (.deferred (some [])), .blk b9 110 [(.int .i64 0), (.slice none 0 0), .nilFunc, (.int .i64 0), (.slice (some ⟨b7, 0, none⟩) ([1, 2, 3] : List Int).length 3), (.func (.func 21) #[] #[]), (.int .i64 1), (.slice (some ⟨b8, 0, none⟩) ([2] : List Int).length 1), (.func (.func 20) #[] #[]), (.int .i64 0), (.slice none 0 0), .nilFunc, (.int .i64 2), (.slice none 0 0), (.func (.func 98) #[] #[]), (.int .i64 0), (.slice none 0 0), .nilFunc], .blk b5 9 [(mkS p_text)], .blk b4 30 [(.slice ao2 l2.length cap2)], .blk b3 24 [(.int .i64 0)], .blk b2 3 [(.int .i64 0)], .blk b1 30 [(.slice none 0 0)]] H2 w') ∧ k2 i2 = some r) ?_ ?_
                · skip
                  refine WP.region ?_
                  refine wq rfl rfl rfl (ov_fieldAddr Tryd.underlying109 rfl rfl rfl Tryd.sizeOf42 rfl rfl) ?_
                  refine wq rfl rfl rfl (ov_load_box (i := 0) Tryd.isAgg42 rfl rfl rfl rfl) ?_
                  refine wq rfl rfl rfl (ov_move rfl rfl) ?_
                  refine WL.step (Runs.free rfl) rfl rfl (os_inline (cap := []) (vs := [(mkS s2)]) Tryd.call21 rfl rfl rfl Tryd.func21 rfl 24 Tryd.ntmps21 rfl (fun w' s => ?_))
                  refine WP.seq (WP.region ?_)
                  refine wq rfl rfl rfl (ov_assign rfl rfl) ?_
                  refine WL.nil (then_normal (WP.seq (WP.block (WP.seq (WP.region ?_)))))
                  refine wq rfl rfl rfl (ov_move rfl rfl) ?_
                  refine wq rfl rfl rfl (ov_seql rfl rfl rfl) ?_
                  refine wq rfl rfl rfl (ov_move rfl rfl) ?_
                  obtain ⟨c1, e7, hm⟩ := bind_some hm
                  refine WL.cut_bool 5 11 (x := c1) ?_ ?_
                  · rcases Bool.eq_false_or_eq_true (s2 == []) with hc11 | hc11
                    · skip
                      replace hm := ite_t hc11 e7
                      refine WL.idle (Idle.no rfl rfl rfl hc11) rfl rfl ?_
                      refine WL.idle (Idle.no rfl rfl rfl hc11) rfl rfl ?_
                      refine WL.idle (Idle.no rfl rfl rfl hc11) rfl rfl ?_
                      refine WL.idle (Idle.no rfl rfl rfl hc11) rfl rfl ?_
                      refine wq rfl rfl rfl (ov_pick_true rfl (guard_eq rfl hc11) rfl) ?_
                      exact WL.nil ⟨Sub.cons' rfl (congrArg Value.bool (Option.some.inj hm)) (Sub.skip rfl (Sub.skip rfl (Sub.skip rfl (Sub.skip rfl (Sub.skip rfl (Sub.refl _)))))), fun _ s => s⟩
                    · skip
                      replace hm := ite_f hc11 e7
                      refine WL.quiet (Runs.yes rfl rfl rfl hc11) rfl rfl (OV.quiet (ov_move rfl rfl)) ?_
                      obtain ⟨b15, e8, hm⟩ := bind_some hm
                      refine WL.quiet (Runs.yes rfl rfl rfl hc11) rfl rfl (OV.quiet (ov_index_string Tryd.underlying9 rfl rfl rfl e8)) ?_
                      obtain ⟨r3, e9, hm⟩ := bind_some hm
                      refine WL.quiet (Runs.yes rfl rfl rfl hc11) rfl rfl (oq_con (r := (.int .i64 r3)) Tryd.call49 rfl rfl (fun w' s => ⟨_, (lexer_class_con (b15.toNat : Int)  w' H2 s.hold hG r3 e9)⟩)) ?_
                      refine WL.quiet (Runs.yes rfl rfl rfl hc11) rfl rfl (OV.quiet (ov_neq rfl rfl rfl)) ?_
                      refine wq rfl rfl rfl (ov_pick_false rfl (guard_eq rfl hc11) rfl) ?_
                      exact WL.nil ⟨Sub.cons' rfl (congrArg Value.bool (Option.some.inj hm)) (Sub.skip rfl (Sub.skip rfl (Sub.skip rfl (Sub.skip rfl (Sub.skip rfl (Sub.refl _)))))), fun _ s => s⟩
                  refine wq rfl rfl rfl (ov_move rfl rfl) ?_
                  obtain ⟨c2, e10, hm⟩ := bind_some hm
                  refine WL.cut_bool 7 19 (x := c2) ?_ ?_
                  · rcases Bool.eq_false_or_eq_true c1 with hc12 | hc12
                    · skip
                      replace hm := ite_t hc12 e10
                      refine WL.idle (Idle.no rfl rfl rfl hc12) rfl rfl ?_
                      refine WL.idle (Idle.no rfl rfl rfl hc12) rfl rfl ?_
                      refine WL.idle (Idle.no rfl rfl rfl hc12) rfl rfl ?_
                      refine WL.idle (Idle.no rfl rfl rfl hc12) rfl rfl ?_
                      refine WL.idle (Idle.no rfl rfl rfl hc12) rfl rfl ?_
                      refine WL.idle (Idle.no rfl rfl rfl hc12) rfl rfl ?_
                      refine wq rfl rfl rfl (ov_pick_true rfl (guard_eq rfl hc12) rfl) ?_
                      exact WL.nil ⟨Sub.cons' rfl (congrArg Value.bool (Option.some.inj hm)) (Sub.skip rfl (Sub.skip rfl (Sub.skip rfl (Sub.skip rfl (Sub.skip rfl (Sub.skip rfl (Sub.skip rfl (Sub.refl _)))))))), fun _ s => s⟩
                    · skip
                      replace hm := ite_f hc12 e10
                      refine WL.quiet (Runs.yes rfl rfl rfl hc12) rfl rfl (OV.quiet (ov_move rfl rfl)) ?_
                      have rl7 : RL H2 (encInt .i64) ([1, 2, 3] : List Int) [(.int .i64 1), (.int .i64 2), (.int .i64 3)] := RL.cons (cs := [(.int .i64 1)]) (xs := [(.int .i64 2), (.int .i64 3)]) rfl (RL.cons (cs := [(.int .i64 2)]) (xs := [(.int .i64 3)]) rfl (RL.cons (cs := [(.int .i64 3)]) (xs := []) rfl (RL.nil _ _)))
                      refine WL.step (Runs.yes rfl rfl rfl hc12) rfl rfl (os_buildSlice (cs := [(.int .i64 1), (.int .i64 2), (.int .i64 3)]) (E := 3) (sz := 1) rfl rfl (fun _ => by kernel_rfl) rfl (by decide) (fun b16 => ?_))
                      refine WL.held rl7 (fun H3 hc13 hle3 h5 => ?_)
                      replace h2 := h2.mono hle3
                      replace rl4 := rl4.mono hle3
                      replace h3 := h3.mono hle3
                      replace hG := hG.mono hle3
                      obtain ⟨r4, e11, hm⟩ := bind_some hm
                      refine WL.quiet (Runs.yes rfl rfl rfl hc12) rfl rfl (oq_con (r := (.int .i64 r4)) Tryd.call48 rfl rfl (fun w' s => ⟨_, (lexer_run_con s2 ([1, 2, 3] : List Int) (some ⟨b16, 0, none⟩) 3  w' H3 s.hold h5 hc13 hG r4 e11)⟩)) ?_
                      refine WL.quiet (Runs.yes rfl rfl rfl hc12) rfl rfl (OV.quiet (ov_move rfl rfl)) ?_
                      refine WL.quiet (Runs.yes rfl rfl rfl hc12) rfl rfl (OV.quiet (ov_len_string Tryd.underlying9 rfl rfl)) ?_
                      refine WL.quiet (Runs.yes rfl rfl rfl hc12) rfl rfl (OV.quiet (ov_neq rfl rfl rfl)) ?_
                      refine wq rfl rfl rfl (ov_pick_false rfl (guard_eq rfl hc12) rfl) ?_
                      exact WL.nil ⟨Sub.cons' rfl (congrArg Value.bool (Option.some.inj hm)) (Sub.skip rfl (Sub.skip rfl (Sub.skip rfl (Sub.skip rfl (Sub.skip rfl (Sub.skip rfl (Sub.skip rfl (Sub.refl _)))))))), fun _ s => (s.heap hle3)⟩
                  refine wq rfl rfl rfl (ov_assign rfl rfl) ?_
                  refine WL.nil (then_normal ?_)
                  refine WP.cond rfl (fun hc14 => ?_) (fun hc14 => ?_)
                  · replace hm := ite_t hc14 hm
                    refine WP.seq (WP.region ?_)
                    refine wq rfl rfl rfl (ov_assign rfl rfl) ?_
                    refine WL.nil (then_normal (WP.ret (block_ret (then_ret ?_))))
                    refine retQ_ret (v := (.int .i64 3)) Tryd.results21 (Res.tmp rfl Res.nil) rfl (fun w' s => ⟨_, ?_, s⟩)
                    refine wq rfl rfl rfl (ov_assign rfl rfl) ?_
                    refine WL.nil (then_normal ?_)
                    exact ⟨3, (Sub.cons rfl (Sub.cons rfl (Sub.cons rfl (Sub.cons rfl (Sub.cons rfl (Sub.cons rfl (Sub.cons rfl (Sub.cons rfl (Sub.cons rfl (Sub.nil _)))))))))), fun w' s => s, hm⟩
                  · replace hm := ite_f hc14 hm
                    refine WP.seq (WP.region ?_)
                    refine wq rfl rfl rfl (ov_move rfl rfl) ?_
                    refine wq rfl rfl rfl (ov_len_string Tryd.underlying9 rfl rfl) ?_
                    refine wq rfl rfl rfl (ov_gtr rfl rfl rfl) ?_
                    refine wq rfl rfl rfl (ov_assign rfl rfl) ?_
                    refine WL.nil (then_normal ?_)
                    refine WP.cond rfl (fun hc15 => ?_) (fun hc15 => ?_)
                    · replace hm := ite_t hc15 hm
                      refine WP.seq (WP.region ?_)
                      refine wq rfl rfl rfl (ov_assign rfl rfl) ?_
                      refine WL.nil (then_normal (WP.ret (block_ret (then_ret ?_))))
                      refine retQ_ret (v := (.int .i64 17)) Tryd.results21 (Res.tmp rfl Res.nil) rfl (fun w' s => ⟨_, ?_, s⟩)
                      refine wq rfl rfl rfl (ov_assign rfl rfl) ?_
                      refine WL.nil (then_normal ?_)
                      exact ⟨17, (Sub.cons rfl (Sub.cons rfl (Sub.cons rfl (Sub.cons rfl (Sub.cons rfl (Sub.cons rfl (Sub.cons rfl (Sub.cons rfl (Sub.cons rfl (Sub.nil _)))))))))), fun w' s => s, hm⟩
                    · replace hm := ite_f hc15 hm
                      refine WP.skip (block_normal (then_normal (WP.seq (WP.region ?_))))
                      refine wq rfl rfl rfl (ov_assign rfl rfl) ?_
                      refine WL.nil (then_normal (WP.ret ?_))
                      refine retQ_ret (v := (.int .i64 0)) Tryd.results21 (Res.tmp rfl Res.nil) rfl (fun w' s => ⟨_, ?_, s⟩)
                      refine wq rfl rfl rfl (ov_assign rfl rfl) ?_
                      refine WL.nil (then_normal ?_)
                      exact ⟨0, (Sub.cons rfl (Sub.cons rfl (Sub.cons rfl (Sub.cons rfl (Sub.cons rfl (Sub.cons rfl (Sub.cons rfl (Sub.cons rfl (Sub.cons rfl (Sub.nil _)))))))))), fun w' s => s, hm⟩
                · rintro g' S' ⟨i2, hsub2, hS2, hm⟩
                  refine WP.sub hsub2 (WP.weaken hS2 ?_)
                  replace hm := (congrFun hk2 i2).symm.trans hm
                  refine WP.seq (WP.region ?_)
                  refine wq rfl rfl rfl (ov_move rfl rfl) ?_
                  refine wq rfl rfl rfl (ov_fieldAddr Tryd.underlying109 rfl rfl rfl Tryd.sizeOf3 rfl rfl) ?_
                  refine wq rfl rfl rfl (ov_load_box (i := 0) Tryd.isAgg3 rfl rfl rfl rfl) ?_
                  refine wq rfl rfl rfl (ov_move rfl rfl) ?_
                  refine wq rfl rfl rfl (ov_move rfl rfl) ?_
                  refine wq rfl rfl rfl (ov_build (r := (.agg #[(.int .i64 0), (mkS s2), (.int .i64 i1)])) rfl rfl (fun _ => by kernel_rfl)) ?_
                  refine wq rfl rfl rfl (ov_move rfl rfl) ?_
                  refine WL.yield (i := 2) (vs := [(.agg #[(.int .i64 0), (mkS s2), (.int .i64 i1)]), (.int .i64 i2)]) (Runs.free rfl) rfl rfl rfl rfl rfl hr1 rfl rfl rfl ?_
                  refine WP.seq (WP.region ?_)
                  refine WL.step (Runs.free rfl) rfl rfl (os_alloc (cs := [(.int .i64 0), (mkS []), (.int .i64 0)]) Tryd.zeroValue37 rfl rfl (fun b17 => ?_))
                  refine WL.step0 (Runs.free rfl) rfl (os_store (i := 0) (vs := [(.int .i64 0), (mkS s2), (.int .i64 i1)]) (cs' := [(.int .i64 0), (mkS s2), (.int .i64 i1)]) Tryd.sizeOf37 rfl rfl rfl rfl rfl rfl rfl rfl rfl ?_)
                  refine WL.nil (then_normal (WP.region ?_))
                  refine wq rfl rfl rfl (ov_assign rfl rfl) ?_
                  refine WL.nil (then_normal ?_)
                  refine begin_of (i := 3) rfl ?_
                  refine WP.block (WP.seq (WP.seq (WP.region ?_)))
                  refine wq rfl rfl rfl (ov_move rfl rfl) ?_
                  refine wq rfl rfl rfl (ov_neq rfl rfl rfl) ?_
                  refine WL.nil (then_normal ?_)
                  refine WP.cond rfl (fun hc16 => ?_) (fun hc16 => ?_)
                  · replace hm := ite_t hc16 hm
                    refine WP.seq ?_
                    refine WP.region_anyF (S₀ := St w H [.blk b17 37 [(.int .i64 0), (mkS s2), (.int .i64 i1)], .blk b14 109 [(.int .i64 0), (.slice (some ⟨b7, 0, none⟩) ([1, 2, 3] : List Int).length 3), (.func (.func 21) #[] #[])], .row 37 (encToken).size l2.length (.slice ao2 l2.length cap2) xs1, .obj l1 (R1 .busy none), .obj D1 (.deferred (some [])), .blk b9 110 [(.int .i64 0), (.slice none 0 0), .nilFunc, (.int .i64 0), (.slice (some ⟨b7, 0, none⟩) ([1, 2, 3] : List Int).length 3), (.func (.func 21) #[] #[]), (.int .i64 1), (.slice (some ⟨b8, 0, none⟩) ([2] : List Int).length 1), (.func (.func 20) #[] #[]), (.int .i64 0), (.slice none 0 0), .nilFunc, (.int .i64 2), (.slice none 0 0), (.func (.func 98) #[] #[]), (.int .i64 0), (.slice none 0 0), .nilFunc], .blk b5 9 [(mkS p_text)], .blk b4 30 [(.slice ao2 l2.length cap2)]] H2) 6 rfl (by kernel_rfl) (by kernel_rfl) (fun w' s => (s.select [0, 1, 2, 3, 4, 5, 6, 7] (by decide) rfl)) (fun _ s => s.drew) ?_
                    refine tq (i := 0) rfl (by kernel_rfl) rfl rfl rfl (ov_fieldAddr Tryd.underlying37 rfl rfl rfl Tryd.sizeOf3 rfl rfl) ?_
                    refine tq (i := 1) rfl (by kernel_rfl) rfl rfl rfl (ov_load_box (i := 0) Tryd.isAgg3 rfl rfl rfl rfl) ?_
                    refine tq (i := 2) rfl (by kernel_rfl) rfl rfl rfl (ov_move rfl rfl) ?_
                    refine AL.any (rs := [3]) (by kernel_rfl) (by decide) ?_
                    refine ALs.cons0 (i := 3) rfl (Runs.free rfl) rfl ?_ ?_
                    · skip
                      refine os_store (i := 10) (vs := [(.slice none 0 0)]) (cs' := [(.slice none 0 0)]) Tryd.sizeOf30 rfl rfl rfl rfl rfl rfl rfl rfl rfl ?_
                      refine ⟨fun w' s => (s.select [0, 1, 2, 3, 4, 5, 6, 7] (by decide) rfl), ?_⟩
                      refine AL.any (rs := [4]) (by kernel_rfl) (by decide) ?_
                      refine ALs.cons0 (i := 4) rfl (Runs.free rfl) rfl ?_ ?_
                      · skip
                        refine os_store (i := 9) (vs := [(.int .i64 i1)]) (cs' := [(.int .i64 i1)]) Tryd.sizeOf3 rfl rfl rfl rfl rfl rfl rfl rfl rfl ?_
                        refine ⟨fun w' s => (s.select [0, 1, 2, 3, 4, 5, 6, 7] (by decide) rfl), ?_⟩
                        refine AL.any (rs := [5]) (by kernel_rfl) (by decide) ?_
                        refine ALs.cons0 (i := 5) rfl (Runs.free rfl) rfl ?_ ?_
                        · skip
                          refine os_store (i := 8) (vs := [(.int .i64 i2)]) (cs' := [(.int .i64 i2)]) Tryd.sizeOf24 rfl rfl rfl rfl rfl rfl rfl rfl rfl ?_
                          refine ⟨fun w' s => (s.select [0, 1, 2, 3, 4, 5, 6, 7] (by decide) rfl), ?_⟩
                          refine AL.done (by kernel_rfl) ?_
                          refine then_normal (WP.ret (then_ret (block_ret ?_)))
                          refine round_ret (i := 3) rfl ?_
                          refine wq rfl rfl rfl (ov_not rfl rfl) ?_
                          refine wq rfl rfl rfl (ov_move rfl rfl) ?_
                          refine WL.idle (Idle.no rfl rfl rfl rfl) rfl rfl ?_
                          refine WL.idle (Idle.no rfl rfl rfl rfl) rfl rfl ?_
                          refine wq rfl rfl rfl (ov_pick_true rfl (guard_eq rfl rfl) rfl) ?_
                          refine WL.nil (then_normal (WP.cond_true rfl (WP.ret (then_ret (block_ret (then_ret (block_ret (then_ret ?_))))))))
                          refine retQ_ret (v := (.tuple #[])) Tryd.results82 Res.nil rfl (fun w' s => ⟨St w H [.obj l1 (R1 .done (some .ret)), .obj D1 (.deferred (some [])), .blk b17 37 [(.int .i64 0), (mkS s2), (.int .i64 i1)], .blk b14 109 [(.int .i64 0), (.slice (some ⟨b7, 0, none⟩) ([1, 2, 3] : List Int).length 3), (.func (.func 21) #[] #[])], .row 37 (encToken).size l2.length (.slice ao2 l2.length cap2) xs1, .blk b9 110 [(.int .i64 0), (.slice none 0 0), .nilFunc, (.int .i64 0), (.slice (some ⟨b7, 0, none⟩) ([1, 2, 3] : List Int).length 3), (.func (.func 21) #[] #[]), (.int .i64 1), (.slice (some ⟨b8, 0, none⟩) ([2] : List Int).length 1), (.func (.func 20) #[] #[]), (.int .i64 0), (.slice none 0 0), .nilFunc, (.int .i64 2), (.slice none 0 0), (.func (.func 98) #[] #[]), (.int .i64 0), (.slice none 0 0), .nilFunc], .blk b5 9 [(mkS p_text)], .blk b4 30 [(.slice ao2 l2.length cap2)], .blk b3 24 [(.int .i64 i2)], .blk b2 3 [(.int .i64 i1)], .blk b1 30 [(.slice none 0 0)]] H2, ?_, (s.select [3, 4, 0, 1, 2, 5, 6, 7, 8, 9, 10] (by decide) rfl)⟩)
                          refine after_ret ?_
                          refine block_ret (then_ret ?_)
                          obtain rfl := Option.some.inj hm
                          refine retQ_retM (i := 0) rfl Tryd.results15 (Res.cell rfl (box_load (i := 8) Tryd.isAgg30 rfl) (Res.cell rfl (box_load (i := 7) Tryd.isAgg3 rfl) (Res.cell rfl (box_load (i := 6) Tryd.isAgg24 rfl) Res.nil))) rfl (fun w' s => ⟨s.below, ?_⟩)
                          exact ⟨none, 0, rfl, SL.nil _ _ _, Nat.le_refl _⟩
                        exact ALs.nil
                      exact ALs.nil
                    exact ALs.nil
                  · replace hm := ite_f hc16 hm
                    refine WP.skip (then_normal (WP.region ?_))
                    refine wq rfl rfl rfl (ov_load_box (i := 7) Tryd.isAgg30 rfl rfl rfl rfl) ?_
                    refine wq rfl rfl rfl (ov_load_whole (i := 0) Tryd.isAgg37 Tryd.sizeOf37 rfl rfl rfl rfl) ?_
                    have rl8 : RL H2 encToken ([(Token.mk 0 s2 i1)] : List Token) [(.int .i64 0), (mkS s2), (.int .i64 i1)] := RL.cons (cs := [(.int .i64 0), (mkS s2), (.int .i64 i1)]) (xs := []) rfl (RL.nil _ _)
                    refine WL.step (Runs.free rfl) rfl rfl (os_buildSlice (cs := [(.int .i64 0), (mkS s2), (.int .i64 i1)]) (E := 37) (sz := 3) rfl rfl (fun _ => by kernel_rfl) rfl (by decide) (fun b18 => ?_))
                    obtain ⟨l4, e12, hm⟩ := bind_some hm
                    refine WL.step (Runs.free rfl) rfl rfl (os_app (i := 3) (j := 0) (En := encToken) (xs := xs1) (ys := [(.int .i64 0), (mkS s2), (.int .i64 i1)]) Tryd.underlying30 (by kernel_rfl : (Tryd.prog.info? 37).map (fun i => (i.zero, i.size, i.bytes)) = some (some (.agg #[(.int .i64 0), (mkS []), (.int .i64 0)]), (encToken).size, 32)) rfl (by decide) rfl rfl rfl rfl rfl rfl rl4 rl8 e12 (fun ao4 cap4 rl9 => ?_))
                    refine WL.step0 (Runs.free rfl) rfl (os_store (i := 8) (vs := [(.slice ao4 (l2 ++ ([(Token.mk 0 s2 i1)] : List Token)).length cap4)]) (cs' := [(.slice ao4 (l2 ++ ([(Token.mk 0 s2 i1)] : List Token)).length cap4)]) Tryd.sizeOf30 rfl rfl rfl rfl rfl rfl rfl rfl rfl ?_)
                    refine WL.nil (block_normal ?_)
                    refine round_normal (i := 4) rfl ?_
                    refine wq rfl rfl rfl (ov_not rfl rfl) ?_
                    refine wq rfl rfl rfl (ov_move rfl rfl) ?_
                    refine WL.quiet (Runs.yes rfl rfl rfl rfl) rfl rfl (OV.quiet (ov_move rfl rfl)) ?_
                    refine WL.quiet (Runs.yes rfl rfl rfl rfl) rfl rfl (OV.quiet (ov_neq rfl rfl rfl)) ?_
                    refine wq rfl rfl rfl (ov_pick_false rfl (guard_eq rfl rfl) rfl) ?_
                    refine WL.nil (then_normal ?_)
                    refine WP.cond rfl (fun hc17 => ?_) (fun hc17 => ?_)
                    · replace hm := ite_t hc17 hm
                      refine WP.ret (then_ret (block_ret (then_ret (block_ret (then_ret ?_)))))
                      refine retQ_ret (v := (.tuple #[])) Tryd.results82 Res.nil rfl (fun w' s => ⟨St w H [.obj l1 (R1 .ready none), .obj D1 (.deferred (some [])), .row 37 (encToken).size ([(Token.mk 0 s2 i1)] : List Token).length (.slice (some ⟨b18, 0, none⟩) ([(Token.mk 0 s2 i1)] : List Token).length 1) [(.int .i64 0), (mkS s2), (.int .i64 i1)], .blk b17 37 [(.int .i64 0), (mkS s2), (.int .i64 i1)], .blk b14 109 [(.int .i64 0), (.slice (some ⟨b7, 0, none⟩) ([1, 2, 3] : List Int).length 3), (.func (.func 21) #[] #[])], .row 37 (encToken).size (l2 ++ ([(Token.mk 0 s2 i1)] : List Token)).length (.slice ao4 (l2 ++ ([(Token.mk 0 s2 i1)] : List Token)).length cap4) (xs1 ++ [(.int .i64 0), (mkS s2), (.int .i64 i1)]), .blk b9 110 [(.int .i64 0), (.slice none 0 0), .nilFunc, (.int .i64 0), (.slice (some ⟨b7, 0, none⟩) ([1, 2, 3] : List Int).length 3), (.func (.func 21) #[] #[]), (.int .i64 1), (.slice (some ⟨b8, 0, none⟩) ([2] : List Int).length 1), (.func (.func 20) #[] #[]), (.int .i64 0), (.slice none 0 0), .nilFunc, (.int .i64 2), (.slice none 0 0), (.func (.func 98) #[] #[]), (.int .i64 0), (.slice none 0 0), .nilFunc], .blk b5 9 [(mkS p_text)], .blk b4 30 [(.slice ao4 (l2 ++ ([(Token.mk 0 s2 i1)] : List Token)).length cap4)], .blk b3 24 [(.int .i64 0)], .blk b2 3 [(.int .i64 0)], .blk b1 30 [(.slice none 0 0)]] H2, ?_, (s.select [4, 5, 0, 1, 2, 3, 6, 7, 8, 9, 10, 11] (by decide) rfl)⟩)
                      refine after_normal ?_
                      refine block_normal (then_normal (WP.seq (WP.region ?_)))
                      refine wq rfl rfl rfl (ov_load_box (i := 7) Tryd.isAgg30 rfl rfl rfl rfl) ?_
                      refine WL.step0 (Runs.free rfl) rfl (os_store (i := 10) (vs := [(.slice ao4 (l2 ++ ([(Token.mk 0 s2 i1)] : List Token)).length cap4)]) (cs' := [(.slice ao4 (l2 ++ ([(Token.mk 0 s2 i1)] : List Token)).length cap4)]) Tryd.sizeOf30 rfl rfl rfl rfl rfl rfl rfl rfl rfl ?_)
                      refine WL.step0 (Runs.free rfl) rfl (os_store (i := 9) (vs := [(.int .i64 0)]) (cs' := [(.int .i64 0)]) Tryd.sizeOf3 rfl rfl rfl rfl rfl rfl rfl rfl rfl ?_)
                      refine WL.step0 (Runs.free rfl) rfl (os_store (i := 8) (vs := [(.int .i64 0)]) (cs' := [(.int .i64 0)]) Tryd.sizeOf24 rfl rfl rfl rfl rfl rfl rfl rfl rfl ?_)
                      refine WL.nil (then_normal (WP.ret ?_))
                      obtain rfl := Option.some.inj hm
                      refine retQ_retM (i := 0) rfl Tryd.results15 (Res.cell rfl (box_load (i := 9) Tryd.isAgg30 rfl) (Res.cell rfl (box_load (i := 8) Tryd.isAgg3 rfl) (Res.cell rfl (box_load (i := 7) Tryd.isAgg24 rfl) Res.nil))) rfl (fun w' s => ⟨s.below, ?_⟩)
                      obtain ⟨h6, hc18⟩ := s.ret_row (i := 3) rfl rl9
                      exact ⟨ao4, cap4, rfl, h6, hc18⟩
                    · replace hm := ite_f hc17 hm
                      refine WP.skip (then_normal (WP.region ?_))
                      refine wq rfl rfl rfl (ov_move rfl rfl) ?_
                      refine wq rfl rfl rfl (ov_move rfl rfl) ?_
                      refine wq rfl rfl rfl (ov_add rfl rfl rfl) ?_
                      refine wq rfl rfl rfl (ov_assign rfl rfl) ?_
                      refine WL.nil (block_normal (then_normal ?_))
                      exact ⟨(IntKind.wrap .i64 (i1 + (if r2 > 1 then r2 else 1))), (l2 ++ ([(Token.mk 0 s2 i1)] : List Token)), ao4, cap4, (xs1 ++ [(.int .i64 0), (mkS s2), (.int .i64 i1)]), rl9, (Sub.cons rfl (Sub.cons rfl (Sub.cons rfl (Sub.cons rfl (Sub.cons rfl (Sub.nil _)))))), fun w' s => (s.select [3, 4, 5, 6, 7, 8, 9, 10, 11] (by decide) rfl), hm⟩
              · replace hm := ite_f hc10 hm
                rcases Bool.eq_false_or_eq_true (r1 == 2) with hc19 | hc19
                · replace hm := ite_t hc19 hm
                  refine wq rfl rfl rfl (ov_indexAddr_at (j := 2) Tryd.underlying110 Tryd.sizeOf109 rfl rfl rfl (eq_of_beq hc19) rfl) ?_
                  refine wq rfl rfl rfl (ov_load_boxes (i := 3) (vs := [(.int .i64 1), (.slice (some ⟨b8, 0, none⟩) ([2] : List Int).length 1), (.func (.func 20) #[] #[])]) Tryd.isAgg109 Tryd.sizeOf109 rfl rfl rfl rfl (part_of rfl)) ?_
                  refine WL.step (Runs.free rfl) rfl rfl (os_alloc (cs := [(.int .i64 0), (.slice none 0 0), .nilFunc]) Tryd.zeroValue109 rfl rfl (fun b19 => ?_))
                  refine WL.step0 (Runs.free rfl) rfl (os_store (i := 0) (vs := [(.int .i64 1), (.slice (some ⟨b8, 0, none⟩) ([2] : List Int).length 1), (.func (.func 20) #[] #[])]) (cs' := [(.int .i64 1), (.slice (some ⟨b8, 0, none⟩) ([2] : List Int).length 1), (.func (.func 20) #[] #[])]) Tryd.sizeOf109 rfl rfl rfl rfl rfl rfl rfl rfl rfl ?_)
                  refine WL.nil (then_normal (WP.seq (WP.seq (WP.region ?_))))
                  refine wq rfl rfl rfl (ov_fieldAddr Tryd.underlying109 rfl rfl rfl Tryd.sizeOf42 rfl rfl) ?_
                  refine wq rfl rfl rfl (ov_load_box (i := 0) Tryd.isAgg42 rfl rfl rfl rfl) ?_
                  refine wq rfl rfl rfl (ov_binOp (r := .bool false) rfl rfl rfl eqGuard_fn (fun _ => by kernel_rfl)) ?_
                  refine WL.nil (then_normal (WP.cond_false rfl (WP.skip (then_normal (WP.seq ?_)))))
                  refine WP.region_draws (by kernel_rfl) (by kernel_rfl) (fun _ s => s.drew) ?_
                  refine QL.quiet (Runs.free rfl) rfl rfl (OV.quiet (ov_load_box (i := 5) Tryd.isAgg9 rfl rfl rfl rfl)) ?_
                  refine QL.quiet (Runs.free rfl) rfl rfl (OV.quiet (ov_move rfl rfl)) ?_
                  obtain ⟨s3, e13, hm⟩ := bind_some hm
                  refine QL.quiet (Runs.free rfl) rfl rfl (OV.quiet (ov_slice_string_from Tryd.underlying9 rfl rfl rfl e13)) ?_
                  refine QL.quiet (Runs.free rfl) rfl rfl (OV.quiet (ov_fieldAddr Tryd.underlying109 rfl rfl rfl Tryd.sizeOf107 rfl rfl)) ?_
                  refine QL.quiet (Runs.free rfl) rfl rfl (OV.quiet (ov_load_box (i := 0) Tryd.isAgg107 rfl rfl rfl rfl)) ?_
                  obtain ⟨r5, e14, hm⟩ := bind_some hm
                  refine QL.quiet (Runs.free rfl) rfl rfl (oq_con (r := (.int .i64 r5)) Tryd.call48 rfl rfl (fun w' s => ⟨_, (lexer_run_con s3 ([2] : List Int) (some ⟨b8, 0, none⟩) 1  w' H2 s.hold h3 hc4 hG r5 e14)⟩)) ?_
                  refine QL.quiet (Runs.free rfl) rfl rfl (OV.quiet (ov_max rfl rfl rfl)) ?_
                  refine QL.quiet (Runs.free rfl) rfl rfl (OV.quiet (ov_assign rfl rfl)) ?_
                  refine QL.nil ?_
                  refine then_normal (WP.seq (WP.region ?_))
                  refine wq rfl rfl rfl (ov_load_box (i := 5) Tryd.isAgg9 rfl rfl rfl rfl) ?_
                  refine wq rfl rfl rfl (ov_move rfl rfl) ?_
                  refine wq rfl rfl rfl (ov_move rfl rfl) ?_
                  refine wq rfl rfl rfl (ov_move rfl rfl) ?_
                  refine wq rfl rfl rfl (ov_add rfl rfl rfl) ?_
                  obtain ⟨s4, e15, hm⟩ := bind_some hm
                  refine wq rfl rfl rfl (ov_slice_string Tryd.underlying9 rfl rfl rfl rfl e15) ?_
                  refine wq rfl rfl rfl (ov_assign rfl rfl) ?_
                  refine WL.nil (then_normal (WP.seq ?_))
                  obtain ⟨k3, hk3, hm⟩ := joinK_some hm
                  refine WP.seq_join (fun g' S' => ∃ (i3 : Int), Sub [(0, (.func (.yield l1) #[] #[])), (1, (pB b5 0)), (2, (pB b9 0)), (4, (.int .i64 i1)), (6, (pB b19 0)), (7, (.int .i64 (if r5 > 1 then r5 else 1))), (8, (mkS s4)), (9, (.int .i64 i3)), (1000000007, (.bool false))] g' ∧ (∀ w', S' w' → St w H [.blk b19 109 [(.int .i64 1), (.slice (some ⟨b8, 0, none⟩) ([2] : List Int).length 1), (.func (.func 20) #[] #[])], .row 37 (encToken).size l2.length (.slice ao2 l2.length cap2) xs1, .obj l1 (R1 .ready none), .obj D1 (.deferred (some [])), .blk b9 110 [(.int .i64 0), (.slice none 0 0), .nilFunc, (.int .i64 0), (.slice (some ⟨b7, 0, none⟩) ([1, 2, 3] : List Int).length 3), (.func (.func 21) #[] #[]), (.int .i64 1), (.slice (some ⟨b8, 0, none⟩) ([2] : List Int).length 1), (.func (.func 20) #[] #[]), (.int .i64 0), (.slice none 0 0), .nilFunc, (.int .i64 2), (.slice none 0 0), (.func (.func 98) #[] #[]), (.int .i64 0), (.slice none 0 0), .nilFunc], .blk b5 9 [(mkS p_text)], .blk b4 30 [(.slice ao2 l2.length cap2)], .blk b3 24 [(.int .i64 0)], .blk b2 3 [(.int .i64 0)], .blk b1 30 [(.slice none 0 0)]] H2 w') ∧ k3 i3 = some r) ?_ ?_
                  · skip
                    refine WP.region ?_
                    refine wq rfl rfl rfl (ov_fieldAddr Tryd.underlying109 rfl rfl rfl Tryd.sizeOf42 rfl rfl) ?_
                    refine wq rfl rfl rfl (ov_load_box (i := 0) Tryd.isAgg42 rfl rfl rfl rfl) ?_
                    refine wq rfl rfl rfl (ov_move rfl rfl) ?_
                    refine WL.step (Runs.free rfl) rfl rfl (os_inline (cap := []) (vs := [(mkS s4)]) Tryd.call20 rfl rfl rfl Tryd.func20 rfl 27 Tryd.ntmps20 rfl (fun w' s => ?_))
                    refine WP.seq (WP.region ?_)
                    refine wq rfl rfl rfl (ov_assign rfl rfl) ?_
                    refine WL.nil (then_normal (WP.seq (WP.block (WP.seq (WP.region ?_)))))
                    refine wq rfl rfl rfl (ov_move rfl rfl) ?_
                    refine wq rfl rfl rfl (ov_seql rfl rfl rfl) ?_
                    refine wq rfl rfl rfl (ov_move rfl rfl) ?_
                    obtain ⟨c3, e16, hm⟩ := bind_some hm
                    refine WL.cut_bool 7 13 (x := c3) ?_ ?_
                    · rcases Bool.eq_false_or_eq_true (s4 == []) with hc20 | hc20
                      · skip
                        replace hm := ite_t hc20 e16
                        refine WL.idle (Idle.no rfl rfl rfl hc20) rfl rfl ?_
                        refine WL.idle (Idle.no rfl rfl rfl hc20) rfl rfl ?_
                        refine WL.idle (Idle.no rfl rfl rfl hc20) rfl rfl ?_
                        refine WL.idle (Idle.no rfl rfl rfl hc20) rfl rfl ?_
                        refine WL.idle (Idle.no rfl rfl rfl hc20) rfl rfl ?_
                        refine WL.idle (Idle.no rfl rfl rfl hc20) rfl rfl ?_
                        refine wq rfl rfl rfl (ov_pick_true rfl (guard_eq rfl hc20) rfl) ?_
                        exact WL.nil ⟨Sub.cons' rfl (congrArg Value.bool (Option.some.inj hm)) (Sub.skip rfl (Sub.skip rfl (Sub.skip rfl (Sub.skip rfl (Sub.skip rfl (Sub.skip rfl (Sub.skip rfl (Sub.refl _)))))))), fun _ s => s⟩
                      · skip
                        replace hm := ite_f hc20 e16
                        refine WL.quiet (Runs.yes rfl rfl rfl hc20) rfl rfl (OV.quiet (ov_move rfl rfl)) ?_
                        have rl10 : RL H2 (encInt .i64) ([2] : List Int) [(.int .i64 2)] := RL.cons (cs := [(.int .i64 2)]) (xs := []) rfl (RL.nil _ _)
                        refine WL.step (Runs.yes rfl rfl rfl hc20) rfl rfl (os_buildSlice (cs := [(.int .i64 2)]) (E := 3) (sz := 1) rfl rfl (fun _ => by kernel_rfl) rfl (by decide) (fun b20 => ?_))
                        refine WL.held rl10 (fun H4 hc21 hle4 h7 => ?_)
                        replace h3 := h3.mono hle4
                        replace rl4 := rl4.mono hle4
                        replace h2 := h2.mono hle4
                        replace hG := hG.mono hle4
                        obtain ⟨r6, e17, hm⟩ := bind_some hm
                        refine WL.quiet (Runs.yes rfl rfl rfl hc20) rfl rfl (oq_con (r := (.int .i64 r6)) Tryd.call48 rfl rfl (fun w' s => ⟨_, (lexer_run_con s4 ([2] : List Int) (some ⟨b20, 0, none⟩) 1  w' H4 s.hold h7 hc21 hG r6 e17)⟩)) ?_
                        refine WL.quiet (Runs.yes rfl rfl rfl hc20) rfl rfl (OV.quiet (ov_move rfl rfl)) ?_
                        refine WL.quiet (Runs.yes rfl rfl rfl hc20) rfl rfl (OV.quiet (ov_len_string Tryd.underlying9 rfl rfl)) ?_
                        refine WL.quiet (Runs.yes rfl rfl rfl hc20) rfl rfl (OV.quiet (ov_neq rfl rfl rfl)) ?_
                        refine wq rfl rfl rfl (ov_pick_false rfl (guard_eq rfl hc20) rfl) ?_
                        exact WL.nil ⟨Sub.cons' rfl (congrArg Value.bool (Option.some.inj hm)) (Sub.skip rfl (Sub.skip rfl (Sub.skip rfl (Sub.skip rfl (Sub.skip rfl (Sub.skip rfl (Sub.skip rfl (Sub.refl _)))))))), fun _ s => (s.heap hle4)⟩
                    refine wq rfl rfl rfl (ov_move rfl rfl) ?_
                    obtain ⟨c4, e18, hm⟩ := bind_some hm
                    refine WL.cut_bool 8 22 (x := c4) ?_ ?_
                    · rcases Bool.eq_false_or_eq_true c3 with hc22 | hc22
                      · skip
                        replace hm := ite_t hc22 e18
                        refine WL.idle (Idle.no rfl rfl rfl hc22) rfl rfl ?_
                        refine WL.idle (Idle.no rfl rfl rfl hc22) rfl rfl ?_
                        refine WL.idle (Idle.no rfl rfl rfl hc22) rfl rfl ?_
                        refine WL.idle (Idle.no rfl rfl rfl hc22) rfl rfl ?_
                        refine WL.idle (Idle.undef rfl rfl rfl) rfl rfl ?_
                        refine WL.idle (Idle.undef rfl rfl rfl) rfl rfl ?_
                        refine WL.idle (Idle.no rfl rfl rfl hc22) rfl rfl ?_
                        refine wq rfl rfl rfl (ov_pick_true rfl (guard_eq rfl hc22) rfl) ?_
                        exact WL.nil ⟨Sub.cons' rfl (congrArg Value.bool (Option.some.inj hm)) (Sub.skip rfl (Sub.skip rfl (Sub.skip rfl (Sub.skip rfl (Sub.skip rfl (Sub.skip rfl (Sub.skip rfl (Sub.skip rfl (Sub.refl _))))))))), fun _ s => s⟩
                      · skip
                        replace hm := ite_f hc22 e18
                        refine WL.quiet (Runs.yes rfl rfl rfl hc22) rfl rfl (OV.quiet (ov_move rfl rfl)) ?_
                        obtain ⟨b21, e19, hm⟩ := bind_some hm
                        refine WL.quiet (Runs.yes rfl rfl rfl hc22) rfl rfl (OV.quiet (ov_index_string Tryd.underlying9 rfl rfl rfl e19)) ?_
                        refine WL.quiet (Runs.yes rfl rfl rfl hc22) rfl rfl (OV.quiet (ov_eql rfl rfl rfl)) ?_
                        refine WL.quiet (Runs.yes rfl rfl rfl hc22) rfl rfl (OV.quiet (ov_move rfl rfl)) ?_
                        refine WL.cut_bool 3 21 (x := (((b21.toNat : Int) == 48) && (!(s4 == [48])))) ?_ ?_
                        · rcases Bool.eq_false_or_eq_true ((b21.toNat : Int) == 48) with hc23 | hc23
                          · skip
                            refine WL.quiet (Runs.yes rfl rfl rfl hc23) rfl rfl (OV.quiet (ov_move rfl rfl)) ?_
                            refine WL.quiet (Runs.yes rfl rfl rfl hc23) rfl rfl (OV.quiet (ov_sneq rfl rfl rfl)) ?_
                            refine WL.quiet (Runs.yes rfl rfl rfl hc22) rfl rfl (OV.quiet (ov_pick_true rfl (guard_eq rfl hc23) rfl)) ?_
                            exact WL.nil ⟨Sub.cons' rfl (congrArg Value.bool (andT hc23)) (Sub.skip rfl (Sub.skip rfl (Sub.skip rfl (Sub.refl _)))), fun _ s => s⟩
                          · skip
                            refine WL.idle (Idle.no rfl rfl rfl hc23) rfl rfl ?_
                            refine WL.idle (Idle.no rfl rfl rfl hc23) rfl rfl ?_
                            refine WL.quiet (Runs.yes rfl rfl rfl hc22) rfl rfl (OV.quiet (ov_pick_false rfl (guard_eq rfl hc23) rfl)) ?_
                            exact WL.nil ⟨Sub.cons' rfl (congrArg Value.bool (andF hc23)) (Sub.skip rfl (Sub.skip rfl (Sub.skip rfl (Sub.refl _)))), fun _ s => s⟩
                        refine wq rfl rfl rfl (ov_pick_false rfl (guard_eq rfl hc22) rfl) ?_
                        exact WL.nil ⟨Sub.cons' rfl (congrArg Value.bool (Option.some.inj hm)) (Sub.skip rfl (Sub.skip rfl (Sub.skip rfl (Sub.skip rfl (Sub.skip rfl (Sub.skip rfl (Sub.refl _))))))), fun _ s => s⟩
                    refine wq rfl rfl rfl (ov_assign rfl rfl) ?_
                    refine WL.nil (then_normal ?_)
                    refine WP.cond rfl (fun hc24 => ?_) (fun hc24 => ?_)
                    · replace hm := ite_t hc24 hm
                      refine WP.seq (WP.region ?_)
                      refine wq rfl rfl rfl (ov_assign rfl rfl) ?_
                      refine WL.nil (then_normal (WP.ret (block_ret (then_ret ?_))))
                      refine retQ_ret (v := (.int .i64 3)) Tryd.results20 (Res.tmp rfl Res.nil) rfl (fun w' s => ⟨_, ?_, s⟩)
                      refine wq rfl rfl rfl (ov_assign rfl rfl) ?_
                      refine WL.nil (then_normal ?_)
                      exact ⟨3, (Sub.cons rfl (Sub.cons rfl (Sub.cons rfl (Sub.cons rfl (Sub.cons rfl (Sub.cons rfl (Sub.cons rfl (Sub.cons rfl (Sub.cons rfl (Sub.nil _)))))))))), fun w' s => s, hm⟩
                    · replace hm := ite_f hc24 hm
                      refine WP.seq (WP.region ?_)
                      refine wq rfl rfl rfl (ov_move rfl rfl) ?_
                      refine wq rfl rfl rfl (ov_len_string Tryd.underlying9 rfl rfl) ?_
                      refine wq rfl rfl rfl (ov_gtr rfl rfl rfl) ?_
                      refine wq rfl rfl rfl (ov_assign rfl rfl) ?_
                      refine WL.nil (then_normal ?_)
                      refine WP.cond rfl (fun hc25 => ?_) (fun hc25 => ?_)
                      · replace hm := ite_t hc25 hm
                        refine WP.seq (WP.region ?_)
                        refine wq rfl rfl rfl (ov_assign rfl rfl) ?_
                        refine WL.nil (then_normal (WP.ret (block_ret (then_ret ?_))))
                        refine retQ_ret (v := (.int .i64 17)) Tryd.results20 (Res.tmp rfl Res.nil) rfl (fun w' s => ⟨_, ?_, s⟩)
                        refine wq rfl rfl rfl (ov_assign rfl rfl) ?_
                        refine WL.nil (then_normal ?_)
                        exact ⟨17, (Sub.cons rfl (Sub.cons rfl (Sub.cons rfl (Sub.cons rfl (Sub.cons rfl (Sub.cons rfl (Sub.cons rfl (Sub.cons rfl (Sub.cons rfl (Sub.nil _)))))))))), fun w' s => s, hm⟩
                      · replace hm := ite_f hc25 hm
                        refine WP.skip (block_normal (then_normal (WP.seq (WP.region ?_))))
                        refine wq rfl rfl rfl (ov_assign rfl rfl) ?_
                        refine WL.nil (then_normal (WP.ret ?_))
                        refine retQ_ret (v := (.int .i64 0)) Tryd.results20 (Res.tmp rfl Res.nil) rfl (fun w' s => ⟨_, ?_, s⟩)
                        refine wq rfl rfl rfl (ov_assign rfl rfl) ?_
                        refine WL.nil (then_normal ?_)
                        exact ⟨0, (Sub.cons rfl (Sub.cons rfl (Sub.cons rfl (Sub.cons rfl (Sub.cons rfl (Sub.cons rfl (Sub.cons rfl (Sub.cons rfl (Sub.cons rfl (Sub.nil _)))))))))), fun w' s => s, hm⟩
                  · rintro g' S' ⟨i3, hsub3, hS3, hm⟩
                    refine WP.sub hsub3 (WP.weaken hS3 ?_)
                    replace hm := (congrFun hk3 i3).symm.trans hm
                    refine WP.seq (WP.region ?_)
                    refine wq rfl rfl rfl (ov_move rfl rfl) ?_
                    refine wq rfl rfl rfl (ov_fieldAddr Tryd.underlying109 rfl rfl rfl Tryd.sizeOf3 rfl rfl) ?_
                    refine wq rfl rfl rfl (ov_load_box (i := 0) Tryd.isAgg3 rfl rfl rfl rfl) ?_
                    refine wq rfl rfl rfl (ov_move rfl rfl) ?_
                    refine wq rfl rfl rfl (ov_move rfl rfl) ?_
                    refine wq rfl rfl rfl (ov_build (r := (.agg #[(.int .i64 1), (mkS s4), (.int .i64 i1)])) rfl rfl (fun _ => by kernel_rfl)) ?_
                    refine wq rfl rfl rfl (ov_move rfl rfl) ?_
                    refine WL.yield (i := 2) (vs := [(.agg #[(.int .i64 1), (mkS s4), (.int .i64 i1)]), (.int .i64 i3)]) (Runs.free rfl) rfl rfl rfl rfl rfl hr1 rfl rfl rfl ?_
                    refine WP.seq (WP.region ?_)
                    refine WL.step (Runs.free rfl) rfl rfl (os_alloc (cs := [(.int .i64 0), (mkS []), (.int .i64 0)]) Tryd.zeroValue37 rfl rfl (fun b22 => ?_))
                    refine WL.step0 (Runs.free rfl) rfl (os_store (i := 0) (vs := [(.int .i64 1), (mkS s4), (.int .i64 i1)]) (cs' := [(.int .i64 1), (mkS s4), (.int .i64 i1)]) Tryd.sizeOf37 rfl rfl rfl rfl rfl rfl rfl rfl rfl ?_)
                    refine WL.nil (then_normal (WP.region ?_))
                    refine wq rfl rfl rfl (ov_assign rfl rfl) ?_
                    refine WL.nil (then_normal ?_)
                    refine begin_of (i := 3) rfl ?_
                    refine WP.block (WP.seq (WP.seq (WP.region ?_)))
                    refine wq rfl rfl rfl (ov_move rfl rfl) ?_
                    refine wq rfl rfl rfl (ov_neq rfl rfl rfl) ?_
                    refine WL.nil (then_normal ?_)
                    refine WP.cond rfl (fun hc26 => ?_) (fun hc26 => ?_)
                    · replace hm := ite_t hc26 hm
                      refine WP.seq ?_
                      refine WP.region_anyF (S₀ := St w H [.blk b22 37 [(.int .i64 1), (mkS s4), (.int .i64 i1)], .blk b19 109 [(.int .i64 1), (.slice (some ⟨b8, 0, none⟩) ([2] : List Int).length 1), (.func (.func 20) #[] #[])], .row 37 (encToken).size l2.length (.slice ao2 l2.length cap2) xs1, .obj l1 (R1 .busy none), .obj D1 (.deferred (some [])), .blk b9 110 [(.int .i64 0), (.slice none 0 0), .nilFunc, (.int .i64 0), (.slice (some ⟨b7, 0, none⟩) ([1, 2, 3] : List Int).length 3), (.func (.func 21) #[] #[]), (.int .i64 1), (.slice (some ⟨b8, 0, none⟩) ([2] : List Int).length 1), (.func (.func 20) #[] #[]), (.int .i64 0), (.slice none 0 0), .nilFunc, (.int .i64 2), (.slice none 0 0), (.func (.func 98) #[] #[]), (.int .i64 0), (.slice none 0 0), .nilFunc], .blk b5 9 [(mkS p_text)], .blk b4 30 [(.slice ao2 l2.length cap2)]] H2) 6 rfl (by kernel_rfl) (by kernel_rfl) (fun w' s => (s.select [0, 1, 2, 3, 4, 5, 6, 7] (by decide) rfl)) (fun _ s => s.drew) ?_
                      refine tq (i := 0) rfl (by kernel_rfl) rfl rfl rfl (ov_fieldAddr Tryd.underlying37 rfl rfl rfl Tryd.sizeOf3 rfl rfl) ?_
                      refine tq (i := 1) rfl (by kernel_rfl) rfl rfl rfl (ov_load_box (i := 0) Tryd.isAgg3 rfl rfl rfl rfl) ?_
                      refine tq (i := 2) rfl (by kernel_rfl) rfl rfl rfl (ov_move rfl rfl) ?_
                      refine AL.any (rs := [3]) (by kernel_rfl) (by decide) ?_
                      refine ALs.cons0 (i := 3) rfl (Runs.free rfl) rfl ?_ ?_
                      · skip
                        refine os_store (i := 10) (vs := [(.slice none 0 0)]) (cs' := [(.slice none 0 0)]) Tryd.sizeOf30 rfl rfl rfl rfl rfl rfl rfl rfl rfl ?_
                        refine ⟨fun w' s => (s.select [0, 1, 2, 3, 4, 5, 6, 7] (by decide) rfl), ?_⟩
                        refine AL.any (rs := [4]) (by kernel_rfl) (by decide) ?_
                        refine ALs.cons0 (i := 4) rfl (Runs.free rfl) rfl ?_ ?_
                        · skip
                          refine os_store (i := 9) (vs := [(.int .i64 i1)]) (cs' := [(.int .i64 i1)]) Tryd.sizeOf3 rfl rfl rfl rfl rfl rfl rfl rfl rfl ?_
                          refine ⟨fun w' s => (s.select [0, 1, 2, 3, 4, 5, 6, 7] (by decide) rfl), ?_⟩
                          refine AL.any (rs := [5]) (by kernel_rfl) (by decide) ?_
                          refine ALs.cons0 (i := 5) rfl (Runs.free rfl) rfl ?_ ?_
                          · skip
                            refine os_store (i := 8) (vs := [(.int .i64 i3)]) (cs' := [(.int .i64 i3)]) Tryd.sizeOf24 rfl rfl rfl rfl rfl rfl rfl rfl rfl ?_
                            refine ⟨fun w' s => (s.select [0, 1, 2, 3, 4, 5, 6, 7] (by decide) rfl), ?_⟩
                            refine AL.done (by kernel_rfl) ?_
                            refine then_normal (WP.ret (then_ret (block_ret ?_)))
                            refine round_ret (i := 3) rfl ?_
                            refine wq rfl rfl rfl (ov_not rfl rfl) ?_
                            refine wq rfl rfl rfl (ov_move rfl rfl) ?_
                            refine WL.idle (Idle.no rfl rfl rfl rfl) rfl rfl ?_
                            refine WL.idle (Idle.no rfl rfl rfl rfl) rfl rfl ?_
                            refine wq rfl rfl rfl (ov_pick_true rfl (guard_eq rfl rfl) rfl) ?_
                            refine WL.nil (then_normal (WP.cond_true rfl (WP.ret (then_ret (block_ret (then_ret (block_ret (then_ret ?_))))))))
                            refine retQ_ret (v := (.tuple #[])) Tryd.results82 Res.nil rfl (fun w' s => ⟨St w H [.obj l1 (R1 .done (some .ret)), .obj D1 (.deferred (some [])), .blk b22 37 [(.int .i64 1), (mkS s4), (.int .i64 i1)], .blk b19 109 [(.int .i64 1), (.slice (some ⟨b8, 0, none⟩) ([2] : List Int).length 1), (.func (.func 20) #[] #[])], .row 37 (encToken).size l2.length (.slice ao2 l2.length cap2) xs1, .blk b9 110 [(.int .i64 0), (.slice none 0 0), .nilFunc, (.int .i64 0), (.slice (some ⟨b7, 0, none⟩) ([1, 2, 3] : List Int).length 3), (.func (.func 21) #[] #[]), (.int .i64 1), (.slice (some ⟨b8, 0, none⟩) ([2] : List Int).length 1), (.func (.func 20) #[] #[]), (.int .i64 0), (.slice none 0 0), .nilFunc, (.int .i64 2), (.slice none 0 0), (.func (.func 98) #[] #[]), (.int .i64 0), (.slice none 0 0), .nilFunc], .blk b5 9 [(mkS p_text)], .blk b4 30 [(.slice ao2 l2.length cap2)], .blk b3 24 [(.int .i64 i3)], .blk b2 3 [(.int .i64 i1)], .blk b1 30 [(.slice none 0 0)]] H2, ?_, (s.select [3, 4, 0, 1, 2, 5, 6, 7, 8, 9, 10] (by decide) rfl)⟩)
                            refine after_ret ?_
                            refine block_ret (then_ret ?_)
                            obtain rfl := Option.some.inj hm
                            refine retQ_retM (i := 0) rfl Tryd.results15 (Res.cell rfl (box_load (i := 8) Tryd.isAgg30 rfl) (Res.cell rfl (box_load (i := 7) Tryd.isAgg3 rfl) (Res.cell rfl (box_load (i := 6) Tryd.isAgg24 rfl) Res.nil))) rfl (fun w' s => ⟨s.below, ?_⟩)
                            exact ⟨none, 0, rfl, SL.nil _ _ _, Nat.le_refl _⟩
                          exact ALs.nil
                        exact ALs.nil
                      exact ALs.nil
                    · replace hm := ite_f hc26 hm
                      refine WP.skip (then_normal (WP.region ?_))
                      refine wq rfl rfl rfl (ov_load_box (i := 7) Tryd.isAgg30 rfl rfl rfl rfl) ?_
                      refine wq rfl rfl rfl (ov_load_whole (i := 0) Tryd.isAgg37 Tryd.sizeOf37 rfl rfl rfl rfl) ?_
                      have rl11 : RL H2 encToken ([(Token.mk 1 s4 i1)] : List Token) [(.int .i64 1), (mkS s4), (.int .i64 i1)] := RL.cons (cs := [(.int .i64 1), (mkS s4), (.int .i64 i1)]) (xs := []) rfl (RL.nil _ _)
                      refine WL.step (Runs.free rfl) rfl rfl (os_buildSlice (cs := [(.int .i64 1), (mkS s4), (.int .i64 i1)]) (E := 37) (sz := 3) rfl rfl (fun _ => by kernel_rfl) rfl (by decide) (fun b23 => ?_))
                      obtain ⟨l5, e20, hm⟩ := bind_some hm
                      refine WL.step (Runs.free rfl) rfl rfl (os_app (i := 3) (j := 0) (En := encToken) (xs := xs1) (ys := [(.int .i64 1), (mkS s4), (.int .i64 i1)]) Tryd.underlying30 (by kernel_rfl : (Tryd.prog.info? 37).map (fun i => (i.zero, i.size, i.bytes)) = some (some (.agg #[(.int .i64 0), (mkS []), (.int .i64 0)]), (encToken).size, 32)) rfl (by decide) rfl rfl rfl rfl rfl rfl rl4 rl11 e20 (fun ao5 cap5 rl12 => ?_))
                      refine WL.step0 (Runs.free rfl) rfl (os_store (i := 8) (vs := [(.slice ao5 (l2 ++ ([(Token.mk 1 s4 i1)] : List Token)).length cap5)]) (cs' := [(.slice ao5 (l2 ++ ([(Token.mk 1 s4 i1)] : List Token)).length cap5)]) Tryd.sizeOf30 rfl rfl rfl rfl rfl rfl rfl rfl rfl ?_)
                      refine WL.nil (block_normal ?_)
                      refine round_normal (i := 4) rfl ?_
                      refine wq rfl rfl rfl (ov_not rfl rfl) ?_
                      refine wq rfl rfl rfl (ov_move rfl rfl) ?_
                      refine WL.quiet (Runs.yes rfl rfl rfl rfl) rfl rfl (OV.quiet (ov_move rfl rfl)) ?_
                      refine WL.quiet (Runs.yes rfl rfl rfl rfl) rfl rfl (OV.quiet (ov_neq rfl rfl rfl)) ?_
                      refine wq rfl rfl rfl (ov_pick_false rfl (guard_eq rfl rfl) rfl) ?_
                      refine WL.nil (then_normal ?_)
                      refine WP.cond rfl (fun hc27 => ?_) (fun hc27 => ?_)
                      · replace hm := ite_t hc27 hm
                        refine WP.ret (then_ret (block_ret (then_ret (block_ret (then_ret ?_)))))
                        refine retQ_ret (v := (.tuple #[])) Tryd.results82 Res.nil rfl (fun w' s => ⟨St w H [.obj l1 (R1 .ready none), .obj D1 (.deferred (some [])), .row 37 (encToken).size ([(Token.mk 1 s4 i1)] : List Token).length (.slice (some ⟨b23, 0, none⟩) ([(Token.mk 1 s4 i1)] : List Token).length 1) [(.int .i64 1), (mkS s4), (.int .i64 i1)], .blk b22 37 [(.int .i64 1), (mkS s4), (.int .i64 i1)], .blk b19 109 [(.int .i64 1), (.slice (some ⟨b8, 0, none⟩) ([2] : List Int).length 1), (.func (.func 20) #[] #[])], .row 37 (encToken).size (l2 ++ ([(Token.mk 1 s4 i1)] : List Token)).length (.slice ao5 (l2 ++ ([(Token.mk 1 s4 i1)] : List Token)).length cap5) (xs1 ++ [(.int .i64 1), (mkS s4), (.int .i64 i1)]), .blk b9 110 [(.int .i64 0), (.slice none 0 0), .nilFunc, (.int .i64 0), (.slice (some ⟨b7, 0, none⟩) ([1, 2, 3] : List Int).length 3), (.func (.func 21) #[] #[]), (.int .i64 1), (.slice (some ⟨b8, 0, none⟩) ([2] : List Int).length 1), (.func (.func 20) #[] #[]), (.int .i64 0), (.slice none 0 0), .nilFunc, (.int .i64 2), (.slice none 0 0), (.func (.func 98) #[] #[]), (.int .i64 0), (.slice none 0 0), .nilFunc], .blk b5 9 [(mkS p_text)], .blk b4 30 [(.slice ao5 (l2 ++ ([(Token.mk 1 s4 i1)] : List Token)).length cap5)], .blk b3 24 [(.int .i64 0)], .blk b2 3 [(.int .i64 0)], .blk b1 30 [(.slice none 0 0)]] H2, ?_, (s.select [4, 5, 0, 1, 2, 3, 6, 7, 8, 9, 10, 11] (by decide) rfl)⟩)
                        refine after_normal ?_
                        refine block_normal (then_normal (WP.seq (WP.region ?_)))
                        refine wq rfl rfl rfl (ov_load_box (i := 7) Tryd.isAgg30 rfl rfl rfl rfl) ?_
                        refine WL.step0 (Runs.free rfl) rfl (os_store (i := 10) (vs := [(.slice ao5 (l2 ++ ([(Token.mk 1 s4 i1)] : List Token)).length cap5)]) (cs' := [(.slice ao5 (l2 ++ ([(Token.mk 1 s4 i1)] : List Token)).length cap5)]) Tryd.sizeOf30 rfl rfl rfl rfl rfl rfl rfl rfl rfl ?_)
                        refine WL.step0 (Runs.free rfl) rfl (os_store (i := 9) (vs := [(.int .i64 0)]) (cs' := [(.int .i64 0)]) Tryd.sizeOf3 rfl rfl rfl rfl rfl rfl rfl rfl rfl ?_)
                        refine WL.step0 (Runs.free rfl) rfl (os_store (i := 8) (vs := [(.int .i64 0)]) (cs' := [(.int .i64 0)]) Tryd.sizeOf24 rfl rfl rfl rfl rfl rfl rfl rfl rfl ?_)
                        refine WL.nil (then_normal (WP.ret ?_))
                        obtain rfl := Option.some.inj hm
                        refine retQ_retM (i := 0) rfl Tryd.results15 (Res.cell rfl (box_load (i := 9) Tryd.isAgg30 rfl) (Res.cell rfl (box_load (i := 8) Tryd.isAgg3 rfl) (Res.cell rfl (box_load (i := 7) Tryd.isAgg24 rfl) Res.nil))) rfl (fun w' s => ⟨s.below, ?_⟩)
                        obtain ⟨h8, hc28⟩ := s.ret_row (i := 3) rfl rl12
                        exact ⟨ao5, cap5, rfl, h8, hc28⟩
                      · replace hm := ite_f hc27 hm
                        refine WP.skip (then_normal (WP.region ?_))
                        refine wq rfl rfl rfl (ov_move rfl rfl) ?_
                        refine wq rfl rfl rfl (ov_move rfl rfl) ?_
                        refine wq rfl rfl rfl (ov_add rfl rfl rfl) ?_
                        refine wq rfl rfl rfl (ov_assign rfl rfl) ?_
                        refine WL.nil (block_normal (then_normal ?_))
                        exact ⟨(IntKind.wrap .i64 (i1 + (if r5 > 1 then r5 else 1))), (l2 ++ ([(Token.mk 1 s4 i1)] : List Token)), ao5, cap5, (xs1 ++ [(.int .i64 1), (mkS s4), (.int .i64 i1)]), rl12, (Sub.cons rfl (Sub.cons rfl (Sub.cons rfl (Sub.cons rfl (Sub.cons rfl (Sub.nil _)))))), fun w' s => (s.select [3, 4, 5, 6, 7, 8, 9, 10, 11] (by decide) rfl), hm⟩
                · replace hm := ite_f hc19 hm
                  rcases Bool.eq_false_or_eq_true (r1 == 3) with hc29 | hc29
                  · replace hm := ite_t hc29 hm
                    refine wq rfl rfl rfl (ov_indexAddr_at (j := 3) Tryd.underlying110 Tryd.sizeOf109 rfl rfl rfl (eq_of_beq hc29) rfl) ?_
                    refine wq rfl rfl rfl (ov_load_boxes (i := 3) (vs := [(.int .i64 0), (.slice none 0 0), .nilFunc]) Tryd.isAgg109 Tryd.sizeOf109 rfl rfl rfl rfl (part_of rfl)) ?_
                    refine WL.step (Runs.free rfl) rfl rfl (os_alloc (cs := [(.int .i64 0), (.slice none 0 0), .nilFunc]) Tryd.zeroValue109 rfl rfl (fun b24 => ?_))
                    refine WL.step0 (Runs.free rfl) rfl (os_store (i := 0) (vs := [(.int .i64 0), (.slice none 0 0), .nilFunc]) (cs' := [(.int .i64 0), (.slice none 0 0), .nilFunc]) Tryd.sizeOf109 rfl rfl rfl rfl rfl rfl rfl rfl rfl ?_)
                    refine WL.nil (then_normal (WP.seq (WP.seq (WP.region ?_))))
                    refine wq rfl rfl rfl (ov_fieldAddr Tryd.underlying109 rfl rfl rfl Tryd.sizeOf42 rfl rfl) ?_
                    refine wq rfl rfl rfl (ov_load_box (i := 0) Tryd.isAgg42 rfl rfl rfl rfl) ?_
                    refine wq rfl rfl rfl (ov_binOp (r := .bool true) rfl rfl rfl eqGuard_nofn (fun _ => by kernel_rfl)) ?_
                    refine WL.nil (then_normal (WP.cond_true rfl (WP.seq (WP.region ?_))))
                    refine wq rfl rfl rfl (ov_move rfl rfl) ?_
                    refine wq rfl rfl rfl (ov_move rfl rfl) ?_
                    refine wq rfl rfl rfl (ov_build (r := (.agg #[(.int .i64 0), (mkS []), (.int .i64 i1)])) rfl rfl (fun _ => by kernel_rfl)) ?_
                    refine WL.yield (i := 2) (vs := [(.agg #[(.int .i64 0), (mkS []), (.int .i64 i1)]), (.int .i64 4)]) (Runs.free rfl) rfl rfl rfl rfl rfl hr1 rfl rfl rfl ?_
                    refine WP.seq (WP.region ?_)
                    refine WL.step (Runs.free rfl) rfl rfl (os_alloc (cs := [(.int .i64 0), (mkS []), (.int .i64 0)]) Tryd.zeroValue37 rfl rfl (fun b25 => ?_))
                    refine WL.step0 (Runs.free rfl) rfl (os_store (i := 0) (vs := [(.int .i64 0), (mkS []), (.int .i64 i1)]) (cs' := [(.int .i64 0), (mkS []), (.int .i64 i1)]) Tryd.sizeOf37 rfl rfl rfl rfl rfl rfl rfl rfl rfl ?_)
                    refine WL.nil (then_normal (WP.region ?_))
                    refine wq rfl rfl rfl (ov_assign rfl rfl) ?_
                    refine WL.nil (then_normal ?_)
                    refine begin_of (i := 3) rfl ?_
                    refine WP.block (WP.seq (WP.seq (WP.region ?_)))
                    refine wq rfl rfl rfl (ov_move rfl rfl) ?_
                    refine wq rfl rfl rfl (ov_neq rfl rfl rfl) ?_
                    refine WL.nil (then_normal ?_)
                    refine WP.cond rfl (fun hc30 => ?_) (fun hc30 => ?_)
                    · replace hm := ite_t hc30 hm
                      refine WP.seq ?_
                      refine WP.region_anyF (S₀ := St w H [.blk b25 37 [(.int .i64 0), (mkS []), (.int .i64 i1)], .blk b24 109 [(.int .i64 0), (.slice none 0 0), .nilFunc], .row 37 (encToken).size l2.length (.slice ao2 l2.length cap2) xs1, .obj l1 (R1 .busy none), .obj D1 (.deferred (some [])), .blk b9 110 [(.int .i64 0), (.slice none 0 0), .nilFunc, (.int .i64 0), (.slice (some ⟨b7, 0, none⟩) ([1, 2, 3] : List Int).length 3), (.func (.func 21) #[] #[]), (.int .i64 1), (.slice (some ⟨b8, 0, none⟩) ([2] : List Int).length 1), (.func (.func 20) #[] #[]), (.int .i64 0), (.slice none 0 0), .nilFunc, (.int .i64 2), (.slice none 0 0), (.func (.func 98) #[] #[]), (.int .i64 0), (.slice none 0 0), .nilFunc], .blk b5 9 [(mkS p_text)], .blk b4 30 [(.slice ao2 l2.length cap2)]] H2) 6 rfl (by kernel_rfl) (by kernel_rfl) (fun w' s => (s.select [0, 1, 2, 3, 4, 5, 6, 7] (by decide) rfl)) (fun _ s => s.drew) ?_
                      refine tq (i := 0) rfl (by kernel_rfl) rfl rfl rfl (ov_fieldAddr Tryd.underlying37 rfl rfl rfl Tryd.sizeOf3 rfl rfl) ?_
                      refine tq (i := 1) rfl (by kernel_rfl) rfl rfl rfl (ov_load_box (i := 0) Tryd.isAgg3 rfl rfl rfl rfl) ?_
                      refine tq (i := 2) rfl (by kernel_rfl) rfl rfl rfl (ov_move rfl rfl) ?_
                      refine AL.any (rs := [3]) (by kernel_rfl) (by decide) ?_
                      refine ALs.cons0 (i := 3) rfl (Runs.free rfl) rfl ?_ ?_
                      · skip
                        refine os_store (i := 10) (vs := [(.slice none 0 0)]) (cs' := [(.slice none 0 0)]) Tryd.sizeOf30 rfl rfl rfl rfl rfl rfl rfl rfl rfl ?_
                        refine ⟨fun w' s => (s.select [0, 1, 2, 3, 4, 5, 6, 7] (by decide) rfl), ?_⟩
                        refine AL.any (rs := [4]) (by kernel_rfl) (by decide) ?_
                        refine ALs.cons0 (i := 4) rfl (Runs.free rfl) rfl ?_ ?_
                        · skip
                          refine os_store (i := 9) (vs := [(.int .i64 i1)]) (cs' := [(.int .i64 i1)]) Tryd.sizeOf3 rfl rfl rfl rfl rfl rfl rfl rfl rfl ?_
                          refine ⟨fun w' s => (s.select [0, 1, 2, 3, 4, 5, 6, 7] (by decide) rfl), ?_⟩
                          refine AL.any (rs := [5]) (by kernel_rfl) (by decide) ?_
                          refine ALs.cons0 (i := 5) rfl (Runs.free rfl) rfl ?_ ?_
                          · skip
                            refine os_store (i := 8) (vs := [(.int .i64 4)]) (cs' := [(.int .i64 4)]) Tryd.sizeOf24 rfl rfl rfl rfl rfl rfl rfl rfl rfl ?_
                            refine ⟨fun w' s => (s.select [0, 1, 2, 3, 4, 5, 6, 7] (by decide) rfl), ?_⟩
                            refine AL.done (by kernel_rfl) ?_
                            refine then_normal (WP.ret (then_ret (block_ret ?_)))
                            refine round_ret (i := 3) rfl ?_
                            refine WL.nil (then_normal (WP.ret (then_ret (block_ret (then_ret (block_ret (then_ret ?_)))))))
                            refine retQ_ret (v := (.tuple #[])) Tryd.results82 Res.nil rfl (fun w' s => ⟨St w H [.obj l1 (R1 .done (some .ret)), .obj D1 (.deferred (some [])), .blk b25 37 [(.int .i64 0), (mkS []), (.int .i64 i1)], .blk b24 109 [(.int .i64 0), (.slice none 0 0), .nilFunc], .row 37 (encToken).size l2.length (.slice ao2 l2.length cap2) xs1, .blk b9 110 [(.int .i64 0), (.slice none 0 0), .nilFunc, (.int .i64 0), (.slice (some ⟨b7, 0, none⟩) ([1, 2, 3] : List Int).length 3), (.func (.func 21) #[] #[]), (.int .i64 1), (.slice (some ⟨b8, 0, none⟩) ([2] : List Int).length 1), (.func (.func 20) #[] #[]), (.int .i64 0), (.slice none 0 0), .nilFunc, (.int .i64 2), (.slice none 0 0), (.func (.func 98) #[] #[]), (.int .i64 0), (.slice none 0 0), .nilFunc], .blk b5 9 [(mkS p_text)], .blk b4 30 [(.slice ao2 l2.length cap2)], .blk b3 24 [(.int .i64 4)], .blk b2 3 [(.int .i64 i1)], .blk b1 30 [(.slice none 0 0)]] H2, ?_, (s.select [3, 4, 0, 1, 2, 5, 6, 7, 8, 9, 10] (by decide) rfl)⟩)
                            refine after_ret ?_
                            refine block_ret (then_ret ?_)
                            obtain rfl := Option.some.inj hm
                            refine retQ_retM (i := 0) rfl Tryd.results15 (Res.cell rfl (box_load (i := 8) Tryd.isAgg30 rfl) (Res.cell rfl (box_load (i := 7) Tryd.isAgg3 rfl) (Res.cell rfl (box_load (i := 6) Tryd.isAgg24 rfl) Res.nil))) rfl (fun w' s => ⟨s.below, ?_⟩)
                            exact ⟨none, 0, rfl, SL.nil _ _ _, Nat.le_refl _⟩
                          exact ALs.nil
                        exact ALs.nil
                      exact ALs.nil
                    · replace hm := ite_f hc30 hm
                      refine WP.skip (then_normal (WP.region ?_))
                      refine wq rfl rfl rfl (ov_load_box (i := 7) Tryd.isAgg30 rfl rfl rfl rfl) ?_
                      refine wq rfl rfl rfl (ov_load_whole (i := 0) Tryd.isAgg37 Tryd.sizeOf37 rfl rfl rfl rfl) ?_
                      have rl13 : RL H2 encToken ([(Token.mk 0 [] i1)] : List Token) [(.int .i64 0), (mkS []), (.int .i64 i1)] := RL.cons (cs := [(.int .i64 0), (mkS []), (.int .i64 i1)]) (xs := []) rfl (RL.nil _ _)
                      refine WL.step (Runs.free rfl) rfl rfl (os_buildSlice (cs := [(.int .i64 0), (mkS []), (.int .i64 i1)]) (E := 37) (sz := 3) rfl rfl (fun _ => by kernel_rfl) rfl (by decide) (fun b26 => ?_))
                      obtain ⟨l6, e21, hm⟩ := bind_some hm
                      refine WL.step (Runs.free rfl) rfl rfl (os_app (i := 3) (j := 0) (En := encToken) (xs := xs1) (ys := [(.int .i64 0), (mkS []), (.int .i64 i1)]) Tryd.underlying30 (by kernel_rfl : (Tryd.prog.info? 37).map (fun i => (i.zero, i.size, i.bytes)) = some (some (.agg #[(.int .i64 0), (mkS []), (.int .i64 0)]), (encToken).size, 32)) rfl (by decide) rfl rfl rfl rfl rfl rfl rl4 rl13 e21 (fun ao6 cap6 rl14 => ?_))
                      refine WL.step0 (Runs.free rfl) rfl (os_store (i := 8) (vs := [(.slice ao6 (l2 ++ ([(Token.mk 0 [] i1)] : List Token)).length cap6)]) (cs' := [(.slice ao6 (l2 ++ ([(Token.mk 0 [] i1)] : List Token)).length cap6)]) Tryd.sizeOf30 rfl rfl rfl rfl rfl rfl rfl rfl rfl ?_)
                      refine WL.nil (block_normal ?_)
                      refine round_normal (i := 4) rfl ?_
                      refine WL.nil (then_normal (WP.ret (then_ret (block_ret (then_ret (block_ret (then_ret ?_)))))))
                      refine retQ_ret (v := (.tuple #[])) Tryd.results82 Res.nil rfl (fun w' s => ⟨St w H [.obj l1 (R1 .ready none), .obj D1 (.deferred (some [])), .row 37 (encToken).size ([(Token.mk 0 [] i1)] : List Token).length (.slice (some ⟨b26, 0, none⟩) ([(Token.mk 0 [] i1)] : List Token).length 1) [(.int .i64 0), (mkS []), (.int .i64 i1)], .blk b25 37 [(.int .i64 0), (mkS []), (.int .i64 i1)], .blk b24 109 [(.int .i64 0), (.slice none 0 0), .nilFunc], .row 37 (encToken).size (l2 ++ ([(Token.mk 0 [] i1)] : List Token)).length (.slice ao6 (l2 ++ ([(Token.mk 0 [] i1)] : List Token)).length cap6) (xs1 ++ [(.int .i64 0), (mkS []), (.int .i64 i1)]), .blk b9 110 [(.int .i64 0), (.slice none 0 0), .nilFunc, (.int .i64 0), (.slice (some ⟨b7, 0, none⟩) ([1, 2, 3] : List Int).length 3), (.func (.func 21) #[] #[]), (.int .i64 1), (.slice (some ⟨b8, 0, none⟩) ([2] : List Int).length 1), (.func (.func 20) #[] #[]), (.int .i64 0), (.slice none 0 0), .nilFunc, (.int .i64 2), (.slice none 0 0), (.func (.func 98) #[] #[]), (.int .i64 0), (.slice none 0 0), .nilFunc], .blk b5 9 [(mkS p_text)], .blk b4 30 [(.slice ao6 (l2 ++ ([(Token.mk 0 [] i1)] : List Token)).length cap6)], .blk b3 24 [(.int .i64 0)], .blk b2 3 [(.int .i64 0)], .blk b1 30 [(.slice none 0 0)]] H2, ?_, (s.select [4, 5, 0, 1, 2, 3, 6, 7, 8, 9, 10, 11] (by decide) rfl)⟩)
                      refine after_normal ?_
                      refine block_normal (then_normal (WP.seq (WP.region ?_)))
                      refine wq rfl rfl rfl (ov_load_box (i := 7) Tryd.isAgg30 rfl rfl rfl rfl) ?_
                      refine WL.step0 (Runs.free rfl) rfl (os_store (i := 10) (vs := [(.slice ao6 (l2 ++ ([(Token.mk 0 [] i1)] : List Token)).length cap6)]) (cs' := [(.slice ao6 (l2 ++ ([(Token.mk 0 [] i1)] : List Token)).length cap6)]) Tryd.sizeOf30 rfl rfl rfl rfl rfl rfl rfl rfl rfl ?_)
                      refine WL.step0 (Runs.free rfl) rfl (os_store (i := 9) (vs := [(.int .i64 0)]) (cs' := [(.int .i64 0)]) Tryd.sizeOf3 rfl rfl rfl rfl rfl rfl rfl rfl rfl ?_)
                      refine WL.step0 (Runs.free rfl) rfl (os_store (i := 8) (vs := [(.int .i64 0)]) (cs' := [(.int .i64 0)]) Tryd.sizeOf24 rfl rfl rfl rfl rfl rfl rfl rfl rfl ?_)
                      refine WL.nil (then_normal (WP.ret ?_))
                      obtain rfl := Option.some.inj hm
                      refine retQ_retM (i := 0) rfl Tryd.results15 (Res.cell rfl (box_load (i := 9) Tryd.isAgg30 rfl) (Res.cell rfl (box_load (i := 8) Tryd.isAgg3 rfl) (Res.cell rfl (box_load (i := 7) Tryd.isAgg24 rfl) Res.nil))) rfl (fun w' s => ⟨s.below, ?_⟩)
                      obtain ⟨h9, hc31⟩ := s.ret_row (i := 3) rfl rl14
                      exact ⟨ao6, cap6, rfl, h9, hc31⟩
                  · replace hm := ite_f hc29 hm
                    rcases Bool.eq_false_or_eq_true (r1 == 4) with hc32 | hc32
                    · replace hm := ite_t hc32 hm
                      refine wq rfl rfl rfl (ov_indexAddr_at (j := 4) Tryd.underlying110 Tryd.sizeOf109 rfl rfl rfl (eq_of_beq hc32) rfl) ?_
                      refine wq rfl rfl rfl (ov_load_boxes (i := 3) (vs := [(.int .i64 2), (.slice none 0 0), (.func (.func 98) #[] #[])]) Tryd.isAgg109 Tryd.sizeOf109 rfl rfl rfl rfl (part_of rfl)) ?_
                      refine WL.step (Runs.free rfl) rfl rfl (os_alloc (cs := [(.int .i64 0), (.slice none 0 0), .nilFunc]) Tryd.zeroValue109 rfl rfl (fun b27 => ?_))
                      refine WL.step0 (Runs.free rfl) rfl (os_store (i := 0) (vs := [(.int .i64 2), (.slice none 0 0), (.func (.func 98) #[] #[])]) (cs' := [(.int .i64 2), (.slice none 0 0), (.func (.func 98) #[] #[])]) Tryd.sizeOf109 rfl rfl rfl rfl rfl rfl rfl rfl rfl ?_)
                      refine WL.nil (then_normal (WP.seq (WP.seq (WP.region ?_))))
                      refine wq rfl rfl rfl (ov_fieldAddr Tryd.underlying109 rfl rfl rfl Tryd.sizeOf42 rfl rfl) ?_
                      refine wq rfl rfl rfl (ov_load_box (i := 0) Tryd.isAgg42 rfl rfl rfl rfl) ?_
                      refine wq rfl rfl rfl (ov_binOp (r := .bool false) rfl rfl rfl eqGuard_fn (fun _ => by kernel_rfl)) ?_
                      refine WL.nil (then_normal (WP.cond_false rfl (WP.skip (then_normal (WP.seq ?_)))))
                      refine WP.region_draws (by kernel_rfl) (by kernel_rfl) (fun _ s => s.drew) ?_
                      refine QL.quiet (Runs.free rfl) rfl rfl (OV.quiet (ov_load_box (i := 5) Tryd.isAgg9 rfl rfl rfl rfl)) ?_
                      refine QL.quiet (Runs.free rfl) rfl rfl (OV.quiet (ov_move rfl rfl)) ?_
                      obtain ⟨s5, e22, hm⟩ := bind_some hm
                      refine QL.quiet (Runs.free rfl) rfl rfl (OV.quiet (ov_slice_string_from Tryd.underlying9 rfl rfl rfl e22)) ?_
                      refine QL.quiet (Runs.free rfl) rfl rfl (OV.quiet (ov_fieldAddr Tryd.underlying109 rfl rfl rfl Tryd.sizeOf107 rfl rfl)) ?_
                      refine QL.quiet (Runs.free rfl) rfl rfl (OV.quiet (ov_load_box (i := 0) Tryd.isAgg107 rfl rfl rfl rfl)) ?_
                      obtain ⟨r7, e23, hm⟩ := bind_some hm
                      refine QL.quiet (Runs.free rfl) rfl rfl (oq_con (r := (.int .i64 r7)) Tryd.call48 rfl rfl (fun w' s => ⟨_, (lexer_run_con s5 [] none 0  w' H2 s.hold (SL.nil _ _ _) (Nat.le_refl _) hG r7 e23)⟩)) ?_
                      refine QL.quiet (Runs.free rfl) rfl rfl (OV.quiet (ov_max rfl rfl rfl)) ?_
                      refine QL.quiet (Runs.free rfl) rfl rfl (OV.quiet (ov_assign rfl rfl)) ?_
                      refine QL.nil ?_
                      refine then_normal (WP.seq (WP.region ?_))
                      refine wq rfl rfl rfl (ov_load_box (i := 5) Tryd.isAgg9 rfl rfl rfl rfl) ?_
                      refine wq rfl rfl rfl (ov_move rfl rfl) ?_
                      refine wq rfl rfl rfl (ov_move rfl rfl) ?_
                      refine wq rfl rfl rfl (ov_move rfl rfl) ?_
                      refine wq rfl rfl rfl (ov_add rfl rfl rfl) ?_
                      obtain ⟨s6, e24, hm⟩ := bind_some hm
                      refine wq rfl rfl rfl (ov_slice_string Tryd.underlying9 rfl rfl rfl rfl e24) ?_
                      refine wq rfl rfl rfl (ov_assign rfl rfl) ?_
                      refine WL.nil (then_normal (WP.seq (WP.seq (WP.region ?_))))
                      refine wq rfl rfl rfl (ov_fieldAddr Tryd.underlying109 rfl rfl rfl Tryd.sizeOf42 rfl rfl) ?_
                      refine wq rfl rfl rfl (ov_load_box (i := 0) Tryd.isAgg42 rfl rfl rfl rfl) ?_
                      refine wq rfl rfl rfl (ov_move rfl rfl) ?_
                      refine WL.step (Runs.free rfl) rfl rfl (os_inline (cap := []) (vs := [(mkS s6)]) Tryd.call98 rfl rfl rfl Tryd.func98 rfl 3 Tryd.ntmps98 rfl (fun w' s => ?_))
                      refine WP.seq (WP.region ?_)
                      refine wq rfl rfl rfl (ov_assign rfl rfl) ?_
                      refine WL.nil (then_normal (WP.seq (WP.region ?_)))
                      refine wq rfl rfl rfl (ov_assign rfl rfl) ?_
                      refine WL.nil (then_normal (WP.ret ?_))
                      refine retQ_ret (v := (.int .i64 0)) Tryd.results98 (Res.tmp rfl Res.nil) rfl (fun w' s => ⟨_, ?_, s⟩)
                      refine wq rfl rfl rfl (ov_assign rfl rfl) ?_
                      refine WL.nil (then_normal (WP.seq (WP.region ?_)))
                      refine wq rfl rfl rfl (ov_move rfl rfl) ?_
                      refine wq rfl rfl rfl (ov_fieldAddr Tryd.underlying109 rfl rfl rfl Tryd.sizeOf3 rfl rfl) ?_
                      refine wq rfl rfl rfl (ov_load_box (i := 0) Tryd.isAgg3 rfl rfl rfl rfl) ?_
                      refine wq rfl rfl rfl (ov_move rfl rfl) ?_
                      refine wq rfl rfl rfl (ov_move rfl rfl) ?_
                      refine wq rfl rfl rfl (ov_build (r := (.agg #[(.int .i64 2), (mkS s6), (.int .i64 i1)])) rfl rfl (fun _ => by kernel_rfl)) ?_
                      refine wq rfl rfl rfl (ov_move rfl rfl) ?_
                      refine WL.yield (i := 2) (vs := [(.agg #[(.int .i64 2), (mkS s6), (.int .i64 i1)]), (.int .i64 0)]) (Runs.free rfl) rfl rfl rfl rfl rfl hr1 rfl rfl rfl ?_
                      refine WP.seq (WP.region ?_)
                      refine WL.step (Runs.free rfl) rfl rfl (os_alloc (cs := [(.int .i64 0), (mkS []), (.int .i64 0)]) Tryd.zeroValue37 rfl rfl (fun b28 => ?_))
                      refine WL.step0 (Runs.free rfl) rfl (os_store (i := 0) (vs := [(.int .i64 2), (mkS s6), (.int .i64 i1)]) (cs' := [(.int .i64 2), (mkS s6), (.int .i64 i1)]) Tryd.sizeOf37 rfl rfl rfl rfl rfl rfl rfl rfl rfl ?_)
                      refine WL.nil (then_normal (WP.region ?_))
                      refine wq rfl rfl rfl (ov_assign rfl rfl) ?_
                      refine WL.nil (then_normal ?_)
                      refine begin_of (i := 3) rfl ?_
                      refine WP.block (WP.seq (WP.seq (WP.region ?_)))
                      refine wq rfl rfl rfl (ov_move rfl rfl) ?_
                      refine wq rfl rfl rfl (ov_neq rfl rfl rfl) ?_
                      refine WL.nil (then_normal ?_)
                      refine WP.cond rfl (fun hc33 => ?_) (fun hc33 => ?_)
                      · replace hm := ite_t hc33 hm
                        refine WP.seq ?_
                        refine WP.region_anyF (S₀ := St w H [.blk b28 37 [(.int .i64 2), (mkS s6), (.int .i64 i1)], .blk b27 109 [(.int .i64 2), (.slice none 0 0), (.func (.func 98) #[] #[])], .row 37 (encToken).size l2.length (.slice ao2 l2.length cap2) xs1, .obj l1 (R1 .busy none), .obj D1 (.deferred (some [])), .blk b9 110 [(.int .i64 0), (.slice none 0 0), .nilFunc, (.int .i64 0), (.slice (some ⟨b7, 0, none⟩) ([1, 2, 3] : List Int).length 3), (.func (.func 21) #[] #[]), (.int .i64 1), (.slice (some ⟨b8, 0, none⟩) ([2] : List Int).length 1), (.func (.func 20) #[] #[]), (.int .i64 0), (.slice none 0 0), .nilFunc, (.int .i64 2), (.slice none 0 0), (.func (.func 98) #[] #[]), (.int .i64 0), (.slice none 0 0), .nilFunc], .blk b5 9 [(mkS p_text)], .blk b4 30 [(.slice ao2 l2.length cap2)], .blk b3 24 [(.int .i64 0)]] H2) 6 rfl (by kernel_rfl) (by kernel_rfl) (fun w' s => (s.select [0, 1, 2, 3, 4, 5, 6, 7, 8] (by decide) rfl)) (fun _ s => s.drew) ?_
                        refine tq (i := 0) rfl (by kernel_rfl) rfl rfl rfl (ov_fieldAddr Tryd.underlying37 rfl rfl rfl Tryd.sizeOf3 rfl rfl) ?_
                        refine tq (i := 1) rfl (by kernel_rfl) rfl rfl rfl (ov_load_box (i := 0) Tryd.isAgg3 rfl rfl rfl rfl) ?_
                        refine tq (i := 2) rfl (by kernel_rfl) rfl rfl rfl (ov_move rfl rfl) ?_
                        refine AL.any (rs := [3]) (by kernel_rfl) (by decide) ?_
                        refine ALs.cons0 (i := 3) rfl (Runs.free rfl) rfl ?_ ?_
                        · skip
                          refine os_store (i := 10) (vs := [(.slice none 0 0)]) (cs' := [(.slice none 0 0)]) Tryd.sizeOf30 rfl rfl rfl rfl rfl rfl rfl rfl rfl ?_
                          refine ⟨fun w' s => (s.select [0, 1, 2, 3, 4, 5, 6, 7, 8] (by decide) rfl), ?_⟩
                          refine AL.any (rs := [4]) (by kernel_rfl) (by decide) ?_
                          refine ALs.cons0 (i := 4) rfl (Runs.free rfl) rfl ?_ ?_
                          · skip
                            refine os_store (i := 9) (vs := [(.int .i64 i1)]) (cs' := [(.int .i64 i1)]) Tryd.sizeOf3 rfl rfl rfl rfl rfl rfl rfl rfl rfl ?_
                            refine ⟨fun w' s => (s.select [0, 1, 2, 3, 4, 5, 6, 7, 8] (by decide) rfl), ?_⟩
                            refine AL.any (rs := [5]) (by kernel_rfl) (by decide) ?_
                            refine ALs.cons0 (i := 5) rfl (Runs.free rfl) rfl ?_ ?_
                            · skip
                              refine os_store (i := 8) (vs := [(.int .i64 0)]) (cs' := [(.int .i64 0)]) Tryd.sizeOf24 rfl rfl rfl rfl rfl rfl rfl rfl rfl ?_
                              refine ⟨fun w' s => (s.select [0, 1, 2, 3, 4, 5, 6, 7, 8] (by decide) rfl), ?_⟩
                              refine AL.done (by kernel_rfl) ?_
                              refine then_normal (WP.ret (then_ret (block_ret ?_)))
                              refine round_ret (i := 3) rfl ?_
                              refine wq rfl rfl rfl (ov_not rfl rfl) ?_
                              refine wq rfl rfl rfl (ov_move rfl rfl) ?_
                              refine WL.idle (Idle.no rfl rfl rfl rfl) rfl rfl ?_
                              refine WL.idle (Idle.no rfl rfl rfl rfl) rfl rfl ?_
                              refine wq rfl rfl rfl (ov_pick_true rfl (guard_eq rfl rfl) rfl) ?_
                              refine WL.nil (then_normal (WP.cond_true rfl (WP.ret (then_ret (block_ret (then_ret (block_ret (then_ret ?_))))))))
                              refine retQ_ret (v := (.tuple #[])) Tryd.results82 Res.nil rfl (fun w' s => ⟨St w H [.obj l1 (R1 .done (some .ret)), .obj D1 (.deferred (some [])), .blk b28 37 [(.int .i64 2), (mkS s6), (.int .i64 i1)], .blk b27 109 [(.int .i64 2), (.slice none 0 0), (.func (.func 98) #[] #[])], .row 37 (encToken).size l2.length (.slice ao2 l2.length cap2) xs1, .blk b9 110 [(.int .i64 0), (.slice none 0 0), .nilFunc, (.int .i64 0), (.slice (some ⟨b7, 0, none⟩) ([1, 2, 3] : List Int).length 3), (.func (.func 21) #[] #[]), (.int .i64 1), (.slice (some ⟨b8, 0, none⟩) ([2] : List Int).length 1), (.func (.func 20) #[] #[]), (.int .i64 0), (.slice none 0 0), .nilFunc, (.int .i64 2), (.slice none 0 0), (.func (.func 98) #[] #[]), (.int .i64 0), (.slice none 0 0), .nilFunc], .blk b5 9 [(mkS p_text)], .blk b4 30 [(.slice ao2 l2.length cap2)], .blk b3 24 [(.int .i64 0)], .blk b2 3 [(.int .i64 i1)], .blk b1 30 [(.slice none 0 0)]] H2, ?_, (s.select [3, 4, 0, 1, 2, 5, 6, 7, 8, 9, 10] (by decide) rfl)⟩)
                              refine after_ret ?_
                              refine block_ret (then_ret ?_)
                              obtain rfl := Option.some.inj hm
                              refine retQ_retM (i := 0) rfl Tryd.results15 (Res.cell rfl (box_load (i := 8) Tryd.isAgg30 rfl) (Res.cell rfl (box_load (i := 7) Tryd.isAgg3 rfl) (Res.cell rfl (box_load (i := 6) Tryd.isAgg24 rfl) Res.nil))) rfl (fun w' s => ⟨s.below, ?_⟩)
                              exact ⟨none, 0, rfl, SL.nil _ _ _, Nat.le_refl _⟩
                            exact ALs.nil
                          exact ALs.nil
                        exact ALs.nil
                      · replace hm := ite_f hc33 hm
                        refine WP.skip (then_normal (WP.region ?_))
                        refine wq rfl rfl rfl (ov_load_box (i := 7) Tryd.isAgg30 rfl rfl rfl rfl) ?_
                        refine wq rfl rfl rfl (ov_load_whole (i := 0) Tryd.isAgg37 Tryd.sizeOf37 rfl rfl rfl rfl) ?_
                        have rl15 : RL H2 encToken ([(Token.mk 2 s6 i1)] : List Token) [(.int .i64 2), (mkS s6), (.int .i64 i1)] := RL.cons (cs := [(.int .i64 2), (mkS s6), (.int .i64 i1)]) (xs := []) rfl (RL.nil _ _)
                        refine WL.step (Runs.free rfl) rfl rfl (os_buildSlice (cs := [(.int .i64 2), (mkS s6), (.int .i64 i1)]) (E := 37) (sz := 3) rfl rfl (fun _ => by kernel_rfl) rfl (by decide) (fun b29 => ?_))
                        obtain ⟨l7, e25, hm⟩ := bind_some hm
                        refine WL.step (Runs.free rfl) rfl rfl (os_app (i := 3) (j := 0) (En := encToken) (xs := xs1) (ys := [(.int .i64 2), (mkS s6), (.int .i64 i1)]) Tryd.underlying30 (by kernel_rfl : (Tryd.prog.info? 37).map (fun i => (i.zero, i.size, i.bytes)) = some (some (.agg #[(.int .i64 0), (mkS []), (.int .i64 0)]), (encToken).size, 32)) rfl (by decide) rfl rfl rfl rfl rfl rfl rl4 rl15 e25 (fun ao7 cap7 rl16 => ?_))
                        refine WL.step0 (Runs.free rfl) rfl (os_store (i := 8) (vs := [(.slice ao7 (l2 ++ ([(Token.mk 2 s6 i1)] : List Token)).length cap7)]) (cs' := [(.slice ao7 (l2 ++ ([(Token.mk 2 s6 i1)] : List Token)).length cap7)]) Tryd.sizeOf30 rfl rfl rfl rfl rfl rfl rfl rfl rfl ?_)
                        refine WL.nil (block_normal ?_)
                        refine round_normal (i := 4) rfl ?_
                        refine wq rfl rfl rfl (ov_not rfl rfl) ?_
                        refine wq rfl rfl rfl (ov_move rfl rfl) ?_
                        refine WL.quiet (Runs.yes rfl rfl rfl rfl) rfl rfl (OV.quiet (ov_move rfl rfl)) ?_
                        refine WL.quiet (Runs.yes rfl rfl rfl rfl) rfl rfl (OV.quiet (ov_neq rfl rfl rfl)) ?_
                        refine wq rfl rfl rfl (ov_pick_false rfl (guard_eq rfl rfl) rfl) ?_
                        refine WL.nil (then_normal ?_)
                        refine WP.cond rfl (fun hc34 => ?_) (fun hc34 => ?_)
                        · replace hm := ite_t hc34 hm
                          refine WP.ret (then_ret (block_ret (then_ret (block_ret (then_ret ?_)))))
                          refine retQ_ret (v := (.tuple #[])) Tryd.results82 Res.nil rfl (fun w' s => ⟨St w H [.obj l1 (R1 .ready none), .obj D1 (.deferred (some [])), .row 37 (encToken).size ([(Token.mk 2 s6 i1)] : List Token).length (.slice (some ⟨b29, 0, none⟩) ([(Token.mk 2 s6 i1)] : List Token).length 1) [(.int .i64 2), (mkS s6), (.int .i64 i1)], .blk b28 37 [(.int .i64 2), (mkS s6), (.int .i64 i1)], .blk b27 109 [(.int .i64 2), (.slice none 0 0), (.func (.func 98) #[] #[])], .row 37 (encToken).size (l2 ++ ([(Token.mk 2 s6 i1)] : List Token)).length (.slice ao7 (l2 ++ ([(Token.mk 2 s6 i1)] : List Token)).length cap7) (xs1 ++ [(.int .i64 2), (mkS s6), (.int .i64 i1)]), .blk b9 110 [(.int .i64 0), (.slice none 0 0), .nilFunc, (.int .i64 0), (.slice (some ⟨b7, 0, none⟩) ([1, 2, 3] : List Int).length 3), (.func (.func 21) #[] #[]), (.int .i64 1), (.slice (some ⟨b8, 0, none⟩) ([2] : List Int).length 1), (.func (.func 20) #[] #[]), (.int .i64 0), (.slice none 0 0), .nilFunc, (.int .i64 2), (.slice none 0 0), (.func (.func 98) #[] #[]), (.int .i64 0), (.slice none 0 0), .nilFunc], .blk b5 9 [(mkS p_text)], .blk b4 30 [(.slice ao7 (l2 ++ ([(Token.mk 2 s6 i1)] : List Token)).length cap7)], .blk b3 24 [(.int .i64 0)], .blk b2 3 [(.int .i64 0)], .blk b1 30 [(.slice none 0 0)]] H2, ?_, (s.select [4, 5, 0, 1, 2, 3, 6, 7, 8, 9, 10, 11] (by decide) rfl)⟩)
                          refine after_normal ?_
                          refine block_normal (then_normal (WP.seq (WP.region ?_)))
                          refine wq rfl rfl rfl (ov_load_box (i := 7) Tryd.isAgg30 rfl rfl rfl rfl) ?_
                          refine WL.step0 (Runs.free rfl) rfl (os_store (i := 10) (vs := [(.slice ao7 (l2 ++ ([(Token.mk 2 s6 i1)] : List Token)).length cap7)]) (cs' := [(.slice ao7 (l2 ++ ([(Token.mk 2 s6 i1)] : List Token)).length cap7)]) Tryd.sizeOf30 rfl rfl rfl rfl rfl rfl rfl rfl rfl ?_)
                          refine WL.step0 (Runs.free rfl) rfl (os_store (i := 9) (vs := [(.int .i64 0)]) (cs' := [(.int .i64 0)]) Tryd.sizeOf3 rfl rfl rfl rfl rfl rfl rfl rfl rfl ?_)
                          refine WL.step0 (Runs.free rfl) rfl (os_store (i := 8) (vs := [(.int .i64 0)]) (cs' := [(.int .i64 0)]) Tryd.sizeOf24 rfl rfl rfl rfl rfl rfl rfl rfl rfl ?_)
                          refine WL.nil (then_normal (WP.ret ?_))
                          obtain rfl := Option.some.inj hm
                          refine retQ_retM (i := 0) rfl Tryd.results15 (Res.cell rfl (box_load (i := 9) Tryd.isAgg30 rfl) (Res.cell rfl (box_load (i := 8) Tryd.isAgg3 rfl) (Res.cell rfl (box_load (i := 7) Tryd.isAgg24 rfl) Res.nil))) rfl (fun w' s => ⟨s.below, ?_⟩)
                          obtain ⟨h10, hc35⟩ := s.ret_row (i := 3) rfl rl16
                          exact ⟨ao7, cap7, rfl, h10, hc35⟩
                        · replace hm := ite_f hc34 hm
                          refine WP.skip (then_normal (WP.region ?_))
                          refine wq rfl rfl rfl (ov_move rfl rfl) ?_
                          refine wq rfl rfl rfl (ov_move rfl rfl) ?_
                          refine wq rfl rfl rfl (ov_add rfl rfl rfl) ?_
                          refine wq rfl rfl rfl (ov_assign rfl rfl) ?_
                          refine WL.nil (block_normal (then_normal ?_))
                          exact ⟨(IntKind.wrap .i64 (i1 + (if r7 > 1 then r7 else 1))), (l2 ++ ([(Token.mk 2 s6 i1)] : List Token)), ao7, cap7, (xs1 ++ [(.int .i64 2), (mkS s6), (.int .i64 i1)]), rl16, (Sub.cons rfl (Sub.cons rfl (Sub.cons rfl (Sub.cons rfl (Sub.cons rfl (Sub.nil _)))))), fun w' s => (s.select [3, 4, 5, 6, 7, 8, 9, 10, 11] (by decide) rfl), hm⟩
                    · replace hm := ite_f hc32 hm
                      rcases Bool.eq_false_or_eq_true (r1 == 5) with hc36 | hc36
                      · replace hm := ite_t hc36 hm
                        refine wq rfl rfl rfl (ov_indexAddr_at (j := 5) Tryd.underlying110 Tryd.sizeOf109 rfl rfl rfl (eq_of_beq hc36) rfl) ?_
                        refine wq rfl rfl rfl (ov_load_boxes (i := 3) (vs := [(.int .i64 0), (.slice none 0 0), .nilFunc]) Tryd.isAgg109 Tryd.sizeOf109 rfl rfl rfl rfl (part_of rfl)) ?_
                        refine WL.step (Runs.free rfl) rfl rfl (os_alloc (cs := [(.int .i64 0), (.slice none 0 0), .nilFunc]) Tryd.zeroValue109 rfl rfl (fun b30 => ?_))
                        refine WL.step0 (Runs.free rfl) rfl (os_store (i := 0) (vs := [(.int .i64 0), (.slice none 0 0), .nilFunc]) (cs' := [(.int .i64 0), (.slice none 0 0), .nilFunc]) Tryd.sizeOf109 rfl rfl rfl rfl rfl rfl rfl rfl rfl ?_)
                        refine WL.nil (then_normal (WP.seq (WP.seq (WP.region ?_))))
                        refine wq rfl rfl rfl (ov_fieldAddr Tryd.underlying109 rfl rfl rfl Tryd.sizeOf42 rfl rfl) ?_
                        refine wq rfl rfl rfl (ov_load_box (i := 0) Tryd.isAgg42 rfl rfl rfl rfl) ?_
                        refine wq rfl rfl rfl (ov_binOp (r := .bool true) rfl rfl rfl eqGuard_nofn (fun _ => by kernel_rfl)) ?_
                        refine WL.nil (then_normal (WP.cond_true rfl (WP.seq (WP.region ?_))))
                        refine wq rfl rfl rfl (ov_move rfl rfl) ?_
                        refine wq rfl rfl rfl (ov_move rfl rfl) ?_
                        refine wq rfl rfl rfl (ov_build (r := (.agg #[(.int .i64 0), (mkS []), (.int .i64 i1)])) rfl rfl (fun _ => by kernel_rfl)) ?_
                        refine WL.yield (i := 2) (vs := [(.agg #[(.int .i64 0), (mkS []), (.int .i64 i1)]), (.int .i64 4)]) (Runs.free rfl) rfl rfl rfl rfl rfl hr1 rfl rfl rfl ?_
                        refine WP.seq (WP.region ?_)
                        refine WL.step (Runs.free rfl) rfl rfl (os_alloc (cs := [(.int .i64 0), (mkS []), (.int .i64 0)]) Tryd.zeroValue37 rfl rfl (fun b31 => ?_))
                        refine WL.step0 (Runs.free rfl) rfl (os_store (i := 0) (vs := [(.int .i64 0), (mkS []), (.int .i64 i1)]) (cs' := [(.int .i64 0), (mkS []), (.int .i64 i1)]) Tryd.sizeOf37 rfl rfl rfl rfl rfl rfl rfl rfl rfl ?_)
                        refine WL.nil (then_normal (WP.region ?_))
                        refine wq rfl rfl rfl (ov_assign rfl rfl) ?_
                        refine WL.nil (then_normal ?_)
                        refine begin_of (i := 3) rfl ?_
                        refine WP.block (WP.seq (WP.seq (WP.region ?_)))
                        refine wq rfl rfl rfl (ov_move rfl rfl) ?_
                        refine wq rfl rfl rfl (ov_neq rfl rfl rfl) ?_
                        refine WL.nil (then_normal ?_)
                        refine WP.cond rfl (fun hc37 => ?_) (fun hc37 => ?_)
                        · replace hm := ite_t hc37 hm
                          refine WP.seq ?_
                          refine WP.region_anyF (S₀ := St w H [.blk b31 37 [(.int .i64 0), (mkS []), (.int .i64 i1)], .blk b30 109 [(.int .i64 0), (.slice none 0 0), .nilFunc], .row 37 (encToken).size l2.length (.slice ao2 l2.length cap2) xs1, .obj l1 (R1 .busy none), .obj D1 (.deferred (some [])), .blk b9 110 [(.int .i64 0), (.slice none 0 0), .nilFunc, (.int .i64 0), (.slice (some ⟨b7, 0, none⟩) ([1, 2, 3] : List Int).length 3), (.func (.func 21) #[] #[]), (.int .i64 1), (.slice (some ⟨b8, 0, none⟩) ([2] : List Int).length 1), (.func (.func 20) #[] #[]), (.int .i64 0), (.slice none 0 0), .nilFunc, (.int .i64 2), (.slice none 0 0), (.func (.func 98) #[] #[]), (.int .i64 0), (.slice none 0 0), .nilFunc], .blk b5 9 [(mkS p_text)], .blk b4 30 [(.slice ao2 l2.length cap2)]] H2) 6 rfl (by kernel_rfl) (by kernel_rfl) (fun w' s => (s.select [0, 1, 2, 3, 4, 5, 6, 7] (by decide) rfl)) (fun _ s => s.drew) ?_
                          refine tq (i := 0) rfl (by kernel_rfl) rfl rfl rfl (ov_fieldAddr Tryd.underlying37 rfl rfl rfl Tryd.sizeOf3 rfl rfl) ?_
                          refine tq (i := 1) rfl (by kernel_rfl) rfl rfl rfl (ov_load_box (i := 0) Tryd.isAgg3 rfl rfl rfl rfl) ?_
                          refine tq (i := 2) rfl (by kernel_rfl) rfl rfl rfl (ov_move rfl rfl) ?_
                          refine AL.any (rs := [3]) (by kernel_rfl) (by decide) ?_
                          refine ALs.cons0 (i := 3) rfl (Runs.free rfl) rfl ?_ ?_
                          · skip
                            refine os_store (i := 10) (vs := [(.slice none 0 0)]) (cs' := [(.slice none 0 0)]) Tryd.sizeOf30 rfl rfl rfl rfl rfl rfl rfl rfl rfl ?_
                            refine ⟨fun w' s => (s.select [0, 1, 2, 3, 4, 5, 6, 7] (by decide) rfl), ?_⟩
                            refine AL.any (rs := [4]) (by kernel_rfl) (by decide) ?_
                            refine ALs.cons0 (i := 4) rfl (Runs.free rfl) rfl ?_ ?_
                            · skip
                              refine os_store (i := 9) (vs := [(.int .i64 i1)]) (cs' := [(.int .i64 i1)]) Tryd.sizeOf3 rfl rfl rfl rfl rfl rfl rfl rfl rfl ?_
                              refine ⟨fun w' s => (s.select [0, 1, 2, 3, 4, 5, 6, 7] (by decide) rfl), ?_⟩
                              refine AL.any (rs := [5]) (by kernel_rfl) (by decide) ?_
                              refine ALs.cons0 (i := 5) rfl (Runs.free rfl) rfl ?_ ?_
                              · skip
                                refine os_store (i := 8) (vs := [(.int .i64 4)]) (cs' := [(.int .i64 4)]) Tryd.sizeOf24 rfl rfl rfl rfl rfl rfl rfl rfl rfl ?_
                                refine ⟨fun w' s => (s.select [0, 1, 2, 3, 4, 5, 6, 7] (by decide) rfl), ?_⟩
                                refine AL.done (by kernel_rfl) ?_
                                refine then_normal (WP.ret (then_ret (block_ret ?_)))
                                refine round_ret (i := 3) rfl ?_
                                refine WL.nil (then_normal (WP.ret (then_ret (block_ret (then_ret (block_ret (then_ret ?_)))))))
                                refine retQ_ret (v := (.tuple #[])) Tryd.results82 Res.nil rfl (fun w' s => ⟨St w H [.obj l1 (R1 .done (some .ret)), .obj D1 (.deferred (some [])), .blk b31 37 [(.int .i64 0), (mkS []), (.int .i64 i1)], .blk b30 109 [(.int .i64 0), (.slice none 0 0), .nilFunc], .row 37 (encToken).size l2.length (.slice ao2 l2.length cap2) xs1, .blk b9 110 [(.int .i64 0), (.slice none 0 0), .nilFunc, (.int .i64 0), (.slice (some ⟨b7, 0, none⟩) ([1, 2, 3] : List Int).length 3), (.func (.func 21) #[] #[]), (.int .i64 1), (.slice (some ⟨b8, 0, none⟩) ([2] : List Int).length 1), (.func (.func 20) #[] #[]), (.int .i64 0), (.slice none 0 0), .nilFunc, (.int .i64 2), (.slice none 0 0), (.func (.func 98) #[] #[]), (.int .i64 0), (.slice none 0 0), .nilFunc], .blk b5 9 [(mkS p_text)], .blk b4 30 [(.slice ao2 l2.length cap2)], .blk b3 24 [(.int .i64 4)], .blk b2 3 [(.int .i64 i1)], .blk b1 30 [(.slice none 0 0)]] H2, ?_, (s.select [3, 4, 0, 1, 2, 5, 6, 7, 8, 9, 10] (by decide) rfl)⟩)
                                refine after_ret ?_
                                refine block_ret (then_ret ?_)
                                obtain rfl := Option.some.inj hm
                                refine retQ_retM (i := 0) rfl Tryd.results15 (Res.cell rfl (box_load (i := 8) Tryd.isAgg30 rfl) (Res.cell rfl (box_load (i := 7) Tryd.isAgg3 rfl) (Res.cell rfl (box_load (i := 6) Tryd.isAgg24 rfl) Res.nil))) rfl (fun w' s => ⟨s.below, ?_⟩)
                                exact ⟨none, 0, rfl, SL.nil _ _ _, Nat.le_refl _⟩
                              exact ALs.nil
                            exact ALs.nil
                          exact ALs.nil
                        · replace hm := ite_f hc37 hm
                          refine WP.skip (then_normal (WP.region ?_))
                          refine wq rfl rfl rfl (ov_load_box (i := 7) Tryd.isAgg30 rfl rfl rfl rfl) ?_
                          refine wq rfl rfl rfl (ov_load_whole (i := 0) Tryd.isAgg37 Tryd.sizeOf37 rfl rfl rfl rfl) ?_
                          have rl17 : RL H2 encToken ([(Token.mk 0 [] i1)] : List Token) [(.int .i64 0), (mkS []), (.int .i64 i1)] := RL.cons (cs := [(.int .i64 0), (mkS []), (.int .i64 i1)]) (xs := []) rfl (RL.nil _ _)
                          refine WL.step (Runs.free rfl) rfl rfl (os_buildSlice (cs := [(.int .i64 0), (mkS []), (.int .i64 i1)]) (E := 37) (sz := 3) rfl rfl (fun _ => by kernel_rfl) rfl (by decide) (fun b32 => ?_))
                          obtain ⟨l8, e26, hm⟩ := bind_some hm
                          refine WL.step (Runs.free rfl) rfl rfl (os_app (i := 3) (j := 0) (En := encToken) (xs := xs1) (ys := [(.int .i64 0), (mkS []), (.int .i64 i1)]) Tryd.underlying30 (by kernel_rfl : (Tryd.prog.info? 37).map (fun i => (i.zero, i.size, i.bytes)) = some (some (.agg #[(.int .i64 0), (mkS []), (.int .i64 0)]), (encToken).size, 32)) rfl (by decide) rfl rfl rfl rfl rfl rfl rl4 rl17 e26 (fun ao8 cap8 rl18 => ?_))
                          refine WL.step0 (Runs.free rfl) rfl (os_store (i := 8) (vs := [(.slice ao8 (l2 ++ ([(Token.mk 0 [] i1)] : List Token)).length cap8)]) (cs' := [(.slice ao8 (l2 ++ ([(Token.mk 0 [] i1)] : List Token)).length cap8)]) Tryd.sizeOf30 rfl rfl rfl rfl rfl rfl rfl rfl rfl ?_)
                          refine WL.nil (block_normal ?_)
                          refine round_normal (i := 4) rfl ?_
                          refine WL.nil (then_normal (WP.ret (then_ret (block_ret (then_ret (block_ret (then_ret ?_)))))))
                          refine retQ_ret (v := (.tuple #[])) Tryd.results82 Res.nil rfl (fun w' s => ⟨St w H [.obj l1 (R1 .ready none), .obj D1 (.deferred (some [])), .row 37 (encToken).size ([(Token.mk 0 [] i1)] : List Token).length (.slice (some ⟨b32, 0, none⟩) ([(Token.mk 0 [] i1)] : List Token).length 1) [(.int .i64 0), (mkS []), (.int .i64 i1)], .blk b31 37 [(.int .i64 0), (mkS []), (.int .i64 i1)], .blk b30 109 [(.int .i64 0), (.slice none 0 0), .nilFunc], .row 37 (encToken).size (l2 ++ ([(Token.mk 0 [] i1)] : List Token)).length (.slice ao8 (l2 ++ ([(Token.mk 0 [] i1)] : List Token)).length cap8) (xs1 ++ [(.int .i64 0), (mkS []), (.int .i64 i1)]), .blk b9 110 [(.int .i64 0), (.slice none 0 0), .nilFunc, (.int .i64 0), (.slice (some ⟨b7, 0, none⟩) ([1, 2, 3] : List Int).length 3), (.func (.func 21) #[] #[]), (.int .i64 1), (.slice (some ⟨b8, 0, none⟩) ([2] : List Int).length 1), (.func (.func 20) #[] #[]), (.int .i64 0), (.slice none 0 0), .nilFunc, (.int .i64 2), (.slice none 0 0), (.func (.func 98) #[] #[]), (.int .i64 0), (.slice none 0 0), .nilFunc], .blk b5 9 [(mkS p_text)], .blk b4 30 [(.slice ao8 (l2 ++ ([(Token.mk 0 [] i1)] : List Token)).length cap8)], .blk b3 24 [(.int .i64 0)], .blk b2 3 [(.int .i64 0)], .blk b1 30 [(.slice none 0 0)]] H2, ?_, (s.select [4, 5, 0, 1, 2, 3, 6, 7, 8, 9, 10, 11] (by decide) rfl)⟩)
                          refine after_normal ?_
                          refine block_normal (then_normal (WP.seq (WP.region ?_)))
                          refine wq rfl rfl rfl (ov_load_box (i := 7) Tryd.isAgg30 rfl rfl rfl rfl) ?_
                          refine WL.step0 (Runs.free rfl) rfl (os_store (i := 10) (vs := [(.slice ao8 (l2 ++ ([(Token.mk 0 [] i1)] : List Token)).length cap8)]) (cs' := [(.slice ao8 (l2 ++ ([(Token.mk 0 [] i1)] : List Token)).length cap8)]) Tryd.sizeOf30 rfl rfl rfl rfl rfl rfl rfl rfl rfl ?_)
                          refine WL.step0 (Runs.free rfl) rfl (os_store (i := 9) (vs := [(.int .i64 0)]) (cs' := [(.int .i64 0)]) Tryd.sizeOf3 rfl rfl rfl rfl rfl rfl rfl rfl rfl ?_)
                          refine WL.step0 (Runs.free rfl) rfl (os_store (i := 8) (vs := [(.int .i64 0)]) (cs' := [(.int .i64 0)]) Tryd.sizeOf24 rfl rfl rfl rfl rfl rfl rfl rfl rfl ?_)
                          refine WL.nil (then_normal (WP.ret ?_))
                          obtain rfl := Option.some.inj hm
                          refine retQ_retM (i := 0) rfl Tryd.results15 (Res.cell rfl (box_load (i := 9) Tryd.isAgg30 rfl) (Res.cell rfl (box_load (i := 8) Tryd.isAgg3 rfl) (Res.cell rfl (box_load (i := 7) Tryd.isAgg24 rfl) Res.nil))) rfl (fun w' s => ⟨s.below, ?_⟩)
                          obtain ⟨h11, hc38⟩ := s.ret_row (i := 3) rfl rl18
                          exact ⟨ao8, cap8, rfl, h11, hc38⟩
                      · replace hm := ite_f hc36 hm
                        exact (none_some hm).elim
        · replace hm := ite_f hc5 hm
          refine WP.exit (then_exit (then_exit (block_here (then_normal ?_))))
          exact ⟨l2, ao2, cap2, xs1, rl4, (Sub.cons rfl (Sub.cons rfl (Sub.cons rfl (Sub.nil _)))), fun w' s => s, hm⟩
    · rintro g' S' ⟨l9, ao9, cap9, xs2, rl19, hsub4, hS4, hm⟩
      refine WP.sub hsub4 (WP.weaken hS4 ?_)
      replace hm := (congrFun hk1 l9).symm.trans hm
      refine WP.region ?_
      refine wq rfl rfl rfl (ov_move rfl rfl) ?_
      refine wq rfl rfl rfl (ov_load_box (i := 4) Tryd.isAgg9 rfl rfl rfl rfl) ?_
      refine wq rfl rfl rfl (ov_len_string Tryd.underlying9 rfl rfl) ?_
      refine wq rfl rfl rfl (ov_build (r := (.agg #[(.int .i64 3), (mkS []), (.int .i64 (p_text.length : Int))])) rfl rfl (fun _ => by kernel_rfl)) ?_
      refine WL.yield (i := 1) (vs := [(.agg #[(.int .i64 3), (mkS []), (.int .i64 (p_text.length : Int))]), (.int .i64 0)]) (Runs.free rfl) rfl rfl rfl rfl rfl hr1 rfl rfl rfl ?_
      refine WP.seq (WP.region ?_)
      refine WL.step (Runs.free rfl) rfl rfl (os_alloc (cs := [(.int .i64 0), (mkS []), (.int .i64 0)]) Tryd.zeroValue37 rfl rfl (fun b33 => ?_))
      refine WL.step0 (Runs.free rfl) rfl (os_store (i := 0) (vs := [(.int .i64 3), (mkS []), (.int .i64 (p_text.length : Int))]) (cs' := [(.int .i64 3), (mkS []), (.int .i64 (p_text.length : Int))]) Tryd.sizeOf37 rfl rfl rfl rfl rfl rfl rfl rfl rfl ?_)
      refine WL.nil (then_normal (WP.region ?_))
      refine wq rfl rfl rfl (ov_assign rfl rfl) ?_
      refine WL.nil (then_normal ?_)
      refine begin_of (i := 2) rfl ?_
      refine WP.block (WP.seq (WP.seq (WP.region ?_)))
      refine wq rfl rfl rfl (ov_move rfl rfl) ?_
      refine wq rfl rfl rfl (ov_neq rfl rfl rfl) ?_
      refine WL.nil (then_normal ?_)
      refine WP.cond rfl (fun hc39 => ?_) (fun hc39 => ?_)
      · replace hm := ite_t hc39 hm
        refine WP.seq ?_
        refine WP.region_anyF (S₀ := St w H [.blk b33 37 [(.int .i64 3), (mkS []), (.int .i64 (p_text.length : Int))], .row 37 (encToken).size l9.length (.slice ao9 l9.length cap9) xs2, .obj l1 (R1 .busy none), .obj D1 (.deferred (some [])), .blk b9 110 [(.int .i64 0), (.slice none 0 0), .nilFunc, (.int .i64 0), (.slice (some ⟨b7, 0, none⟩) ([1, 2, 3] : List Int).length 3), (.func (.func 21) #[] #[]), (.int .i64 1), (.slice (some ⟨b8, 0, none⟩) ([2] : List Int).length 1), (.func (.func 20) #[] #[]), (.int .i64 0), (.slice none 0 0), .nilFunc, (.int .i64 2), (.slice none 0 0), (.func (.func 98) #[] #[]), (.int .i64 0), (.slice none 0 0), .nilFunc], .blk b5 9 [(mkS p_text)], .blk b4 30 [(.slice ao9 l9.length cap9)], .blk b3 24 [(.int .i64 0)]] H2) 6 rfl (by kernel_rfl) (by kernel_rfl) (fun w' s => (s.select [0, 1, 2, 3, 4, 5, 6, 7] (by decide) rfl)) (fun _ s => s.drew) ?_
        refine tq (i := 0) rfl (by kernel_rfl) rfl rfl rfl (ov_fieldAddr Tryd.underlying37 rfl rfl rfl Tryd.sizeOf3 rfl rfl) ?_
        refine tq (i := 1) rfl (by kernel_rfl) rfl rfl rfl (ov_load_box (i := 0) Tryd.isAgg3 rfl rfl rfl rfl) ?_
        refine tq (i := 2) rfl (by kernel_rfl) rfl rfl rfl (ov_move rfl rfl) ?_
        refine AL.any (rs := [3]) (by kernel_rfl) (by decide) ?_
        refine ALs.cons0 (i := 3) rfl (Runs.free rfl) rfl ?_ ?_
        · skip
          refine os_store (i := 9) (vs := [(.slice none 0 0)]) (cs' := [(.slice none 0 0)]) Tryd.sizeOf30 rfl rfl rfl rfl rfl rfl rfl rfl rfl ?_
          refine ⟨fun w' s => (s.select [0, 1, 2, 3, 4, 5, 6, 7] (by decide) rfl), ?_⟩
          refine AL.any (rs := [4]) (by kernel_rfl) (by decide) ?_
          refine ALs.cons0 (i := 4) rfl (Runs.free rfl) rfl ?_ ?_
          · skip
            refine os_store (i := 8) (vs := [(.int .i64 (p_text.length : Int))]) (cs' := [(.int .i64 (p_text.length : Int))]) Tryd.sizeOf3 rfl rfl rfl rfl rfl rfl rfl rfl rfl ?_
            refine ⟨fun w' s => (s.select [0, 1, 2, 3, 4, 5, 6, 7] (by decide) rfl), ?_⟩
            refine AL.any (rs := [5]) (by kernel_rfl) (by decide) ?_
            refine ALs.cons0 (i := 5) rfl (Runs.free rfl) rfl ?_ ?_
            · skip
              refine os_store (i := 7) (vs := [(.int .i64 0)]) (cs' := [(.int .i64 0)]) Tryd.sizeOf24 rfl rfl rfl rfl rfl rfl rfl rfl rfl ?_
              refine ⟨fun w' s => (s.select [0, 1, 2, 3, 4, 5, 6, 7] (by decide) rfl), ?_⟩
              refine AL.done (by kernel_rfl) ?_
              refine then_normal (WP.ret (then_ret (block_ret ?_)))
              refine round_ret (i := 2) rfl ?_
              refine WL.nil ?_
              refine retQ_end (v := (.tuple #[])) Tryd.results82 Res.nil rfl (fun w' s => ⟨St w H [.obj l1 (R1 .done (some .ret)), .obj D1 (.deferred (some [])), .blk b33 37 [(.int .i64 3), (mkS []), (.int .i64 (p_text.length : Int))], .row 37 (encToken).size l9.length (.slice ao9 l9.length cap9) xs2, .blk b9 110 [(.int .i64 0), (.slice none 0 0), .nilFunc, (.int .i64 0), (.slice (some ⟨b7, 0, none⟩) ([1, 2, 3] : List Int).length 3), (.func (.func 21) #[] #[]), (.int .i64 1), (.slice (some ⟨b8, 0, none⟩) ([2] : List Int).length 1), (.func (.func 20) #[] #[]), (.int .i64 0), (.slice none 0 0), .nilFunc, (.int .i64 2), (.slice none 0 0), (.func (.func 98) #[] #[]), (.int .i64 0), (.slice none 0 0), .nilFunc], .blk b5 9 [(mkS p_text)], .blk b4 30 [(.slice ao9 l9.length cap9)], .blk b3 24 [(.int .i64 0)], .blk b2 3 [(.int .i64 (p_text.length : Int))], .blk b1 30 [(.slice none 0 0)]] H2, ?_, (s.select [2, 3, 0, 1, 4, 5, 6, 7, 8, 9] (by decide) rfl)⟩)
              refine after_ret ?_
              refine block_ret (then_ret ?_)
              obtain rfl := Option.some.inj hm
              refine retQ_retM (i := 0) rfl Tryd.results15 (Res.cell rfl (box_load (i := 7) Tryd.isAgg30 rfl) (Res.cell rfl (box_load (i := 6) Tryd.isAgg3 rfl) (Res.cell rfl (box_load (i := 5) Tryd.isAgg24 rfl) Res.nil))) rfl (fun w' s => ⟨s.below, ?_⟩)
              exact ⟨none, 0, rfl, SL.nil _ _ _, Nat.le_refl _⟩
            exact ALs.nil
          exact ALs.nil
        exact ALs.nil
      · replace hm := ite_f hc39 hm
        refine WP.skip (then_normal (WP.region ?_))
        refine wq rfl rfl rfl (ov_load_box (i := 6) Tryd.isAgg30 rfl rfl rfl rfl) ?_
        refine wq rfl rfl rfl (ov_load_whole (i := 0) Tryd.isAgg37 Tryd.sizeOf37 rfl rfl rfl rfl) ?_
        have rl20 : RL H2 encToken ([(Token.mk 3 [] (p_text.length : Int))] : List Token) [(.int .i64 3), (mkS []), (.int .i64 (p_text.length : Int))] := RL.cons (cs := [(.int .i64 3), (mkS []), (.int .i64 (p_text.length : Int))]) (xs := []) rfl (RL.nil _ _)
        refine WL.step (Runs.free rfl) rfl rfl (os_buildSlice (cs := [(.int .i64 3), (mkS []), (.int .i64 (p_text.length : Int))]) (E := 37) (sz := 3) rfl rfl (fun _ => by kernel_rfl) rfl (by decide) (fun b34 => ?_))
        obtain ⟨l10, e27, hm⟩ := bind_some hm
        refine WL.step (Runs.free rfl) rfl rfl (os_app (i := 2) (j := 0) (En := encToken) (xs := xs2) (ys := [(.int .i64 3), (mkS []), (.int .i64 (p_text.length : Int))]) Tryd.underlying30 (by kernel_rfl : (Tryd.prog.info? 37).map (fun i => (i.zero, i.size, i.bytes)) = some (some (.agg #[(.int .i64 0), (mkS []), (.int .i64 0)]), (encToken).size, 32)) rfl (by decide) rfl rfl rfl rfl rfl rfl rl19 rl20 e27 (fun ao10 cap10 rl21 => ?_))
        refine WL.step0 (Runs.free rfl) rfl (os_store (i := 7) (vs := [(.slice ao10 (l9 ++ ([(Token.mk 3 [] (p_text.length : Int))] : List Token)).length cap10)]) (cs' := [(.slice ao10 (l9 ++ ([(Token.mk 3 [] (p_text.length : Int))] : List Token)).length cap10)]) Tryd.sizeOf30 rfl rfl rfl rfl rfl rfl rfl rfl rfl ?_)
        refine WL.nil (block_normal ?_)
        refine round_normal (i := 3) rfl ?_
        refine WL.nil ?_
        refine retQ_end (v := (.tuple #[])) Tryd.results82 Res.nil rfl (fun w' s => ⟨St w H [.obj l1 (R1 .ready none), .obj D1 (.deferred (some [])), .row 37 (encToken).size ([(Token.mk 3 [] (p_text.length : Int))] : List Token).length (.slice (some ⟨b34, 0, none⟩) ([(Token.mk 3 [] (p_text.length : Int))] : List Token).length 1) [(.int .i64 3), (mkS []), (.int .i64 (p_text.length : Int))], .blk b33 37 [(.int .i64 3), (mkS []), (.int .i64 (p_text.length : Int))], .row 37 (encToken).size (l9 ++ ([(Token.mk 3 [] (p_text.length : Int))] : List Token)).length (.slice ao10 (l9 ++ ([(Token.mk 3 [] (p_text.length : Int))] : List Token)).length cap10) (xs2 ++ [(.int .i64 3), (mkS []), (.int .i64 (p_text.length : Int))]), .blk b9 110 [(.int .i64 0), (.slice none 0 0), .nilFunc, (.int .i64 0), (.slice (some ⟨b7, 0, none⟩) ([1, 2, 3] : List Int).length 3), (.func (.func 21) #[] #[]), (.int .i64 1), (.slice (some ⟨b8, 0, none⟩) ([2] : List Int).length 1), (.func (.func 20) #[] #[]), (.int .i64 0), (.slice none 0 0), .nilFunc, (.int .i64 2), (.slice none 0 0), (.func (.func 98) #[] #[]), (.int .i64 0), (.slice none 0 0), .nilFunc], .blk b5 9 [(mkS p_text)], .blk b4 30 [(.slice ao10 (l9 ++ ([(Token.mk 3 [] (p_text.length : Int))] : List Token)).length cap10)], .blk b3 24 [(.int .i64 0)], .blk b2 3 [(.int .i64 0)], .blk b1 30 [(.slice none 0 0)]] H2, ?_, (s.select [3, 4, 0, 1, 2, 5, 6, 7, 8, 9, 10] (by decide) rfl)⟩)
        refine after_normal ?_
        refine block_normal (then_normal (WP.seq (WP.region ?_)))
        refine wq rfl rfl rfl (ov_load_box (i := 6) Tryd.isAgg30 rfl rfl rfl rfl) ?_
        refine WL.step0 (Runs.free rfl) rfl (os_store (i := 9) (vs := [(.slice ao10 (l9 ++ ([(Token.mk 3 [] (p_text.length : Int))] : List Token)).length cap10)]) (cs' := [(.slice ao10 (l9 ++ ([(Token.mk 3 [] (p_text.length : Int))] : List Token)).length cap10)]) Tryd.sizeOf30 rfl rfl rfl rfl rfl rfl rfl rfl rfl ?_)
        refine WL.step0 (Runs.free rfl) rfl (os_store (i := 8) (vs := [(.int .i64 0)]) (cs' := [(.int .i64 0)]) Tryd.sizeOf3 rfl rfl rfl rfl rfl rfl rfl rfl rfl ?_)
        refine WL.step0 (Runs.free rfl) rfl (os_store (i := 7) (vs := [(.int .i64 0)]) (cs' := [(.int .i64 0)]) Tryd.sizeOf24 rfl rfl rfl rfl rfl rfl rfl rfl rfl ?_)
        refine WL.nil (then_normal (WP.ret ?_))
        obtain rfl := Option.some.inj hm
        refine retQ_retM (i := 0) rfl Tryd.results15 (Res.cell rfl (box_load (i := 8) Tryd.isAgg30 rfl) (Res.cell rfl (box_load (i := 7) Tryd.isAgg3 rfl) (Res.cell rfl (box_load (i := 6) Tryd.isAgg24 rfl) Res.nil))) rfl (fun w' s => ⟨s.below, ?_⟩)
        obtain ⟨h12, hc40⟩ := s.ret_row (i := 2) rfl rl21
        exact ⟨ao10, cap10, rfl, h12, hc40⟩

theorem lexer_Value_con (p_s : (List UInt8)) (w : World) (H : Heap) (hH : Le H (hp w)) (hG : Glob H) (r : (Int × Int)) (hm : lexer_Value p_s = some r) :
    Con Tryd.prog 19 [(mkS p_s)] w H (fun v _ => v = (.tuple #[(.int .i64 r.1), (.int .i64 r.2)])) := by
  unfold lexer_Value at hm
  refine con_of hH Tryd.func19 rfl 30 Tryd.ntmps19 rfl ?_
  refine WP.seq (WP.region ?_)
  refine wq rfl rfl rfl (ov_assign rfl rfl) ?_
  refine wq rfl rfl rfl (ov_assign rfl rfl) ?_
  refine WL.nil (then_normal (WP.seq (WP.region ?_)))
  refine wq rfl rfl rfl (ov_move rfl rfl) ?_
  obtain ⟨r1, e1, hm⟩ := bind_some hm
  refine WL.quiet (Runs.free rfl) rfl rfl (oq_con (r := (.tuple #[(mkS r1.1), (.bool r1.2)])) Tryd.call46 rfl rfl (fun w' s => ⟨_, (strings_CutPrefix_con p_s [45]  w' H s.hold hG r1 e1)⟩)) ?_
  refine wq rfl rfl rfl (ov_move rfl rfl) ?_
  refine wq rfl rfl rfl (ov_extract rfl rfl rfl) ?_
  refine wq rfl rfl rfl (ov_extract rfl rfl rfl) ?_
  refine wq rfl rfl rfl (ov_assign rfl rfl) ?_
  refine wq rfl rfl rfl (ov_assign rfl rfl) ?_
  refine WL.nil (then_normal (WP.seq (WP.seq (WP.region ?_))))
  refine wq rfl rfl rfl (ov_move rfl rfl) ?_
  obtain ⟨r2, e2, hm⟩ := bind_some hm
  refine WL.quiet (Runs.free rfl) rfl rfl (oq_con (r := (.int .i64 r2)) Tryd.call20 rfl rfl (fun w' s => ⟨_, (lexer_Number_con r1.1  w' H s.hold hG r2 e2)⟩)) ?_
  refine wq rfl rfl rfl (ov_assign rfl rfl) ?_
  refine WL.nil (then_normal (WP.seq (WP.region ?_)))
  refine wq rfl rfl rfl (ov_move rfl rfl) ?_
  refine wq rfl rfl rfl (ov_neq rfl rfl rfl) ?_
  refine WL.nil (then_normal ?_)
  refine WP.cond rfl (fun hc1 => ?_) (fun hc1 => ?_)
  · replace hm := ite_t hc1 hm
    refine WP.seq (WP.region ?_)
    refine wq rfl rfl rfl (ov_move rfl rfl) ?_
    refine wq rfl rfl rfl (ov_assign rfl rfl) ?_
    refine wq rfl rfl rfl (ov_assign rfl rfl) ?_
    refine WL.nil (then_normal (WP.ret (then_ret ?_)))
    obtain rfl := Option.some.inj hm
    refine retQ_ret Tryd.results19 (Res.tmp rfl (Res.tmp rfl Res.nil)) rfl (fun w' s => ⟨s.below, ?_⟩)
    exact rfl
  · replace hm := ite_f hc1 hm
    refine WP.skip (then_normal (WP.seq (WP.seq (WP.region ?_))))
    refine wq rfl rfl rfl (ov_move rfl rfl) ?_
    refine wq rfl rfl rfl (ov_move rfl rfl) ?_
    refine WL.cut_bool 3 23 (x := (r1.2 && (r1.1 == [48]))) ?_ ?_
    · rcases Bool.eq_false_or_eq_true r1.2 with hc2 | hc2
      · skip
        refine WL.quiet (Runs.yes rfl rfl rfl hc2) rfl rfl (OV.quiet (ov_move rfl rfl)) ?_
        refine WL.quiet (Runs.yes rfl rfl rfl hc2) rfl rfl (OV.quiet (ov_seql rfl rfl rfl)) ?_
        refine wq rfl rfl rfl (ov_pick_true rfl (guard_eq rfl hc2) rfl) ?_
        exact WL.nil ⟨Sub.cons' rfl (congrArg Value.bool (andT hc2)) (Sub.skip rfl (Sub.skip rfl (Sub.skip rfl (Sub.refl _)))), fun _ s => s⟩
      · skip
        refine WL.idle (Idle.no rfl rfl rfl hc2) rfl rfl ?_
        refine WL.idle (Idle.no rfl rfl rfl hc2) rfl rfl ?_
        refine wq rfl rfl rfl (ov_pick_false rfl (guard_eq rfl hc2) rfl) ?_
        exact WL.nil ⟨Sub.cons' rfl (congrArg Value.bool (andF hc2)) (Sub.skip rfl (Sub.skip rfl (Sub.skip rfl (Sub.refl _)))), fun _ s => s⟩
    refine WL.nil (then_normal ?_)
    refine WP.cond rfl (fun hc3 => ?_) (fun hc3 => ?_)
    · replace hm := ite_t hc3 hm
      refine WP.seq (WP.region ?_)
      refine wq rfl rfl rfl (ov_assign rfl rfl) ?_
      refine wq rfl rfl rfl (ov_assign rfl rfl) ?_
      refine WL.nil (then_normal (WP.ret (then_ret ?_)))
      obtain rfl := Option.some.inj hm
      refine retQ_ret Tryd.results19 (Res.tmp rfl (Res.tmp rfl Res.nil)) rfl (fun w' s => ⟨s.below, ?_⟩)
      exact rfl
    · replace hm := ite_f hc3 hm
      refine WP.skip (then_normal (WP.seq (WP.region ?_)))
      refine wq rfl rfl rfl (ov_move rfl rfl) ?_
      obtain ⟨r3, e3, hm⟩ := bind_some hm
      refine WL.quiet (Runs.free rfl) rfl rfl (oq_con (r := (.tuple #[(.int .i64 r3.1), .nilIface])) Tryd.call47 rfl rfl (fun w' s => ⟨_, (strconv_Atoi_con p_s  w' H s.hold hG r3 e3)⟩)) ?_
      refine wq rfl rfl rfl (ov_move rfl rfl) ?_
      refine wq rfl rfl rfl (ov_extract rfl rfl rfl) ?_
      refine wq rfl rfl rfl (ov_extract rfl rfl rfl) ?_
      refine wq rfl rfl rfl (ov_assign rfl rfl) ?_
      refine wq rfl rfl rfl (ov_assign rfl rfl) ?_
      refine WL.nil (then_normal (WP.seq (WP.region ?_)))
      refine wq rfl rfl rfl (ov_move rfl rfl) ?_
      refine wq rfl rfl rfl (ov_assign rfl rfl) ?_
      refine wq rfl rfl rfl (ov_assign rfl rfl) ?_
      refine WL.nil (then_normal (WP.ret ?_))
      obtain rfl := Option.some.inj hm
      refine retQ_ret Tryd.results19 (Res.tmp rfl (Res.tmp rfl Res.nil)) rfl (fun w' s => ⟨s.below, ?_⟩)
      exact rfl

theorem lexer_check_con (p_t : Token) (p_last : Bool) (w : World) (H : Heap) (hH : Le H (hp w)) (hG : Glob H) (r : Int) (hm : lexer_check p_t p_last = some r) :
    Con Tryd.prog 50 [(.agg #[(.int .i64 p_t.kind), (mkS p_t.text), (.int .i64 p_t.at_)]), (.bool p_last)] w H (fun v _ => v = (.int .i64 r)) := by
  unfold lexer_check at hm
  refine con_of hH Tryd.func50 rfl 39 Tryd.ntmps50 rfl ?_
  refine WP.seq (WP.region ?_)
  refine WL.step (Runs.free rfl) rfl rfl (os_box (cs := [(.int .i64 p_t.kind), (mkS p_t.text), (.int .i64 p_t.at_)]) rfl rfl rfl (fun b1 => ?_))
  refine wq rfl rfl rfl (ov_assign rfl rfl) ?_
  refine WL.nil (then_normal ?_)
  obtain ⟨k1, hk1, hm⟩ := joinK_some hm
  refine WP.seq_join (fun g' S' => Sub [(1000000007, (.bool false))] g' ∧ (∀ w', S' w' → St w H [] H w') ∧ k1 = some r) ?_ ?_
  · skip
    refine WP.seq (WP.region ?_)
    refine wq rfl rfl rfl (ov_fieldAddr Tryd.underlying37 rfl rfl rfl Tryd.sizeOf3 rfl rfl) ?_
    refine wq rfl rfl rfl (ov_load_box (i := 0) Tryd.isAgg3 rfl rfl rfl rfl) ?_
    refine WL.nil (then_normal (WP.block (WP.seq (WP.region ?_))))
    refine wq rfl rfl rfl (ov_eql rfl rfl rfl) ?_
    refine wq rfl rfl rfl (ov_assign rfl rfl) ?_
    refine WL.nil (then_normal ?_)
    refine WP.cond rfl (fun hc1 => ?_) (fun hc1 => ?_)
    · replace hm := ite_t hc1 hm
      refine WP.seq (WP.region ?_)
      refine wq rfl rfl rfl (ov_fieldAddr Tryd.underlying37 rfl rfl rfl Tryd.sizeOf9 rfl rfl) ?_
      refine wq rfl rfl rfl (ov_load_box (i := 0) Tryd.isAgg9 rfl rfl rfl rfl) ?_
      obtain ⟨r1, e1, hm⟩ := bind_some hm
      refine WL.quiet (Runs.free rfl) rfl rfl (oq_con (r := (.int .i64 r1)) Tryd.call21 rfl rfl (fun w' s => ⟨_, (lexer_Word_con p_t.text  w' H s.hold hG r1 e1)⟩)) ?_
      refine wq rfl rfl rfl (ov_assign rfl rfl) ?_
      refine WL.nil (then_normal (WP.ret (block_ret (then_ret ?_))))
      obtain rfl := Option.some.inj hm
      refine retQ_ret Tryd.results50 (Res.tmp rfl Res.nil) rfl (fun w' s => ⟨s.below, ?_⟩)
      exact rfl
    · replace hm := ite_f hc1 hm
      refine WP.seq (WP.region ?_)
      refine wq rfl rfl rfl (ov_eql rfl rfl rfl) ?_
      refine wq rfl rfl rfl (ov_assign rfl rfl) ?_
      refine WL.nil (then_normal ?_)
      refine WP.cond rfl (fun hc2 => ?_) (fun hc2 => ?_)
      · replace hm := ite_t hc2 hm
        refine WP.seq (WP.region ?_)
        refine wq rfl rfl rfl (ov_fieldAddr Tryd.underlying37 rfl rfl rfl Tryd.sizeOf9 rfl rfl) ?_
        refine wq rfl rfl rfl (ov_load_box (i := 0) Tryd.isAgg9 rfl rfl rfl rfl) ?_
        obtain ⟨r2, e2, hm⟩ := bind_some hm
        refine WL.quiet (Runs.free rfl) rfl rfl (oq_con (r := (.int .i64 r2)) Tryd.call20 rfl rfl (fun w' s => ⟨_, (lexer_Number_con p_t.text  w' H s.hold hG r2 e2)⟩)) ?_
        refine wq rfl rfl rfl (ov_assign rfl rfl) ?_
        refine WL.nil (then_normal (WP.ret (block_ret (then_ret ?_))))
        obtain rfl := Option.some.inj hm
        refine retQ_ret Tryd.results50 (Res.tmp rfl Res.nil) rfl (fun w' s => ⟨s.below, ?_⟩)
        exact rfl
      · replace hm := ite_f hc2 hm
        refine WP.seq (WP.region ?_)
        refine wq rfl rfl rfl (ov_eql rfl rfl rfl) ?_
        refine wq rfl rfl rfl (ov_assign rfl rfl) ?_
        refine WL.nil (then_normal ?_)
        refine WP.cond rfl (fun hc3 => ?_) (fun hc3 => ?_)
        · replace hm := ite_t hc3 hm
          refine WP.seq (WP.region ?_)
          refine wq rfl rfl rfl (ov_fieldAddr Tryd.underlying37 rfl rfl rfl Tryd.sizeOf9 rfl rfl) ?_
          refine wq rfl rfl rfl (ov_load_box (i := 0) Tryd.isAgg9 rfl rfl rfl rfl) ?_
          refine wq rfl rfl rfl (ov_len_string Tryd.underlying9 rfl rfl) ?_
          refine wq rfl rfl rfl (ov_neq rfl rfl rfl) ?_
          refine wq rfl rfl rfl (ov_move rfl rfl) ?_
          obtain ⟨c1, e3, hm⟩ := bind_some hm
          refine WL.cut_bool 6 29 (x := c1) ?_ ?_
          · rcases Bool.eq_false_or_eq_true ((p_t.text.length : Int) != 1) with hc4 | hc4
            · skip
              replace hm := ite_t hc4 e3
              refine WL.idle (Idle.no rfl rfl rfl hc4) rfl rfl ?_
              refine WL.idle (Idle.no rfl rfl rfl hc4) rfl rfl ?_
              refine WL.idle (Idle.no rfl rfl rfl hc4) rfl rfl ?_
              refine WL.idle (Idle.no rfl rfl rfl hc4) rfl rfl ?_
              refine WL.idle (Idle.no rfl rfl rfl hc4) rfl rfl ?_
              refine wq rfl rfl rfl (ov_pick_true rfl (guard_eq rfl hc4) rfl) ?_
              exact WL.nil ⟨Sub.cons' rfl (congrArg Value.bool (Option.some.inj hm)) (Sub.skip rfl (Sub.skip rfl (Sub.skip rfl (Sub.skip rfl (Sub.skip rfl (Sub.skip rfl (Sub.refl _))))))), fun _ s => s⟩
            · skip
              replace hm := ite_f hc4 e3
              refine WL.quiet (Runs.yes rfl rfl rfl hc4) rfl rfl (OV.quiet (ov_fieldAddr Tryd.underlying37 rfl rfl rfl Tryd.sizeOf9 rfl rfl)) ?_
              refine WL.quiet (Runs.yes rfl rfl rfl hc4) rfl rfl (OV.quiet (ov_load_box (i := 0) Tryd.isAgg9 rfl rfl rfl rfl)) ?_
              obtain ⟨b2, e4, hm⟩ := bind_some hm
              refine WL.quiet (Runs.yes rfl rfl rfl hc4) rfl rfl (OV.quiet (ov_index_string Tryd.underlying9 rfl rfl rfl e4)) ?_
              obtain ⟨r3, e5, hm⟩ := bind_some hm
              refine WL.quiet (Runs.yes rfl rfl rfl hc4) rfl rfl (oq_con (r := (.int .i64 r3)) Tryd.call49 rfl rfl (fun w' s => ⟨_, (lexer_class_con (b2.toNat : Int)  w' H s.hold hG r3 e5)⟩)) ?_
              refine WL.quiet (Runs.yes rfl rfl rfl hc4) rfl rfl (OV.quiet (ov_neq rfl rfl rfl)) ?_
              refine wq rfl rfl rfl (ov_pick_false rfl (guard_eq rfl hc4) rfl) ?_
              exact WL.nil ⟨Sub.cons' rfl (congrArg Value.bool (Option.some.inj hm)) (Sub.skip rfl (Sub.skip rfl (Sub.skip rfl (Sub.skip rfl (Sub.skip rfl (Sub.skip rfl (Sub.refl _))))))), fun _ s => s⟩
          refine WL.nil (then_normal ?_)
          refine WP.cond rfl (fun hc5 => ?_) (fun hc5 => ?_)
          · replace hm := ite_t hc5 hm
            refine WP.seq (WP.region ?_)
            refine wq rfl rfl rfl (ov_assign rfl rfl) ?_
            refine WL.nil (then_normal (WP.ret (block_ret (then_ret ?_))))
            obtain rfl := Option.some.inj hm
            refine retQ_ret Tryd.results50 (Res.tmp rfl Res.nil) rfl (fun w' s => ⟨s.below, ?_⟩)
            exact rfl
          · replace hm := ite_f hc5 hm
            refine WP.skip (block_normal (then_normal ?_))
            exact ⟨(Sub.cons rfl (Sub.nil _)), fun w' s => (s.select [] (by decide) rfl), hm⟩
        · replace hm := ite_f hc3 hm
          refine WP.seq (WP.region ?_)
          refine wq rfl rfl rfl (ov_eql rfl rfl rfl) ?_
          refine wq rfl rfl rfl (ov_assign rfl rfl) ?_
          refine WL.nil (then_normal ?_)
          refine WP.cond rfl (fun hc6 => ?_) (fun hc6 => ?_)
          · replace hm := ite_t hc6 hm
            refine WP.block (WP.seq (WP.region ?_))
            refine wq rfl rfl rfl (ov_move rfl rfl) ?_
            refine wq rfl rfl rfl (ov_not rfl rfl) ?_
            refine wq rfl rfl rfl (ov_assign rfl rfl) ?_
            refine WL.nil (then_normal ?_)
            refine WP.cond rfl (fun hc7 => ?_) (fun hc7 => ?_)
            · replace hm := ite_t hc7 hm
              refine WP.seq (WP.region ?_)
              refine wq rfl rfl rfl (ov_assign rfl rfl) ?_
              refine WL.nil (then_normal (WP.ret (block_ret (block_ret (then_ret ?_)))))
              obtain rfl := Option.some.inj hm
              refine retQ_ret Tryd.results50 (Res.tmp rfl Res.nil) rfl (fun w' s => ⟨s.below, ?_⟩)
              exact rfl
            · replace hm := ite_f hc7 hm
              refine WP.seq (WP.region ?_)
              refine wq rfl rfl rfl (ov_fieldAddr Tryd.underlying37 rfl rfl rfl Tryd.sizeOf9 rfl rfl) ?_
              refine wq rfl rfl rfl (ov_load_box (i := 0) Tryd.isAgg9 rfl rfl rfl rfl) ?_
              refine wq rfl rfl rfl (ov_sneq rfl rfl rfl) ?_
              refine wq rfl rfl rfl (ov_assign rfl rfl) ?_
              refine WL.nil (then_normal ?_)
              refine WP.cond rfl (fun hc8 => ?_) (fun hc8 => ?_)
              · replace hm := ite_t hc8 hm
                refine WP.seq (WP.region ?_)
                refine wq rfl rfl rfl (ov_assign rfl rfl) ?_
                refine WL.nil (then_normal (WP.ret (block_ret (block_ret (then_ret ?_)))))
                obtain rfl := Option.some.inj hm
                refine retQ_ret Tryd.results50 (Res.tmp rfl Res.nil) rfl (fun w' s => ⟨s.below, ?_⟩)
                exact rfl
              · replace hm := ite_f hc8 hm
                refine WP.skip (block_normal (block_normal (then_normal ?_)))
                exact ⟨(Sub.cons rfl (Sub.nil _)), fun w' s => (s.select [] (by decide) rfl), hm⟩
          · replace hm := ite_f hc6 hm
            refine WP.seq (WP.region ?_)
            refine wq rfl rfl rfl (ov_assign rfl rfl) ?_
            refine WL.nil (then_normal (WP.ret (block_ret (then_ret ?_))))
            obtain rfl := Option.some.inj hm
            refine retQ_ret Tryd.results50 (Res.tmp rfl Res.nil) rfl (fun w' s => ⟨s.below, ?_⟩)
            exact rfl
  · rintro g' S' ⟨hsub1, hS1, hm⟩
    refine WP.sub hsub1 (WP.weaken hS1 ?_)
    replace hm := hk1.symm.trans hm
    refine WP.seq (WP.region ?_)
    refine wq rfl rfl rfl (ov_assign rfl rfl) ?_
    refine WL.nil (then_normal (WP.ret ?_))
    obtain rfl := Option.some.inj hm
    refine retQ_ret Tryd.results50 (Res.tmp rfl Res.nil) rfl (fun w' s => ⟨s.below, ?_⟩)
    exact rfl

theorem lexer_Join_con (p_l : (List Token)) (ao1 : Option Addr) (cap1 : Nat) (w : World) (H : Heap) (hH : Le H (hp w)) (h1 : SL H encToken ao1 p_l) (hc1 : p_l.length ≤ cap1) (hG : Glob H) (r : ((List UInt8) × Int)) (hm : lexer_Join p_l = some r) :
    Con Tryd.prog 24 [(.slice ao1 p_l.length cap1)] w H (fun v _ => v = (.tuple #[(mkS r.1), (.int .i64 r.2)])) := by
  unfold lexer_Join at hm
  refine con_of hH Tryd.func24 rfl 51 Tryd.ntmps24 rfl ?_
  refine WP.seq (WP.region ?_)
  refine wq rfl rfl rfl (ov_assign rfl rfl) ?_
  refine wq rfl rfl rfl (ov_assign rfl rfl) ?_
  refine WL.nil (then_normal (WP.seq (WP.seq (WP.region ?_))))
  refine wq rfl rfl rfl (ov_move rfl rfl) ?_
  refine wq rfl rfl rfl (ov_len_slice Tryd.underlying30 rfl rfl) ?_
  refine wq rfl rfl rfl (ov_gtr rfl rfl rfl) ?_
  refine WL.nil (then_normal ?_)
  refine WP.cond rfl (fun hc2 => ?_) (fun hc2 => ?_)
  · replace hm := ite_t hc2 hm
    refine WP.seq (WP.region ?_)
    refine wq rfl rfl rfl (ov_assign rfl rfl) ?_
    refine wq rfl rfl rfl (ov_assign rfl rfl) ?_
    refine WL.nil (then_normal (WP.ret (then_ret ?_)))
    obtain rfl := Option.some.inj hm
    refine retQ_ret Tryd.results24 (Res.tmp rfl (Res.tmp rfl Res.nil)) rfl (fun w' s => ⟨s.below, ?_⟩)
    exact rfl
  · replace hm := ite_f hc2 hm
    refine WP.skip (then_normal (WP.seq (WP.region ?_)))
    refine WL.step (Runs.free rfl) rfl rfl (os_alloc (cs := [(.pointer none), (.slice none 0 0)]) Tryd.zeroValue86 rfl rfl (fun b1 => ?_))
    refine WL.nil (then_normal (WP.seq (WP.region ?_)))
    refine wq rfl rfl rfl (ov_assign rfl rfl) ?_
    refine WL.nil (then_normal ?_)
    obtain ⟨k1, hk1, hm⟩ := joinK_some hm
    refine WP.seq_join (fun g' S' => ∃ (v3 : Value) (l5 : (List UInt8)) (ao6 : Option Addr) (cap6 : Nat) (xs3 : List Value), (v3 = .pointer none ∨ v3 = pB b1 0) ∧ RL H encByte l5 xs3 ∧ Sub [(4, (pB b1 0)), (1000000007, (.bool false))] g' ∧ (∀ w', S' w' → St w H [.row 5 (encByte).size l5.length (.slice ao6 l5.length cap6) xs3, .blk b1 86 [v3, (.slice ao6 l5.length cap6)]] H w') ∧ k1 l5 = some r) ?_ ?_
    · skip
      refine WP.seq (WP.region ?_)
      refine wq rfl rfl rfl (ov_move rfl rfl) ?_
      refine wq rfl rfl rfl (ov_len_slice Tryd.underlying30 rfl rfl) ?_
      refine wq rfl rfl rfl (ov_move rfl rfl) ?_
      refine WL.nil (then_normal (WP.block ?_))
      have rl1 := RL.nil (α := UInt8) H encByte
      refine WP.weaken (fun _ s => s.nilrow 5 (encByte).size) ?_
      refine WP.loop (fun m1 g' S' => ∃ (c1 : Bool) (i1 : Int) (v1 : Value) (l1 : (List UInt8)) (ao2 : Option Addr) (cap2 : Nat) (xs1 : List Value), (v1 = .pointer none ∨ v1 = pB b1 0) ∧ RL H encByte l1 xs1 ∧ Sub [(0, (.slice ao1 p_l.length cap1)), (4, (pB b1 0)), (5, (.bool c1)), (13, (.slice ao1 p_l.length cap1)), (14, (.int .i64 (p_l.length : Int))), (15, (.int .i64 i1)), (1000000007, (.bool false))] g' ∧ (∀ w', S' w' → St w H [.row 5 (encByte).size l1.length (.slice ao2 l1.length cap2) xs1, .blk b1 86 [v1, (.slice ao2 l1.length cap2)]] H w') ∧ lexer_Join_loop1 p_l k1 m1 c1 i1 l1 = some r) ((Int.toNat ((p_l.length : Int) - 0) + 1)) ⟨false, 0, (.pointer none), ([] : List UInt8), none, 0, [], (.inl rfl), rl1, (Sub.cons rfl (Sub.cons rfl (Sub.cons rfl (Sub.cons rfl (Sub.cons rfl (Sub.cons rfl (Sub.cons rfl (Sub.nil _)))))))), fun w' s => s, hm⟩ ?_ ?_
      · rintro g' S' ⟨_, _, _, _, _, _, _, _, _, _, _, hm⟩
        exact none_some hm
      · rintro m1 g' S' ⟨c1, i1, v1, l1, ao2, cap2, xs1, hv1, rl2, hsub1, hS1, hm⟩
        refine WP.sub hsub1 (WP.weaken hS1 ?_)
        rw [lexer_Join_loop1] at hm
        refine WP.seq (WP.region ?_)
        refine wq rfl rfl rfl (ov_lss rfl rfl rfl) ?_
        refine WL.nil (then_normal (WP.seq ?_))
        refine WP.cond rfl (fun hc3 => ?_) (fun hc3 => ?_)
        · replace hm := ite_t hc3 hm
          refine WP.skip (then_normal (WP.seq (WP.block (WP.seq (WP.region ?_)))))
          refine wq rfl rfl rfl (ov_move rfl rfl) ?_
          obtain ⟨x1, e1, hm⟩ := bind_some hm
          obtain ⟨h2, h3, h4, cs1, h5, h6⟩ := h1.get e1 (by decide)
          obtain rfl : cs1 = [(.int .i64 x1.kind), (mkS x1.text), (.int .i64 x1.at_)] := h5
          refine wq rfl rfl rfl (ov_indexAddr Tryd.underlying30 Tryd.sizeOf37 rfl rfl rfl h2 h3 h4) ?_
          refine wq rfl rfl rfl (ov_load_elems (vs := [(.int .i64 x1.kind), (mkS x1.text), (.int .i64 x1.at_)]) Tryd.isAgg37 Tryd.sizeOf37 rfl rfl rfl h6 h4) ?_
          refine WL.step (Runs.free rfl) rfl rfl (os_alloc (cs := [(.int .i64 0), (mkS []), (.int .i64 0)]) Tryd.zeroValue37 rfl rfl (fun b2 => ?_))
          refine wq rfl rfl rfl (ov_assign rfl rfl) ?_
          refine WL.step0 (Runs.free rfl) rfl (os_store (i := 0) (vs := [(.int .i64 x1.kind), (mkS x1.text), (.int .i64 x1.at_)]) (cs' := [(.int .i64 x1.kind), (mkS x1.text), (.int .i64 x1.at_)]) Tryd.sizeOf37 rfl rfl rfl rfl rfl rfl rfl rfl rfl ?_)
          refine WL.nil (then_normal (WP.seq (WP.seq (WP.region ?_))))
          refine wq rfl rfl rfl (ov_load_whole (i := 0) Tryd.isAgg37 Tryd.sizeOf37 rfl rfl rfl rfl) ?_
          refine wq rfl rfl rfl (ov_move rfl rfl) ?_
          refine wq rfl rfl rfl (ov_move rfl rfl) ?_
          refine wq rfl rfl rfl (ov_len_slice Tryd.underlying30 rfl rfl) ?_
          refine wq rfl rfl rfl (ov_sub rfl rfl rfl) ?_
          refine wq rfl rfl rfl (ov_eql rfl rfl rfl) ?_
          obtain ⟨r1, e2, hm⟩ := bind_some hm
          refine WL.quiet (Runs.free rfl) rfl rfl (oq_con (r := (.int .i64 r1)) Tryd.call50 rfl rfl (fun w' s => ⟨_, (lexer_check_con x1 (i1 == (IntKind.wrap .i64 ((p_l.length : Int) - 1)))  w' H s.hold hG r1 e2)⟩)) ?_
          refine wq rfl rfl rfl (ov_assign rfl rfl) ?_
          refine WL.nil (then_normal (WP.seq (WP.region ?_)))
          refine wq rfl rfl rfl (ov_move rfl rfl) ?_
          refine wq rfl rfl rfl (ov_neq rfl rfl rfl) ?_
          refine WL.nil (then_normal ?_)
          refine WP.cond rfl (fun hc4 => ?_) (fun hc4 => ?_)
          · replace hm := ite_t hc4 hm
            refine WP.seq (WP.region ?_)
            refine wq rfl rfl rfl (ov_move rfl rfl) ?_
            refine wq rfl rfl rfl (ov_assign rfl rfl) ?_
            refine wq rfl rfl rfl (ov_assign rfl rfl) ?_
            refine WL.nil (then_normal (WP.ret (then_ret (block_ret (then_ret (then_ret (block_ret (then_ret ?_))))))))
            obtain rfl := Option.some.inj hm
            refine retQ_ret Tryd.results24 (Res.tmp rfl (Res.tmp rfl Res.nil)) rfl (fun w' s => ⟨s.below, ?_⟩)
            exact rfl
          · replace hm := ite_f hc4 hm
            refine WP.skip (then_normal (WP.seq (WP.region ?_)))
            refine wq rfl rfl rfl (ov_fieldAddr Tryd.underlying37 rfl rfl rfl Tryd.sizeOf3 rfl rfl) ?_
            refine wq rfl rfl rfl (ov_load_box (i := 0) Tryd.isAgg3 rfl rfl rfl rfl) ?_
            refine wq rfl rfl rfl (ov_eql rfl rfl rfl) ?_
            refine wq rfl rfl rfl (ov_move rfl rfl) ?_
            refine WL.cut_bool 4 37 (x := ((x1.kind == 0) || (x1.kind == 1))) ?_ ?_
            · rcases Bool.eq_false_or_eq_true (x1.kind == 0) with hc5 | hc5
              · skip
                refine WL.idle (Idle.no rfl rfl rfl hc5) rfl rfl ?_
                refine WL.idle (Idle.no rfl rfl rfl hc5) rfl rfl ?_
                refine WL.idle (Idle.no rfl rfl rfl hc5) rfl rfl ?_
                refine wq rfl rfl rfl (ov_pick_true rfl (guard_eq rfl hc5) rfl) ?_
                exact WL.nil ⟨Sub.cons' rfl (congrArg Value.bool (orT hc5)) (Sub.skip rfl (Sub.skip rfl (Sub.skip rfl (Sub.skip rfl (Sub.refl _))))), fun _ s => s⟩
              · skip
                refine WL.quiet (Runs.yes rfl rfl rfl hc5) rfl rfl (OV.quiet (ov_fieldAddr Tryd.underlying37 rfl rfl rfl Tryd.sizeOf3 rfl rfl)) ?_
                refine WL.quiet (Runs.yes rfl rfl rfl hc5) rfl rfl (OV.quiet (ov_load_box (i := 0) Tryd.isAgg3 rfl rfl rfl rfl)) ?_
                refine WL.quiet (Runs.yes rfl rfl rfl hc5) rfl rfl (OV.quiet (ov_eql rfl rfl rfl)) ?_
                refine wq rfl rfl rfl (ov_pick_false rfl (guard_eq rfl hc5) rfl) ?_
                exact WL.nil ⟨Sub.cons' rfl (congrArg Value.bool (orF hc5)) (Sub.skip rfl (Sub.skip rfl (Sub.skip rfl (Sub.skip rfl (Sub.refl _))))), fun _ s => s⟩
            refine wq rfl rfl rfl (ov_assign rfl rfl) ?_
            refine WL.nil (then_normal ?_)
            obtain ⟨k2, hk2, hm⟩ := joinK_some hm
            refine WP.seq_join (fun g' S' => ∃ (v2 : Value) (l3 : (List UInt8)) (ao4 : Option Addr) (cap4 : Nat) (xs2 : List Value), (v2 = .pointer none ∨ v2 = pB b1 0) ∧ RL H encByte l3 xs2 ∧ Sub [(0, (.slice ao1 p_l.length cap1)), (4, (pB b1 0)), (7, (pB b2 0)), (9, (.bool ((x1.kind == 0) || (x1.kind == 1)))), (13, (.slice ao1 p_l.length cap1)), (14, (.int .i64 (p_l.length : Int))), (15, (.int .i64 i1)), (1000000007, (.bool false))] g' ∧ (∀ w', S' w' → St w H [.blk b2 37 [(.int .i64 x1.kind), (mkS x1.text), (.int .i64 x1.at_)], .row 5 (encByte).size l3.length (.slice ao4 l3.length cap4) xs2, .blk b1 86 [v2, (.slice ao4 l3.length cap4)]] H w') ∧ k2 l3 = some r) ?_ ?_
            · skip
              refine WP.seq (WP.region ?_)
              refine wq rfl rfl rfl (ov_move rfl rfl) ?_
              refine wq rfl rfl rfl (ov_move rfl rfl) ?_
              refine WL.cut_bool 2 41 (x := (c1 && ((x1.kind == 0) || (x1.kind == 1)))) ?_ ?_
              · rcases Bool.eq_false_or_eq_true c1 with hc6 | hc6
                · skip
                  refine WL.quiet (Runs.yes rfl rfl rfl hc6) rfl rfl (OV.quiet (ov_move rfl rfl)) ?_
                  refine wq rfl rfl rfl (ov_pick_true rfl (guard_eq rfl hc6) rfl) ?_
                  exact WL.nil ⟨Sub.cons' rfl (congrArg Value.bool (andT hc6)) (Sub.skip rfl (Sub.skip rfl (Sub.refl _))), fun _ s => s⟩
                · skip
                  refine WL.idle (Idle.no rfl rfl rfl hc6) rfl rfl ?_
                  refine wq rfl rfl rfl (ov_pick_false rfl (guard_eq rfl hc6) rfl) ?_
                  exact WL.nil ⟨Sub.cons' rfl (congrArg Value.bool (andF hc6)) (Sub.skip rfl (Sub.skip rfl (Sub.refl _))), fun _ s => s⟩
              refine WL.nil (then_normal ?_)
              refine WP.cond rfl (fun hc7 => ?_) (fun hc7 => ?_)
              · replace hm := ite_t hc7 hm
                refine WP.region ?_
                refine WL.step (Runs.free rfl) rfl rfl (os_inline (cap := []) (vs := [(pB b1 0), (.int .u8 32)]) Tryd.call51 rfl rfl rfl Tryd.func51 rfl 17 Tryd.ntmps51 rfl (fun w' s => ?_))
                refine WP.seq (WP.region ?_)
                refine wq rfl rfl rfl (ov_assign rfl rfl) ?_
                refine WL.nil (then_normal (WP.seq (WP.region ?_)))
                refine wq rfl rfl rfl (ov_move rfl rfl) ?_
                refine WL.step (Runs.free rfl) rfl rfl (os_copyCheck (i := 2) rfl rfl rfl hv1 ?_)
                refine WL.nil (then_normal (WP.seq (WP.region ?_)))
                refine wq rfl rfl rfl (ov_move rfl rfl) ?_
                refine wq rfl rfl rfl (ov_move rfl rfl) ?_
                refine wq rfl rfl rfl (ov_nilCheckB rfl rfl) ?_
                refine wq rfl rfl rfl (ov_fieldAddr Tryd.underlying86 rfl rfl rfl Tryd.sizeOf84 rfl rfl) ?_
                refine wq rfl rfl rfl (ov_load_box (i := 2) Tryd.isAgg84 rfl rfl rfl rfl) ?_
                refine wq rfl rfl rfl (ov_move rfl rfl) ?_
                have rl3 : RL H encByte ([32] : List UInt8) [(.int .u8 32)] := RL.one rfl
                refine WL.step (Runs.free rfl) rfl rfl (os_buildSlice (cs := [(.int .u8 32)]) (E := 5) (sz := 1) rfl rfl (fun _ => by kernel_rfl) rfl (by decide) (fun b3 => ?_))
                obtain ⟨l2, e3, hm⟩ := bind_some hm
                refine WL.step (Runs.free rfl) rfl rfl (os_app (i := 2) (j := 0) (En := encByte) (xs := xs1) (ys := [(.int .u8 32)]) Tryd.underlying84 (by kernel_rfl : (Tryd.prog.info? 5).map (fun i => (i.zero, i.size, i.bytes)) = some (some (.int .u8 0), (encByte).size, 1)) rfl (by decide) rfl rfl rfl rfl rfl rfl rl2 rl3 e3 (fun ao3 cap3 rl4 => ?_))
                refine wq rfl rfl rfl (ov_nilCheckB rfl rfl) ?_
                refine wq rfl rfl rfl (ov_fieldAddr Tryd.underlying86 rfl rfl rfl Tryd.sizeOf84 rfl rfl) ?_
                refine WL.step0 (Runs.free rfl) rfl (os_store (i := 3) (vs := [(.slice ao3 (l1 ++ ([32] : List UInt8)).length cap3)]) (cs' := [(pB b1 0), (.slice ao3 (l1 ++ ([32] : List UInt8)).length cap3)]) Tryd.sizeOf84 rfl rfl rfl rfl rfl rfl rfl rfl rfl ?_)
                refine WL.nil (then_normal (WP.seq (WP.region ?_)))
                refine wq rfl rfl rfl (ov_assign rfl rfl) ?_
                refine WL.nil (then_normal (WP.ret ?_))
                refine retQ_ret (v := .nilIface) Tryd.results51 (Res.tmp rfl Res.nil) rfl (fun w' s => ⟨_, ?_, s⟩)
                refine WL.nil (then_normal ?_)
                exact ⟨(pB b1 0), (l1 ++ ([32] : List UInt8)), ao3, cap3, (xs1 ++ [(.int .u8 32)]), (.inr rfl), rl4, (Sub.cons rfl (Sub.cons rfl (Sub.cons rfl (Sub.cons rfl (Sub.cons rfl (Sub.cons rfl (Sub.cons rfl (Sub.cons rfl (Sub.nil _))))))))), fun w' s => (s.select [1, 2, 3] (by decide) rfl), hm⟩
              · replace hm := ite_f hc7 hm
                refine WP.skip (then_normal ?_)
                exact ⟨v1, l1, ao2, cap2, xs1, hv1, rl2, (Sub.cons rfl (Sub.cons rfl (Sub.cons rfl (Sub.cons rfl (Sub.cons rfl (Sub.cons rfl (Sub.cons rfl (Sub.cons rfl (Sub.nil _))))))))), fun w' s => s, hm⟩
            · rintro g' S' ⟨v2, l3, ao4, cap4, xs2, hv2, rl5, hsub2, hS2, hm⟩
              refine WP.sub hsub2 (WP.weaken hS2 ?_)
              replace hm := (congrFun hk2 l3).symm.trans hm
              refine WP.seq (WP.region ?_)
              refine wq rfl rfl rfl (ov_fieldAddr Tryd.underlying37 rfl rfl rfl Tryd.sizeOf9 rfl rfl) ?_
              refine wq rfl rfl rfl (ov_load_box (i := 0) Tryd.isAgg9 rfl rfl rfl rfl) ?_
              refine WL.step (Runs.free rfl) rfl rfl (os_inline (cap := []) (vs := [(pB b1 0), (mkS x1.text)]) Tryd.call52 rfl rfl rfl Tryd.func52 rfl 19 Tryd.ntmps52 rfl (fun w' s => ?_))
              refine WP.seq (WP.region ?_)
              refine wq rfl rfl rfl (ov_assign rfl rfl) ?_
              refine wq rfl rfl rfl (ov_assign rfl rfl) ?_
              refine WL.nil (then_normal (WP.seq (WP.region ?_)))
              refine wq rfl rfl rfl (ov_move rfl rfl) ?_
              refine WL.step (Runs.free rfl) rfl rfl (os_copyCheck (i := 2) rfl rfl rfl hv2 ?_)
              refine WL.nil (then_normal (WP.seq (WP.region ?_)))
              refine wq rfl rfl rfl (ov_move rfl rfl) ?_
              refine wq rfl rfl rfl (ov_move rfl rfl) ?_
              refine wq rfl rfl rfl (ov_nilCheckB rfl rfl) ?_
              refine wq rfl rfl rfl (ov_fieldAddr Tryd.underlying86 rfl rfl rfl Tryd.sizeOf84 rfl rfl) ?_
              refine wq rfl rfl rfl (ov_load_box (i := 2) Tryd.isAgg84 rfl rfl rfl rfl) ?_
              refine wq rfl rfl rfl (ov_move rfl rfl) ?_
              obtain ⟨l4, e4, hm⟩ := bind_some hm
              refine WL.step (Runs.free rfl) rfl rfl (os_app_str (i := 1) (xs := xs2) Tryd.underlying84 Tryd.underlying9 (by kernel_rfl : (Tryd.prog.info? 5).map (fun i => (i.zero, i.size, i.bytes)) = some (some (.int .u8 0), 1, 1)) rfl rfl rfl rfl rl5 e4 (fun ao5 cap5 ys1 rl6 => ?_))
              refine wq rfl rfl rfl (ov_nilCheckB rfl rfl) ?_
              refine wq rfl rfl rfl (ov_fieldAddr Tryd.underlying86 rfl rfl rfl Tryd.sizeOf84 rfl rfl) ?_
              refine WL.step0 (Runs.free rfl) rfl (os_store (i := 2) (vs := [(.slice ao5 (l3 ++ x1.text).length cap5)]) (cs' := [(pB b1 0), (.slice ao5 (l3 ++ x1.text).length cap5)]) Tryd.sizeOf84 rfl rfl rfl rfl rfl rfl rfl rfl rfl ?_)
              refine WL.nil (then_normal (WP.seq (WP.region ?_)))
              refine wq rfl rfl rfl (ov_move rfl rfl) ?_
              refine wq rfl rfl rfl (ov_len_string Tryd.underlying9 rfl rfl) ?_
              refine wq rfl rfl rfl (ov_assign rfl rfl) ?_
              refine wq rfl rfl rfl (ov_assign rfl rfl) ?_
              refine WL.nil (then_normal (WP.ret ?_))
              refine retQ_ret (v := (.tuple #[(.int .i64 (x1.text.length : Int)), .nilIface])) Tryd.results52 (Res.tmp rfl (Res.tmp rfl Res.nil)) rfl (fun w' s => ⟨_, ?_, s⟩)
              refine WL.nil (then_normal (WP.region ?_))
              refine wq rfl rfl rfl (ov_move rfl rfl) ?_
              refine wq rfl rfl rfl (ov_assign rfl rfl) ?_
              refine WL.nil (block_normal (then_normal (WP.region ?_)))
              refine wq rfl rfl rfl (ov_add rfl rfl rfl) ?_
              refine wq rfl rfl rfl (ov_move rfl rfl) ?_
              refine WL.nil (then_normal ?_)
              exact ⟨((x1.kind == 0) || (x1.kind == 1)), (IntKind.wrap .i64 (i1 + 1)), (pB b1 0), (l3 ++ x1.text), ao5, cap5, (xs2 ++ ys1), (.inr rfl), rl6, (Sub.cons rfl (Sub.cons rfl (Sub.cons rfl (Sub.cons rfl (Sub.cons rfl (Sub.cons rfl (Sub.cons rfl (Sub.nil _)))))))), fun w' s => (s.select [1, 2] (by decide) rfl), hm⟩
        · replace hm := ite_f hc3 hm
          refine WP.exit (then_exit (then_exit (block_here (then_normal ?_))))
          exact ⟨v1, l1, ao2, cap2, xs1, hv1, rl2, (Sub.cons rfl (Sub.cons rfl (Sub.nil _))), fun w' s => s, hm⟩
    · rintro g' S' ⟨v3, l5, ao6, cap6, xs3, hv3, rl7, hsub3, hS3, hm⟩
      refine WP.sub hsub3 (WP.weaken hS3 ?_)
      replace hm := (congrFun hk1 l5).symm.trans hm
      refine WP.seq (WP.seq (WP.region ?_))
      refine WL.step (Runs.free rfl) rfl rfl (os_inline (cap := []) (vs := [(pB b1 0)]) Tryd.call53 rfl rfl rfl Tryd.func53 rfl 8 Tryd.ntmps53 rfl (fun w' s => ?_))
      refine WP.seq (WP.region ?_)
      refine wq rfl rfl rfl (ov_assign rfl rfl) ?_
      refine WL.nil (then_normal (WP.seq (WP.region ?_)))
      refine wq rfl rfl rfl (ov_move rfl rfl) ?_
      refine wq rfl rfl rfl (ov_nilCheckB rfl rfl) ?_
      refine wq rfl rfl rfl (ov_fieldAddr Tryd.underlying86 rfl rfl rfl Tryd.sizeOf84 rfl rfl) ?_
      refine wq rfl rfl rfl (ov_load_box (i := 1) Tryd.isAgg84 rfl rfl rfl rfl) ?_
      refine wq rfl rfl rfl (ov_len_slice Tryd.underlying84 rfl rfl) ?_
      refine wq rfl rfl rfl (ov_assign rfl rfl) ?_
      refine WL.nil (then_normal (WP.ret ?_))
      refine retQ_ret (v := (.int .i64 (l5.length : Int))) Tryd.results53 (Res.tmp rfl Res.nil) rfl (fun w' s => ⟨_, ?_, s⟩)
      refine wq rfl rfl rfl (ov_gtr rfl rfl rfl) ?_
      refine WL.nil (then_normal ?_)
      refine WP.cond rfl (fun hc8 => ?_) (fun hc8 => ?_)
      · replace hm := ite_t hc8 hm
        refine WP.seq (WP.region ?_)
        refine wq rfl rfl rfl (ov_assign rfl rfl) ?_
        refine wq rfl rfl rfl (ov_assign rfl rfl) ?_
        refine WL.nil (then_normal (WP.ret (then_ret ?_)))
        obtain rfl := Option.some.inj hm
        refine retQ_ret Tryd.results24 (Res.tmp rfl (Res.tmp rfl Res.nil)) rfl (fun w' s => ⟨s.below, ?_⟩)
        exact rfl
      · replace hm := ite_f hc8 hm
        refine WP.skip (then_normal (WP.seq (WP.region ?_)))
        refine WL.step (Runs.free rfl) rfl rfl (os_bstring (i := 1) (j := 0) rfl rfl rfl rfl hv3 rl7 (fun H1 => ?_))
        refine wq rfl rfl rfl (ov_assign rfl rfl) ?_
        refine wq rfl rfl rfl (ov_assign rfl rfl) ?_
        refine WL.nil (then_normal (WP.ret ?_))
        obtain rfl := Option.some.inj hm
        refine retQ_ret Tryd.results24 (Res.tmp rfl (Res.tmp rfl Res.nil)) rfl (fun w' s => ⟨s.below, ?_⟩)
        exact rfl

end Go.Proofs.YtmfphbdafgmplaaDoor.W
