/- The walks. Written by our own program gen.py; Lean checks it. -/
import Derived.Test.YtpigfknmlmeihaaDoorPlain
import Derived.Test.YtpigfknmlmeihaaDoorEqs
import Derived.Test.YtpigfknmlmeihaaDoorProg
import Derived.Test.YtpigfknmlmeihaaDoorExt
import Derived.Test.YtpigfknmlmeihaaDoorClone
import Derived.Test.YtpigfknmlmeihaaDoorInsert
import Derived.Test.YtpigfknmlmeihaaDoorBuild
import Derived.Test.YtpigfknmlmeihaaDoorWalk0
set_option linter.unusedVariables false
set_option maxRecDepth 100000
set_option maxHeartbeats 4000000
namespace Go.Proofs.YtpigfknmlmeihaaDoor.W
open Go Go.RowKit
theorem journal_Right_con (p_x : Entry) (w : World) (H : Heap) (hH : Le H (hp w)) (hG : Glob H) (r : Int) (hm : journal_Right p_x = some r) :
    Con Tryd.prog 15 [(.agg #[(.int .i64 p_x.kind), (mkS p_x.name), (.int .i64 p_x.count), (.int .i64 p_x.strokes)])] w H (fun v _ => v = (.int .i64 r)) := by
  unfold journal_Right at hm
  refine con_of hH Tryd.func15 rfl 57 Tryd.ntmps15 rfl ?_
  refine WP.seq ?_
  refine WP.region ?_
  refine WL.step (Runs.free rfl) rfl rfl (os_box (cs := [(.int .i64 p_x.kind), (mkS p_x.name), (.int .i64 p_x.count), (.int .i64 p_x.strokes)]) rfl rfl rfl (fun b1 => ?_))
  refine WL.quiet (Runs.free rfl) rfl rfl (OV.quiet (ov_assign rfl rfl)) ?_
  refine WL.nil ?_
  refine then_normal ?_
  refine WP.seq ?_
  refine WP.seq ?_
  refine WP.region ?_
  refine WL.quiet (Runs.free rfl) rfl rfl (OV.quiet (ov_fieldAddr Tryd.underlying26 rfl rfl rfl Tryd.sizeOf3 rfl rfl)) ?_
  refine WL.quiet (Runs.free rfl) rfl rfl (OV.quiet (ov_load_box (i := 0) Tryd.isAgg3 rfl rfl rfl rfl)) ?_
  obtain ⟨r1, e1, hm⟩ := bind_some hm
  refine WL.quiet (Runs.free rfl) rfl rfl (oq_con (r := (.bool r1)) Tryd.call38 rfl rfl (fun w' s => ⟨_, (journal_in_con p_x.kind 0 5  w' H s.hold hG r1 e1)⟩)) ?_
  refine WL.quiet (Runs.free rfl) rfl rfl (OV.quiet (ov_not rfl rfl)) ?_
  refine WL.nil ?_
  refine then_normal ?_
  refine WP.cond rfl (fun hc1 => ?_) (fun hc1 => ?_)
  · replace hm := ite_t hc1 hm
    refine WP.seq ?_
    refine WP.region ?_
    refine WL.quiet (Runs.free rfl) rfl rfl (OV.quiet (ov_assign rfl rfl)) ?_
    refine WL.nil ?_
    refine then_normal ?_
    refine WP.ret ?_
    refine then_ret ?_
    obtain rfl := Option.some.inj hm
    refine retQ_ret Tryd.results15 (Res.tmp rfl Res.nil) rfl (fun w' s => ⟨s.below, ?_⟩)
    exact rfl
  · replace hm := ite_f hc1 hm
    refine WP.skip ?_
    refine then_normal ?_
    refine WP.seq ?_
    refine WP.seq ?_
    refine WP.region ?_
    refine WL.quiet (Runs.free rfl) rfl rfl (OV.quiet (ov_fieldAddr Tryd.underlying26 rfl rfl rfl Tryd.sizeOf9 rfl rfl)) ?_
    refine WL.quiet (Runs.free rfl) rfl rfl (OV.quiet (ov_load_box (i := 0) Tryd.isAgg9 rfl rfl rfl rfl)) ?_
    obtain ⟨r2, e2, hm⟩ := bind_some hm
    refine WL.quiet (Runs.free rfl) rfl rfl (oq_con (r := (.int .i64 r2)) Tryd.call39 rfl rfl (fun w' s => ⟨_, (lexer_Word_con p_x.name  w' H s.hold hG r2 e2)⟩)) ?_
    refine WL.quiet (Runs.free rfl) rfl rfl (OV.quiet (ov_assign rfl rfl)) ?_
    refine WL.nil ?_
    refine then_normal ?_
    refine WP.seq ?_
    refine WP.region ?_
    refine WL.quiet (Runs.free rfl) rfl rfl (OV.quiet (ov_move rfl rfl)) ?_
    refine WL.quiet (Runs.free rfl) rfl rfl (OV.quiet (ov_neq rfl rfl rfl)) ?_
    refine WL.nil ?_
    refine then_normal ?_
    refine WP.cond rfl (fun hc2 => ?_) (fun hc2 => ?_)
    · replace hm := ite_t hc2 hm
      refine WP.seq ?_
      refine WP.region ?_
      refine WL.quiet (Runs.free rfl) rfl rfl (OV.quiet (ov_move rfl rfl)) ?_
      refine WL.quiet (Runs.free rfl) rfl rfl (OV.quiet (ov_assign rfl rfl)) ?_
      refine WL.nil ?_
      refine then_normal ?_
      refine WP.ret ?_
      refine then_ret ?_
      obtain rfl := Option.some.inj hm
      refine retQ_ret Tryd.results15 (Res.tmp rfl Res.nil) rfl (fun w' s => ⟨s.below, ?_⟩)
      exact rfl
    · replace hm := ite_f hc2 hm
      refine WP.skip ?_
      refine then_normal ?_
      obtain ⟨k1, hk1, hm⟩ := joinK_some hm
      refine WP.seq_join (fun g' S' => ∃ (b11 : Nat) (s1 : (List UInt8)) (c1 : Bool) (c2 : Bool) (v1 : Value), Sub [(1, (pB b1 0)), (4, (pB b11 0))] g' ∧ (∀ w', S' w' → St w H [.blk b11 87 [(mkS s1), (.bool c1), (.bool c2), v1], .blk b1 26 [(.int .i64 p_x.kind), (mkS p_x.name), (.int .i64 p_x.count), (.int .i64 p_x.strokes)]] H w') ∧ k1 s1 c1 c2 = some r) ?_ ?_
      · skip
        refine WP.region_any (S₀ := St w H [.blk b1 26 [(.int .i64 p_x.kind), (mkS p_x.name), (.int .i64 p_x.count), (.int .i64 p_x.strokes)]] H) 6 rfl (by kernel_rfl) (fun w' s => s) (fun _ s => s.drew) ?_
        refine AL.take (i := 1) rfl (by kernel_rfl) (by kernel_rfl) (by kernel_rfl) (Runs.free rfl) rfl rfl (ov_fieldAddr Tryd.underlying26 rfl rfl rfl Tryd.sizeOf3 rfl rfl) ?_
        refine AL.take (i := 2) rfl (by kernel_rfl) (by kernel_rfl) (by kernel_rfl) (Runs.free rfl) rfl rfl (ov_load_box (i := 0) Tryd.isAgg3 rfl rfl rfl rfl) ?_
        refine AL.any (rs := [0, 4]) (by kernel_rfl) (by decide) ?_
        refine ALs.cons (i := 0) rfl (Runs.free rfl) rfl rfl ?_ ?_
        · skip
          refine os_inline (cap := []) (vs := []) Tryd.call43 rfl rfl rfl Tryd.func43 rfl 8 Tryd.ntmps43 rfl (fun w' s => ?_)
          refine WP.seq ?_
          refine WP.region ?_
          refine WL.step (Runs.free rfl) rfl rfl (os_alloc (cs := [(mkS []), (.bool false), (.bool false), .nilFunc, (mkS []), (.bool false), (.bool false), .nilFunc, (mkS []), (.bool false), (.bool false), .nilFunc, (mkS []), (.bool false), (.bool false), .nilFunc, (mkS []), (.bool false), (.bool false), .nilFunc, (mkS []), (.bool false), (.bool false), .nilFunc]) Tryd.zeroValue88 rfl rfl (fun b2 => ?_))
          refine WL.nil ?_
          refine then_normal ?_
          refine WP.seq ?_
          refine WP.region ?_
          refine WL.quiet (Runs.free rfl) rfl rfl (OV.quiet (ov_build (r := (.agg #[(mkS [112, 97, 114, 116]), (.bool true), (.bool false), (.func (.func 61) #[] #[])])) rfl rfl (fun _ => by kernel_rfl))) ?_
          refine WL.quiet (Runs.free rfl) rfl rfl (OV.quiet (ov_build (r := (.agg #[(mkS [99, 121, 99, 108, 101, 115]), (.bool true), (.bool true), (.func (.func 62) #[] #[])])) rfl rfl (fun _ => by kernel_rfl))) ?_
          refine WL.quiet (Runs.free rfl) rfl rfl (OV.quiet (ov_build (r := (.agg #[(mkS [102, 97, 117, 108, 116]), (.bool false), (.bool false), (.func (.func 63) #[] #[])])) rfl rfl (fun _ => by kernel_rfl))) ?_
          refine WL.quiet (Runs.free rfl) rfl rfl (OV.quiet (ov_build (r := (.agg #[(mkS [114, 101, 112, 97, 105, 114]), (.bool false), (.bool false), (.func (.func 64) #[] #[])])) rfl rfl (fun _ => by kernel_rfl))) ?_
          refine WL.quiet (Runs.free rfl) rfl rfl (OV.quiet (ov_build (r := (.agg #[(mkS [114, 101, 112, 108, 97, 99, 101]), (.bool true), (.bool false), (.func (.func 65) #[] #[])])) rfl rfl (fun _ => by kernel_rfl))) ?_
          refine WL.quiet (Runs.free rfl) rfl rfl (OV.quiet (ov_build (r := (.agg #[(mkS [114, 101, 109, 111, 118, 101]), (.bool false), (.bool false), (.func (.func 66) #[] #[])])) rfl rfl (fun _ => by kernel_rfl))) ?_
          refine WL.quiet (Runs.free rfl) rfl rfl (OV.quiet (ov_build (r := (.agg #[(mkS [112, 97, 114, 116]), (.bool true), (.bool false), (.func (.func 61) #[] #[]), (mkS [99, 121, 99, 108, 101, 115]), (.bool true), (.bool true), (.func (.func 62) #[] #[]), (mkS [102, 97, 117, 108, 116]), (.bool false), (.bool false), (.func (.func 63) #[] #[]), (mkS [114, 101, 112, 97, 105, 114]), (.bool false), (.bool false), (.func (.func 64) #[] #[]), (mkS [114, 101, 112, 108, 97, 99, 101]), (.bool true), (.bool false), (.func (.func 65) #[] #[]), (mkS [114, 101, 109, 111, 118, 101]), (.bool false), (.bool false), (.func (.func 66) #[] #[])])) rfl rfl (fun _ => by kernel_rfl))) ?_
          refine WL.step0 (Runs.free rfl) rfl (os_store (i := 0) (vs := [(mkS [112, 97, 114, 116]), (.bool true), (.bool false), (.func (.func 61) #[] #[]), (mkS [99, 121, 99, 108, 101, 115]), (.bool true), (.bool true), (.func (.func 62) #[] #[]), (mkS [102, 97, 117, 108, 116]), (.bool false), (.bool false), (.func (.func 63) #[] #[]), (mkS [114, 101, 112, 97, 105, 114]), (.bool false), (.bool false), (.func (.func 64) #[] #[]), (mkS [114, 101, 112, 108, 97, 99, 101]), (.bool true), (.bool false), (.func (.func 65) #[] #[]), (mkS [114, 101, 109, 111, 118, 101]), (.bool false), (.bool false), (.func (.func 66) #[] #[])]) (cs' := [(mkS [112, 97, 114, 116]), (.bool true), (.bool false), (.func (.func 61) #[] #[]), (mkS [99, 121, 99, 108, 101, 115]), (.bool true), (.bool true), (.func (.func 62) #[] #[]), (mkS [102, 97, 117, 108, 116]), (.bool false), (.bool false), (.func (.func 63) #[] #[]), (mkS [114, 101, 112, 97, 105, 114]), (.bool false), (.bool false), (.func (.func 64) #[] #[]), (mkS [114, 101, 112, 108, 97, 99, 101]), (.bool true), (.bool false), (.func (.func 65) #[] #[]), (mkS [114, 101, 109, 111, 118, 101]), (.bool false), (.bool false), (.func (.func 66) #[] #[])]) Tryd.sizeOf88 rfl rfl rfl rfl rfl rfl rfl rfl rfl ?_)
          refine WL.nil ?_
          refine then_normal ?_
          refine WP.ret ?_
          refine retQ_ret (v := (.agg #[(mkS [112, 97, 114, 116]), (.bool true), (.bool false), (.func (.func 61) #[] #[]), (mkS [99, 121, 99, 108, 101, 115]), (.bool true), (.bool true), (.func (.func 62) #[] #[]), (mkS [102, 97, 117, 108, 116]), (.bool false), (.bool false), (.func (.func 63) #[] #[]), (mkS [114, 101, 112, 97, 105, 114]), (.bool false), (.bool false), (.func (.func 64) #[] #[]), (mkS [114, 101, 112, 108, 97, 99, 101]), (.bool true), (.bool false), (.func (.func 65) #[] #[]), (mkS [114, 101, 109, 111, 118, 101]), (.bool false), (.bool false), (.func (.func 66) #[] #[])])) Tryd.results43 (Res.cell rfl (box_loads (i := 0) Tryd.isAgg88 Tryd.sizeOf88 rfl rfl) Res.nil) rfl (fun w' s => ⟨_, ?_, s⟩)
          refine ⟨fun w' s => (s.select [1] (by decide) rfl), ?_⟩
          rcases Bool.eq_false_or_eq_true (p_x.kind == 0) with hc3 | hc3
          · replace hm := ite_t hc3 hm
            refine AL.take (i := 3) rfl (by kernel_rfl) (by kernel_rfl) (by kernel_rfl) (Runs.free rfl) rfl rfl (ov_index_at (j := 0) (cs := [(mkS [112, 97, 114, 116]), (.bool true), (.bool false), (.func (.func 61) #[] #[]), (mkS [99, 121, 99, 108, 101, 115]), (.bool true), (.bool true), (.func (.func 62) #[] #[]), (mkS [102, 97, 117, 108, 116]), (.bool false), (.bool false), (.func (.func 63) #[] #[]), (mkS [114, 101, 112, 97, 105, 114]), (.bool false), (.bool false), (.func (.func 64) #[] #[]), (mkS [114, 101, 112, 108, 97, 99, 101]), (.bool true), (.bool false), (.func (.func 65) #[] #[]), (mkS [114, 101, 109, 111, 118, 101]), (.bool false), (.bool false), (.func (.func 66) #[] #[])]) (r := (.agg #[(mkS [112, 97, 114, 116]), (.bool true), (.bool false), (.func (.func 61) #[] #[])])) (eq_of_beq hc3) rfl rfl rfl (fun _ => by kernel_rfl)) ?_
            refine AL.any (rs := [4]) (by kernel_rfl) (by decide) ?_
            refine ALs.cons (i := 4) rfl (Runs.free rfl) rfl rfl ?_ ?_
            · skip
              refine os_alloc (cs := [(mkS []), (.bool false), (.bool false), .nilFunc]) Tryd.zeroValue87 rfl rfl (fun b3 => ?_)
              refine ⟨fun w' s => (s.select [2] (by decide) rfl), ?_⟩
              refine AL.any (rs := [5]) (by kernel_rfl) (by decide) ?_
              refine ALs.cons0 (i := 5) rfl (Runs.free rfl) rfl ?_ ?_
              · skip
                refine os_store (i := 0) (vs := [(mkS [112, 97, 114, 116]), (.bool true), (.bool false), (.func (.func 61) #[] #[])]) (cs' := [(mkS [112, 97, 114, 116]), (.bool true), (.bool false), (.func (.func 61) #[] #[])]) Tryd.sizeOf87 rfl rfl rfl rfl rfl rfl rfl rfl rfl ?_
                refine ⟨fun w' s => (s.select [2] (by decide) rfl), ?_⟩
                refine AL.done (by kernel_rfl) ?_
                refine then_normal ?_
                exact ⟨b3, [112, 97, 114, 116], true, false, (.func (.func 61) #[] #[]), (Sub.cons rfl (Sub.cons rfl (Sub.nil _))), fun w' s => (s.select [0, 2] (by decide) rfl), hm⟩
              exact ALs.nil
            exact ALs.nil
          · replace hm := ite_f hc3 hm
            rcases Bool.eq_false_or_eq_true (p_x.kind == 1) with hc4 | hc4
            · replace hm := ite_t hc4 hm
              refine AL.take (i := 3) rfl (by kernel_rfl) (by kernel_rfl) (by kernel_rfl) (Runs.free rfl) rfl rfl (ov_index_at (j := 1) (cs := [(mkS [112, 97, 114, 116]), (.bool true), (.bool false), (.func (.func 61) #[] #[]), (mkS [99, 121, 99, 108, 101, 115]), (.bool true), (.bool true), (.func (.func 62) #[] #[]), (mkS [102, 97, 117, 108, 116]), (.bool false), (.bool false), (.func (.func 63) #[] #[]), (mkS [114, 101, 112, 97, 105, 114]), (.bool false), (.bool false), (.func (.func 64) #[] #[]), (mkS [114, 101, 112, 108, 97, 99, 101]), (.bool true), (.bool false), (.func (.func 65) #[] #[]), (mkS [114, 101, 109, 111, 118, 101]), (.bool false), (.bool false), (.func (.func 66) #[] #[])]) (r := (.agg #[(mkS [99, 121, 99, 108, 101, 115]), (.bool true), (.bool true), (.func (.func 62) #[] #[])])) (eq_of_beq hc4) rfl rfl rfl (fun _ => by kernel_rfl)) ?_
              refine AL.any (rs := [4]) (by kernel_rfl) (by decide) ?_
              refine ALs.cons (i := 4) rfl (Runs.free rfl) rfl rfl ?_ ?_
              · skip
                refine os_alloc (cs := [(mkS []), (.bool false), (.bool false), .nilFunc]) Tryd.zeroValue87 rfl rfl (fun b4 => ?_)
                refine ⟨fun w' s => (s.select [2] (by decide) rfl), ?_⟩
                refine AL.any (rs := [5]) (by kernel_rfl) (by decide) ?_
                refine ALs.cons0 (i := 5) rfl (Runs.free rfl) rfl ?_ ?_
                · skip
                  refine os_store (i := 0) (vs := [(mkS [99, 121, 99, 108, 101, 115]), (.bool true), (.bool true), (.func (.func 62) #[] #[])]) (cs' := [(mkS [99, 121, 99, 108, 101, 115]), (.bool true), (.bool true), (.func (.func 62) #[] #[])]) Tryd.sizeOf87 rfl rfl rfl rfl rfl rfl rfl rfl rfl ?_
                  refine ⟨fun w' s => (s.select [2] (by decide) rfl), ?_⟩
                  refine AL.done (by kernel_rfl) ?_
                  refine then_normal ?_
                  exact ⟨b4, [99, 121, 99, 108, 101, 115], true, true, (.func (.func 62) #[] #[]), (Sub.cons rfl (Sub.cons rfl (Sub.nil _))), fun w' s => (s.select [0, 2] (by decide) rfl), hm⟩
                exact ALs.nil
              exact ALs.nil
            · replace hm := ite_f hc4 hm
              rcases Bool.eq_false_or_eq_true (p_x.kind == 2) with hc5 | hc5
              · replace hm := ite_t hc5 hm
                refine AL.take (i := 3) rfl (by kernel_rfl) (by kernel_rfl) (by kernel_rfl) (Runs.free rfl) rfl rfl (ov_index_at (j := 2) (cs := [(mkS [112, 97, 114, 116]), (.bool true), (.bool false), (.func (.func 61) #[] #[]), (mkS [99, 121, 99, 108, 101, 115]), (.bool true), (.bool true), (.func (.func 62) #[] #[]), (mkS [102, 97, 117, 108, 116]), (.bool false), (.bool false), (.func (.func 63) #[] #[]), (mkS [114, 101, 112, 97, 105, 114]), (.bool false), (.bool false), (.func (.func 64) #[] #[]), (mkS [114, 101, 112, 108, 97, 99, 101]), (.bool true), (.bool false), (.func (.func 65) #[] #[]), (mkS [114, 101, 109, 111, 118, 101]), (.bool false), (.bool false), (.func (.func 66) #[] #[])]) (r := (.agg #[(mkS [102, 97, 117, 108, 116]), (.bool false), (.bool false), (.func (.func 63) #[] #[])])) (eq_of_beq hc5) rfl rfl rfl (fun _ => by kernel_rfl)) ?_
                refine AL.any (rs := [4]) (by kernel_rfl) (by decide) ?_
                refine ALs.cons (i := 4) rfl (Runs.free rfl) rfl rfl ?_ ?_
                · skip
                  refine os_alloc (cs := [(mkS []), (.bool false), (.bool false), .nilFunc]) Tryd.zeroValue87 rfl rfl (fun b5 => ?_)
                  refine ⟨fun w' s => (s.select [2] (by decide) rfl), ?_⟩
                  refine AL.any (rs := [5]) (by kernel_rfl) (by decide) ?_
                  refine ALs.cons0 (i := 5) rfl (Runs.free rfl) rfl ?_ ?_
                  · skip
                    refine os_store (i := 0) (vs := [(mkS [102, 97, 117, 108, 116]), (.bool false), (.bool false), (.func (.func 63) #[] #[])]) (cs' := [(mkS [102, 97, 117, 108, 116]), (.bool false), (.bool false), (.func (.func 63) #[] #[])]) Tryd.sizeOf87 rfl rfl rfl rfl rfl rfl rfl rfl rfl ?_
                    refine ⟨fun w' s => (s.select [2] (by decide) rfl), ?_⟩
                    refine AL.done (by kernel_rfl) ?_
                    refine then_normal ?_
                    exact ⟨b5, [102, 97, 117, 108, 116], false, false, (.func (.func 63) #[] #[]), (Sub.cons rfl (Sub.cons rfl (Sub.nil _))), fun w' s => (s.select [0, 2] (by decide) rfl), hm⟩
                  exact ALs.nil
                exact ALs.nil
              · replace hm := ite_f hc5 hm
                rcases Bool.eq_false_or_eq_true (p_x.kind == 3) with hc6 | hc6
                · replace hm := ite_t hc6 hm
                  refine AL.take (i := 3) rfl (by kernel_rfl) (by kernel_rfl) (by kernel_rfl) (Runs.free rfl) rfl rfl (ov_index_at (j := 3) (cs := [(mkS [112, 97, 114, 116]), (.bool true), (.bool false), (.func (.func 61) #[] #[]), (mkS [99, 121, 99, 108, 101, 115]), (.bool true), (.bool true), (.func (.func 62) #[] #[]), (mkS [102, 97, 117, 108, 116]), (.bool false), (.bool false), (.func (.func 63) #[] #[]), (mkS [114, 101, 112, 97, 105, 114]), (.bool false), (.bool false), (.func (.func 64) #[] #[]), (mkS [114, 101, 112, 108, 97, 99, 101]), (.bool true), (.bool false), (.func (.func 65) #[] #[]), (mkS [114, 101, 109, 111, 118, 101]), (.bool false), (.bool false), (.func (.func 66) #[] #[])]) (r := (.agg #[(mkS [114, 101, 112, 97, 105, 114]), (.bool false), (.bool false), (.func (.func 64) #[] #[])])) (eq_of_beq hc6) rfl rfl rfl (fun _ => by kernel_rfl)) ?_
                  refine AL.any (rs := [4]) (by kernel_rfl) (by decide) ?_
                  refine ALs.cons (i := 4) rfl (Runs.free rfl) rfl rfl ?_ ?_
                  · skip
                    refine os_alloc (cs := [(mkS []), (.bool false), (.bool false), .nilFunc]) Tryd.zeroValue87 rfl rfl (fun b6 => ?_)
                    refine ⟨fun w' s => (s.select [2] (by decide) rfl), ?_⟩
                    refine AL.any (rs := [5]) (by kernel_rfl) (by decide) ?_
                    refine ALs.cons0 (i := 5) rfl (Runs.free rfl) rfl ?_ ?_
                    · skip
                      refine os_store (i := 0) (vs := [(mkS [114, 101, 112, 97, 105, 114]), (.bool false), (.bool false), (.func (.func 64) #[] #[])]) (cs' := [(mkS [114, 101, 112, 97, 105, 114]), (.bool false), (.bool false), (.func (.func 64) #[] #[])]) Tryd.sizeOf87 rfl rfl rfl rfl rfl rfl rfl rfl rfl ?_
                      refine ⟨fun w' s => (s.select [2] (by decide) rfl), ?_⟩
                      refine AL.done (by kernel_rfl) ?_
                      refine then_normal ?_
                      exact ⟨b6, [114, 101, 112, 97, 105, 114], false, false, (.func (.func 64) #[] #[]), (Sub.cons rfl (Sub.cons rfl (Sub.nil _))), fun w' s => (s.select [0, 2] (by decide) rfl), hm⟩
                    exact ALs.nil
                  exact ALs.nil
                · replace hm := ite_f hc6 hm
                  rcases Bool.eq_false_or_eq_true (p_x.kind == 4) with hc7 | hc7
                  · replace hm := ite_t hc7 hm
                    refine AL.take (i := 3) rfl (by kernel_rfl) (by kernel_rfl) (by kernel_rfl) (Runs.free rfl) rfl rfl (ov_index_at (j := 4) (cs := [(mkS [112, 97, 114, 116]), (.bool true), (.bool false), (.func (.func 61) #[] #[]), (mkS [99, 121, 99, 108, 101, 115]), (.bool true), (.bool true), (.func (.func 62) #[] #[]), (mkS [102, 97, 117, 108, 116]), (.bool false), (.bool false), (.func (.func 63) #[] #[]), (mkS [114, 101, 112, 97, 105, 114]), (.bool false), (.bool false), (.func (.func 64) #[] #[]), (mkS [114, 101, 112, 108, 97, 99, 101]), (.bool true), (.bool false), (.func (.func 65) #[] #[]), (mkS [114, 101, 109, 111, 118, 101]), (.bool false), (.bool false), (.func (.func 66) #[] #[])]) (r := (.agg #[(mkS [114, 101, 112, 108, 97, 99, 101]), (.bool true), (.bool false), (.func (.func 65) #[] #[])])) (eq_of_beq hc7) rfl rfl rfl (fun _ => by kernel_rfl)) ?_
                    refine AL.any (rs := [4]) (by kernel_rfl) (by decide) ?_
                    refine ALs.cons (i := 4) rfl (Runs.free rfl) rfl rfl ?_ ?_
                    · skip
                      refine os_alloc (cs := [(mkS []), (.bool false), (.bool false), .nilFunc]) Tryd.zeroValue87 rfl rfl (fun b7 => ?_)
                      refine ⟨fun w' s => (s.select [2] (by decide) rfl), ?_⟩
                      refine AL.any (rs := [5]) (by kernel_rfl) (by decide) ?_
                      refine ALs.cons0 (i := 5) rfl (Runs.free rfl) rfl ?_ ?_
                      · skip
                        refine os_store (i := 0) (vs := [(mkS [114, 101, 112, 108, 97, 99, 101]), (.bool true), (.bool false), (.func (.func 65) #[] #[])]) (cs' := [(mkS [114, 101, 112, 108, 97, 99, 101]), (.bool true), (.bool false), (.func (.func 65) #[] #[])]) Tryd.sizeOf87 rfl rfl rfl rfl rfl rfl rfl rfl rfl ?_
                        refine ⟨fun w' s => (s.select [2] (by decide) rfl), ?_⟩
                        refine AL.done (by kernel_rfl) ?_
                        refine then_normal ?_
                        exact ⟨b7, [114, 101, 112, 108, 97, 99, 101], true, false, (.func (.func 65) #[] #[]), (Sub.cons rfl (Sub.cons rfl (Sub.nil _))), fun w' s => (s.select [0, 2] (by decide) rfl), hm⟩
                      exact ALs.nil
                    exact ALs.nil
                  · replace hm := ite_f hc7 hm
                    rcases Bool.eq_false_or_eq_true (p_x.kind == 5) with hc8 | hc8
                    · replace hm := ite_t hc8 hm
                      refine AL.take (i := 3) rfl (by kernel_rfl) (by kernel_rfl) (by kernel_rfl) (Runs.free rfl) rfl rfl (ov_index_at (j := 5) (cs := [(mkS [112, 97, 114, 116]), (.bool true), (.bool false), (.func (.func 61) #[] #[]), (mkS [99, 121, 99, 108, 101, 115]), (.bool true), (.bool true), (.func (.func 62) #[] #[]), (mkS [102, 97, 117, 108, 116]), (.bool false), (.bool false), (.func (.func 63) #[] #[]), (mkS [114, 101, 112, 97, 105, 114]), (.bool false), (.bool false), (.func (.func 64) #[] #[]), (mkS [114, 101, 112, 108, 97, 99, 101]), (.bool true), (.bool false), (.func (.func 65) #[] #[]), (mkS [114, 101, 109, 111, 118, 101]), (.bool false), (.bool false), (.func (.func 66) #[] #[])]) (r := (.agg #[(mkS [114, 101, 109, 111, 118, 101]), (.bool false), (.bool false), (.func (.func 66) #[] #[])])) (eq_of_beq hc8) rfl rfl rfl (fun _ => by kernel_rfl)) ?_
                      refine AL.any (rs := [4]) (by kernel_rfl) (by decide) ?_
                      refine ALs.cons (i := 4) rfl (Runs.free rfl) rfl rfl ?_ ?_
                      · skip
                        refine os_alloc (cs := [(mkS []), (.bool false), (.bool false), .nilFunc]) Tryd.zeroValue87 rfl rfl (fun b8 => ?_)
                        refine ⟨fun w' s => (s.select [2] (by decide) rfl), ?_⟩
                        refine AL.any (rs := [5]) (by kernel_rfl) (by decide) ?_
                        refine ALs.cons0 (i := 5) rfl (Runs.free rfl) rfl ?_ ?_
                        · skip
                          refine os_store (i := 0) (vs := [(mkS [114, 101, 109, 111, 118, 101]), (.bool false), (.bool false), (.func (.func 66) #[] #[])]) (cs' := [(mkS [114, 101, 109, 111, 118, 101]), (.bool false), (.bool false), (.func (.func 66) #[] #[])]) Tryd.sizeOf87 rfl rfl rfl rfl rfl rfl rfl rfl rfl ?_
                          refine ⟨fun w' s => (s.select [2] (by decide) rfl), ?_⟩
                          refine AL.done (by kernel_rfl) ?_
                          refine then_normal ?_
                          exact ⟨b8, [114, 101, 109, 111, 118, 101], false, false, (.func (.func 66) #[] #[]), (Sub.cons rfl (Sub.cons rfl (Sub.nil _))), fun w' s => (s.select [0, 2] (by decide) rfl), hm⟩
                        exact ALs.nil
                      exact ALs.nil
                    · replace hm := ite_f hc8 hm
                      exact (none_some hm).elim
        refine ALs.cons (i := 4) rfl (Runs.free rfl) rfl rfl ?_ ?_
        · skip
          refine os_alloc (cs := [(mkS []), (.bool false), (.bool false), .nilFunc]) Tryd.zeroValue87 rfl rfl (fun b9 => ?_)
          refine ⟨fun w' s => (s.select [1] (by decide) rfl), ?_⟩
          refine AL.any (rs := [0]) (by kernel_rfl) (by decide) ?_
          refine ALs.cons (i := 0) rfl (Runs.free rfl) rfl rfl ?_ ?_
          · skip
            refine os_inline (cap := []) (vs := []) Tryd.call43 rfl rfl rfl Tryd.func43 rfl 8 Tryd.ntmps43 rfl (fun w' s => ?_)
            refine WP.seq ?_
            refine WP.region ?_
            refine WL.step (Runs.free rfl) rfl rfl (os_alloc (cs := [(mkS []), (.bool false), (.bool false), .nilFunc, (mkS []), (.bool false), (.bool false), .nilFunc, (mkS []), (.bool false), (.bool false), .nilFunc, (mkS []), (.bool false), (.bool false), .nilFunc, (mkS []), (.bool false), (.bool false), .nilFunc, (mkS []), (.bool false), (.bool false), .nilFunc]) Tryd.zeroValue88 rfl rfl (fun b10 => ?_))
            refine WL.nil ?_
            refine then_normal ?_
            refine WP.seq ?_
            refine WP.region ?_
            refine WL.quiet (Runs.free rfl) rfl rfl (OV.quiet (ov_build (r := (.agg #[(mkS [112, 97, 114, 116]), (.bool true), (.bool false), (.func (.func 61) #[] #[])])) rfl rfl (fun _ => by kernel_rfl))) ?_
            refine WL.quiet (Runs.free rfl) rfl rfl (OV.quiet (ov_build (r := (.agg #[(mkS [99, 121, 99, 108, 101, 115]), (.bool true), (.bool true), (.func (.func 62) #[] #[])])) rfl rfl (fun _ => by kernel_rfl))) ?_
            refine WL.quiet (Runs.free rfl) rfl rfl (OV.quiet (ov_build (r := (.agg #[(mkS [102, 97, 117, 108, 116]), (.bool false), (.bool false), (.func (.func 63) #[] #[])])) rfl rfl (fun _ => by kernel_rfl))) ?_
            refine WL.quiet (Runs.free rfl) rfl rfl (OV.quiet (ov_build (r := (.agg #[(mkS [114, 101, 112, 97, 105, 114]), (.bool false), (.bool false), (.func (.func 64) #[] #[])])) rfl rfl (fun _ => by kernel_rfl))) ?_
            refine WL.quiet (Runs.free rfl) rfl rfl (OV.quiet (ov_build (r := (.agg #[(mkS [114, 101, 112, 108, 97, 99, 101]), (.bool true), (.bool false), (.func (.func 65) #[] #[])])) rfl rfl (fun _ => by kernel_rfl))) ?_
            refine WL.quiet (Runs.free rfl) rfl rfl (OV.quiet (ov_build (r := (.agg #[(mkS [114, 101, 109, 111, 118, 101]), (.bool false), (.bool false), (.func (.func 66) #[] #[])])) rfl rfl (fun _ => by kernel_rfl))) ?_
            refine WL.quiet (Runs.free rfl) rfl rfl (OV.quiet (ov_build (r := (.agg #[(mkS [112, 97, 114, 116]), (.bool true), (.bool false), (.func (.func 61) #[] #[]), (mkS [99, 121, 99, 108, 101, 115]), (.bool true), (.bool true), (.func (.func 62) #[] #[]), (mkS [102, 97, 117, 108, 116]), (.bool false), (.bool false), (.func (.func 63) #[] #[]), (mkS [114, 101, 112, 97, 105, 114]), (.bool false), (.bool false), (.func (.func 64) #[] #[]), (mkS [114, 101, 112, 108, 97, 99, 101]), (.bool true), (.bool false), (.func (.func 65) #[] #[]), (mkS [114, 101, 109, 111, 118, 101]), (.bool false), (.bool false), (.func (.func 66) #[] #[])])) rfl rfl (fun _ => by kernel_rfl))) ?_
            refine WL.step0 (Runs.free rfl) rfl (os_store (i := 0) (vs := [(mkS [112, 97, 114, 116]), (.bool true), (.bool false), (.func (.func 61) #[] #[]), (mkS [99, 121, 99, 108, 101, 115]), (.bool true), (.bool true), (.func (.func 62) #[] #[]), (mkS [102, 97, 117, 108, 116]), (.bool false), (.bool false), (.func (.func 63) #[] #[]), (mkS [114, 101, 112, 97, 105, 114]), (.bool false), (.bool false), (.func (.func 64) #[] #[]), (mkS [114, 101, 112, 108, 97, 99, 101]), (.bool true), (.bool false), (.func (.func 65) #[] #[]), (mkS [114, 101, 109, 111, 118, 101]), (.bool false), (.bool false), (.func (.func 66) #[] #[])]) (cs' := [(mkS [112, 97, 114, 116]), (.bool true), (.bool false), (.func (.func 61) #[] #[]), (mkS [99, 121, 99, 108, 101, 115]), (.bool true), (.bool true), (.func (.func 62) #[] #[]), (mkS [102, 97, 117, 108, 116]), (.bool false), (.bool false), (.func (.func 63) #[] #[]), (mkS [114, 101, 112, 97, 105, 114]), (.bool false), (.bool false), (.func (.func 64) #[] #[]), (mkS [114, 101, 112, 108, 97, 99, 101]), (.bool true), (.bool false), (.func (.func 65) #[] #[]), (mkS [114, 101, 109, 111, 118, 101]), (.bool false), (.bool false), (.func (.func 66) #[] #[])]) Tryd.sizeOf88 rfl rfl rfl rfl rfl rfl rfl rfl rfl ?_)
            refine WL.nil ?_
            refine then_normal ?_
            refine WP.ret ?_
            refine retQ_ret (v := (.agg #[(mkS [112, 97, 114, 116]), (.bool true), (.bool false), (.func (.func 61) #[] #[]), (mkS [99, 121, 99, 108, 101, 115]), (.bool true), (.bool true), (.func (.func 62) #[] #[]), (mkS [102, 97, 117, 108, 116]), (.bool false), (.bool false), (.func (.func 63) #[] #[]), (mkS [114, 101, 112, 97, 105, 114]), (.bool false), (.bool false), (.func (.func 64) #[] #[]), (mkS [114, 101, 112, 108, 97, 99, 101]), (.bool true), (.bool false), (.func (.func 65) #[] #[]), (mkS [114, 101, 109, 111, 118, 101]), (.bool false), (.bool false), (.func (.func 66) #[] #[])])) Tryd.results43 (Res.cell rfl (box_loads (i := 0) Tryd.isAgg88 Tryd.sizeOf88 rfl rfl) Res.nil) rfl (fun w' s => ⟨_, ?_, s⟩)
            refine ⟨fun w' s => (s.select [2] (by decide) rfl), ?_⟩
            rcases Bool.eq_false_or_eq_true (p_x.kind == 0) with hc9 | hc9
            · replace hm := ite_t hc9 hm
              refine AL.take (i := 3) rfl (by kernel_rfl) (by kernel_rfl) (by kernel_rfl) (Runs.free rfl) rfl rfl (ov_index_at (j := 0) (cs := [(mkS [112, 97, 114, 116]), (.bool true), (.bool false), (.func (.func 61) #[] #[]), (mkS [99, 121, 99, 108, 101, 115]), (.bool true), (.bool true), (.func (.func 62) #[] #[]), (mkS [102, 97, 117, 108, 116]), (.bool false), (.bool false), (.func (.func 63) #[] #[]), (mkS [114, 101, 112, 97, 105, 114]), (.bool false), (.bool false), (.func (.func 64) #[] #[]), (mkS [114, 101, 112, 108, 97, 99, 101]), (.bool true), (.bool false), (.func (.func 65) #[] #[]), (mkS [114, 101, 109, 111, 118, 101]), (.bool false), (.bool false), (.func (.func 66) #[] #[])]) (r := (.agg #[(mkS [112, 97, 114, 116]), (.bool true), (.bool false), (.func (.func 61) #[] #[])])) (eq_of_beq hc9) rfl rfl rfl (fun _ => by kernel_rfl)) ?_
              refine AL.any (rs := [5]) (by kernel_rfl) (by decide) ?_
              refine ALs.cons0 (i := 5) rfl (Runs.free rfl) rfl ?_ ?_
              · skip
                refine os_store (i := 1) (vs := [(mkS [112, 97, 114, 116]), (.bool true), (.bool false), (.func (.func 61) #[] #[])]) (cs' := [(mkS [112, 97, 114, 116]), (.bool true), (.bool false), (.func (.func 61) #[] #[])]) Tryd.sizeOf87 rfl rfl rfl rfl rfl rfl rfl rfl rfl ?_
                refine ⟨fun w' s => (s.select [2] (by decide) rfl), ?_⟩
                refine AL.done (by kernel_rfl) ?_
                refine then_normal ?_
                exact ⟨b9, [112, 97, 114, 116], true, false, (.func (.func 61) #[] #[]), (Sub.cons rfl (Sub.cons rfl (Sub.nil _))), fun w' s => (s.select [1, 2] (by decide) rfl), hm⟩
              exact ALs.nil
            · replace hm := ite_f hc9 hm
              rcases Bool.eq_false_or_eq_true (p_x.kind == 1) with hc10 | hc10
              · replace hm := ite_t hc10 hm
                refine AL.take (i := 3) rfl (by kernel_rfl) (by kernel_rfl) (by kernel_rfl) (Runs.free rfl) rfl rfl (ov_index_at (j := 1) (cs := [(mkS [112, 97, 114, 116]), (.bool true), (.bool false), (.func (.func 61) #[] #[]), (mkS [99, 121, 99, 108, 101, 115]), (.bool true), (.bool true), (.func (.func 62) #[] #[]), (mkS [102, 97, 117, 108, 116]), (.bool false), (.bool false), (.func (.func 63) #[] #[]), (mkS [114, 101, 112, 97, 105, 114]), (.bool false), (.bool false), (.func (.func 64) #[] #[]), (mkS [114, 101, 112, 108, 97, 99, 101]), (.bool true), (.bool false), (.func (.func 65) #[] #[]), (mkS [114, 101, 109, 111, 118, 101]), (.bool false), (.bool false), (.func (.func 66) #[] #[])]) (r := (.agg #[(mkS [99, 121, 99, 108, 101, 115]), (.bool true), (.bool true), (.func (.func 62) #[] #[])])) (eq_of_beq hc10) rfl rfl rfl (fun _ => by kernel_rfl)) ?_
                refine AL.any (rs := [5]) (by kernel_rfl) (by decide) ?_
                refine ALs.cons0 (i := 5) rfl (Runs.free rfl) rfl ?_ ?_
                · skip
                  refine os_store (i := 1) (vs := [(mkS [99, 121, 99, 108, 101, 115]), (.bool true), (.bool true), (.func (.func 62) #[] #[])]) (cs' := [(mkS [99, 121, 99, 108, 101, 115]), (.bool true), (.bool true), (.func (.func 62) #[] #[])]) Tryd.sizeOf87 rfl rfl rfl rfl rfl rfl rfl rfl rfl ?_
                  refine ⟨fun w' s => (s.select [2] (by decide) rfl), ?_⟩
                  refine AL.done (by kernel_rfl) ?_
                  refine then_normal ?_
                  exact ⟨b9, [99, 121, 99, 108, 101, 115], true, true, (.func (.func 62) #[] #[]), (Sub.cons rfl (Sub.cons rfl (Sub.nil _))), fun w' s => (s.select [1, 2] (by decide) rfl), hm⟩
                exact ALs.nil
              · replace hm := ite_f hc10 hm
                rcases Bool.eq_false_or_eq_true (p_x.kind == 2) with hc11 | hc11
                · replace hm := ite_t hc11 hm
                  refine AL.take (i := 3) rfl (by kernel_rfl) (by kernel_rfl) (by kernel_rfl) (Runs.free rfl) rfl rfl (ov_index_at (j := 2) (cs := [(mkS [112, 97, 114, 116]), (.bool true), (.bool false), (.func (.func 61) #[] #[]), (mkS [99, 121, 99, 108, 101, 115]), (.bool true), (.bool true), (.func (.func 62) #[] #[]), (mkS [102, 97, 117, 108, 116]), (.bool false), (.bool false), (.func (.func 63) #[] #[]), (mkS [114, 101, 112, 97, 105, 114]), (.bool false), (.bool false), (.func (.func 64) #[] #[]), (mkS [114, 101, 112, 108, 97, 99, 101]), (.bool true), (.bool false), (.func (.func 65) #[] #[]), (mkS [114, 101, 109, 111, 118, 101]), (.bool false), (.bool false), (.func (.func 66) #[] #[])]) (r := (.agg #[(mkS [102, 97, 117, 108, 116]), (.bool false), (.bool false), (.func (.func 63) #[] #[])])) (eq_of_beq hc11) rfl rfl rfl (fun _ => by kernel_rfl)) ?_
                  refine AL.any (rs := [5]) (by kernel_rfl) (by decide) ?_
                  refine ALs.cons0 (i := 5) rfl (Runs.free rfl) rfl ?_ ?_
                  · skip
                    refine os_store (i := 1) (vs := [(mkS [102, 97, 117, 108, 116]), (.bool false), (.bool false), (.func (.func 63) #[] #[])]) (cs' := [(mkS [102, 97, 117, 108, 116]), (.bool false), (.bool false), (.func (.func 63) #[] #[])]) Tryd.sizeOf87 rfl rfl rfl rfl rfl rfl rfl rfl rfl ?_
                    refine ⟨fun w' s => (s.select [2] (by decide) rfl), ?_⟩
                    refine AL.done (by kernel_rfl) ?_
                    refine then_normal ?_
                    exact ⟨b9, [102, 97, 117, 108, 116], false, false, (.func (.func 63) #[] #[]), (Sub.cons rfl (Sub.cons rfl (Sub.nil _))), fun w' s => (s.select [1, 2] (by decide) rfl), hm⟩
                  exact ALs.nil
                · replace hm := ite_f hc11 hm
                  rcases Bool.eq_false_or_eq_true (p_x.kind == 3) with hc12 | hc12
                  · replace hm := ite_t hc12 hm
                    refine AL.take (i := 3) rfl (by kernel_rfl) (by kernel_rfl) (by kernel_rfl) (Runs.free rfl) rfl rfl (ov_index_at (j := 3) (cs := [(mkS [112, 97, 114, 116]), (.bool true), (.bool false), (.func (.func 61) #[] #[]), (mkS [99, 121, 99, 108, 101, 115]), (.bool true), (.bool true), (.func (.func 62) #[] #[]), (mkS [102, 97, 117, 108, 116]), (.bool false), (.bool false), (.func (.func 63) #[] #[]), (mkS [114, 101, 112, 97, 105, 114]), (.bool false), (.bool false), (.func (.func 64) #[] #[]), (mkS [114, 101, 112, 108, 97, 99, 101]), (.bool true), (.bool false), (.func (.func 65) #[] #[]), (mkS [114, 101, 109, 111, 118, 101]), (.bool false), (.bool false), (.func (.func 66) #[] #[])]) (r := (.agg #[(mkS [114, 101, 112, 97, 105, 114]), (.bool false), (.bool false), (.func (.func 64) #[] #[])])) (eq_of_beq hc12) rfl rfl rfl (fun _ => by kernel_rfl)) ?_
                    refine AL.any (rs := [5]) (by kernel_rfl) (by decide) ?_
                    refine ALs.cons0 (i := 5) rfl (Runs.free rfl) rfl ?_ ?_
                    · skip
                      refine os_store (i := 1) (vs := [(mkS [114, 101, 112, 97, 105, 114]), (.bool false), (.bool false), (.func (.func 64) #[] #[])]) (cs' := [(mkS [114, 101, 112, 97, 105, 114]), (.bool false), (.bool false), (.func (.func 64) #[] #[])]) Tryd.sizeOf87 rfl rfl rfl rfl rfl rfl rfl rfl rfl ?_
                      refine ⟨fun w' s => (s.select [2] (by decide) rfl), ?_⟩
                      refine AL.done (by kernel_rfl) ?_
                      refine then_normal ?_
                      exact ⟨b9, [114, 101, 112, 97, 105, 114], false, false, (.func (.func 64) #[] #[]), (Sub.cons rfl (Sub.cons rfl (Sub.nil _))), fun w' s => (s.select [1, 2] (by decide) rfl), hm⟩
                    exact ALs.nil
                  · replace hm := ite_f hc12 hm
                    rcases Bool.eq_false_or_eq_true (p_x.kind == 4) with hc13 | hc13
                    · replace hm := ite_t hc13 hm
                      refine AL.take (i := 3) rfl (by kernel_rfl) (by kernel_rfl) (by kernel_rfl) (Runs.free rfl) rfl rfl (ov_index_at (j := 4) (cs := [(mkS [112, 97, 114, 116]), (.bool true), (.bool false), (.func (.func 61) #[] #[]), (mkS [99, 121, 99, 108, 101, 115]), (.bool true), (.bool true), (.func (.func 62) #[] #[]), (mkS [102, 97, 117, 108, 116]), (.bool false), (.bool false), (.func (.func 63) #[] #[]), (mkS [114, 101, 112, 97, 105, 114]), (.bool false), (.bool false), (.func (.func 64) #[] #[]), (mkS [114, 101, 112, 108, 97, 99, 101]), (.bool true), (.bool false), (.func (.func 65) #[] #[]), (mkS [114, 101, 109, 111, 118, 101]), (.bool false), (.bool false), (.func (.func 66) #[] #[])]) (r := (.agg #[(mkS [114, 101, 112, 108, 97, 99, 101]), (.bool true), (.bool false), (.func (.func 65) #[] #[])])) (eq_of_beq hc13) rfl rfl rfl (fun _ => by kernel_rfl)) ?_
                      refine AL.any (rs := [5]) (by kernel_rfl) (by decide) ?_
                      refine ALs.cons0 (i := 5) rfl (Runs.free rfl) rfl ?_ ?_
                      · skip
                        refine os_store (i := 1) (vs := [(mkS [114, 101, 112, 108, 97, 99, 101]), (.bool true), (.bool false), (.func (.func 65) #[] #[])]) (cs' := [(mkS [114, 101, 112, 108, 97, 99, 101]), (.bool true), (.bool false), (.func (.func 65) #[] #[])]) Tryd.sizeOf87 rfl rfl rfl rfl rfl rfl rfl rfl rfl ?_
                        refine ⟨fun w' s => (s.select [2] (by decide) rfl), ?_⟩
                        refine AL.done (by kernel_rfl) ?_
                        refine then_normal ?_
                        exact ⟨b9, [114, 101, 112, 108, 97, 99, 101], true, false, (.func (.func 65) #[] #[]), (Sub.cons rfl (Sub.cons rfl (Sub.nil _))), fun w' s => (s.select [1, 2] (by decide) rfl), hm⟩
                      exact ALs.nil
                    · replace hm := ite_f hc13 hm
                      rcases Bool.eq_false_or_eq_true (p_x.kind == 5) with hc14 | hc14
                      · replace hm := ite_t hc14 hm
                        refine AL.take (i := 3) rfl (by kernel_rfl) (by kernel_rfl) (by kernel_rfl) (Runs.free rfl) rfl rfl (ov_index_at (j := 5) (cs := [(mkS [112, 97, 114, 116]), (.bool true), (.bool false), (.func (.func 61) #[] #[]), (mkS [99, 121, 99, 108, 101, 115]), (.bool true), (.bool true), (.func (.func 62) #[] #[]), (mkS [102, 97, 117, 108, 116]), (.bool false), (.bool false), (.func (.func 63) #[] #[]), (mkS [114, 101, 112, 97, 105, 114]), (.bool false), (.bool false), (.func (.func 64) #[] #[]), (mkS [114, 101, 112, 108, 97, 99, 101]), (.bool true), (.bool false), (.func (.func 65) #[] #[]), (mkS [114, 101, 109, 111, 118, 101]), (.bool false), (.bool false), (.func (.func 66) #[] #[])]) (r := (.agg #[(mkS [114, 101, 109, 111, 118, 101]), (.bool false), (.bool false), (.func (.func 66) #[] #[])])) (eq_of_beq hc14) rfl rfl rfl (fun _ => by kernel_rfl)) ?_
                        refine AL.any (rs := [5]) (by kernel_rfl) (by decide) ?_
                        refine ALs.cons0 (i := 5) rfl (Runs.free rfl) rfl ?_ ?_
                        · skip
                          refine os_store (i := 1) (vs := [(mkS [114, 101, 109, 111, 118, 101]), (.bool false), (.bool false), (.func (.func 66) #[] #[])]) (cs' := [(mkS [114, 101, 109, 111, 118, 101]), (.bool false), (.bool false), (.func (.func 66) #[] #[])]) Tryd.sizeOf87 rfl rfl rfl rfl rfl rfl rfl rfl rfl ?_
                          refine ⟨fun w' s => (s.select [2] (by decide) rfl), ?_⟩
                          refine AL.done (by kernel_rfl) ?_
                          refine then_normal ?_
                          exact ⟨b9, [114, 101, 109, 111, 118, 101], false, false, (.func (.func 66) #[] #[]), (Sub.cons rfl (Sub.cons rfl (Sub.nil _))), fun w' s => (s.select [1, 2] (by decide) rfl), hm⟩
                        exact ALs.nil
                      · replace hm := ite_f hc14 hm
                        exact (none_some hm).elim
          exact ALs.nil
        exact ALs.nil
      · rintro g' S' ⟨b11, s1, c1, c2, v1, hsub1, hS1, hm⟩
        refine WP.sub hsub1 (WP.weaken hS1 ?_)
        replace hm := (congrFun (congrFun (congrFun hk1 s1) c1) c2).symm.trans hm
        refine WP.seq ?_
        refine WP.seq ?_
        refine WP.region ?_
        refine WL.quiet (Runs.free rfl) rfl rfl (OV.quiet (ov_fieldAddr Tryd.underlying87 rfl rfl rfl Tryd.sizeOf4 rfl rfl)) ?_
        refine WL.quiet (Runs.free rfl) rfl rfl (OV.quiet (ov_load_box (i := 0) Tryd.isAgg4 rfl rfl rfl rfl)) ?_
        refine WL.quiet (Runs.free rfl) rfl rfl (OV.quiet (ov_move rfl rfl)) ?_
        obtain ⟨c3, e3, hm⟩ := bind_some hm
        refine WL.cut_bool 5 26 (x := c3) ?_ ?_
        · rcases Bool.eq_false_or_eq_true c1 with hc15 | hc15
          · skip
            replace hm := ite_t hc15 e3
            refine WL.quiet (Runs.yes rfl rfl rfl hc15) rfl rfl (OV.quiet (ov_fieldAddr Tryd.underlying26 rfl rfl rfl Tryd.sizeOf3 rfl rfl)) ?_
            refine WL.quiet (Runs.yes rfl rfl rfl hc15) rfl rfl (OV.quiet (ov_load_box (i := 1) Tryd.isAgg3 rfl rfl rfl rfl)) ?_
            obtain ⟨r3, e4, hm⟩ := bind_some hm
            refine WL.quiet (Runs.yes rfl rfl rfl hc15) rfl rfl (oq_con (r := (.bool r3)) Tryd.call38 rfl rfl (fun w' s => ⟨_, (journal_in_con p_x.count 1 1048576  w' H s.hold hG r3 e4)⟩)) ?_
            refine WL.quiet (Runs.yes rfl rfl rfl hc15) rfl rfl (OV.quiet (ov_not rfl rfl)) ?_
            refine WL.quiet (Runs.free rfl) rfl rfl (OV.quiet (ov_pick_true rfl (guard_eq rfl hc15) rfl)) ?_
            exact WL.nil ⟨Sub.cons' rfl (congrArg Value.bool (Option.some.inj hm)) (Sub.skip rfl (Sub.skip rfl (Sub.skip rfl (Sub.skip rfl (Sub.skip rfl (Sub.refl _)))))), fun _ s => s⟩
          · skip
            replace hm := ite_f hc15 e3
            refine WL.idle (Idle.no rfl rfl rfl hc15) rfl rfl ?_
            refine WL.idle (Idle.no rfl rfl rfl hc15) rfl rfl ?_
            refine WL.idle (Idle.no rfl rfl rfl hc15) rfl rfl ?_
            refine WL.idle (Idle.no rfl rfl rfl hc15) rfl rfl ?_
            refine WL.quiet (Runs.free rfl) rfl rfl (OV.quiet (ov_pick_false rfl (guard_eq rfl hc15) rfl)) ?_
            exact WL.nil ⟨Sub.cons' rfl (congrArg Value.bool (Option.some.inj hm)) (Sub.skip rfl (Sub.skip rfl (Sub.skip rfl (Sub.skip rfl (Sub.skip rfl (Sub.refl _)))))), fun _ s => s⟩
        refine WL.quiet (Runs.free rfl) rfl rfl (OV.quiet (ov_move rfl rfl)) ?_
        refine WL.cut_bool 9 36 (x := (c3 || ((!c1) && (p_x.count != 0)))) ?_ ?_
        · rcases Bool.eq_false_or_eq_true c3 with hc16 | hc16
          · skip
            refine WL.idle (Idle.no rfl rfl rfl hc16) rfl rfl ?_
            refine WL.idle (Idle.no rfl rfl rfl hc16) rfl rfl ?_
            refine WL.idle (Idle.no rfl rfl rfl hc16) rfl rfl ?_
            refine WL.idle (Idle.no rfl rfl rfl hc16) rfl rfl ?_
            refine WL.idle (Idle.undef rfl rfl rfl) rfl rfl ?_
            refine WL.idle (Idle.undef rfl rfl rfl) rfl rfl ?_
            refine WL.idle (Idle.undef rfl rfl rfl) rfl rfl ?_
            refine WL.idle (Idle.no rfl rfl rfl hc16) rfl rfl ?_
            refine WL.quiet (Runs.free rfl) rfl rfl (OV.quiet (ov_pick_true rfl (guard_eq rfl hc16) rfl)) ?_
            exact WL.nil ⟨Sub.cons' rfl (congrArg Value.bool (by rw [hc16]; rfl)) (Sub.skip rfl (Sub.skip rfl (Sub.skip rfl (Sub.skip rfl (Sub.skip rfl (Sub.skip rfl (Sub.skip rfl (Sub.skip rfl (Sub.skip rfl (Sub.refl _)))))))))), fun _ s => s⟩
          · skip
            refine WL.quiet (Runs.yes rfl rfl rfl hc16) rfl rfl (OV.quiet (ov_fieldAddr Tryd.underlying87 rfl rfl rfl Tryd.sizeOf4 rfl rfl)) ?_
            refine WL.quiet (Runs.yes rfl rfl rfl hc16) rfl rfl (OV.quiet (ov_load_box (i := 0) Tryd.isAgg4 rfl rfl rfl rfl)) ?_
            refine WL.quiet (Runs.yes rfl rfl rfl hc16) rfl rfl (OV.quiet (ov_not rfl rfl)) ?_
            refine WL.quiet (Runs.yes rfl rfl rfl hc16) rfl rfl (OV.quiet (ov_move rfl rfl)) ?_
            refine WL.cut_bool 4 35 (x := ((!c1) && (p_x.count != 0))) ?_ ?_
            · rcases Bool.eq_false_or_eq_true (!c1) with hc17 | hc17
              · skip
                refine WL.quiet (Runs.yes rfl rfl rfl hc17) rfl rfl (OV.quiet (ov_fieldAddr Tryd.underlying26 rfl rfl rfl Tryd.sizeOf3 rfl rfl)) ?_
                refine WL.quiet (Runs.yes rfl rfl rfl hc17) rfl rfl (OV.quiet (ov_load_box (i := 1) Tryd.isAgg3 rfl rfl rfl rfl)) ?_
                refine WL.quiet (Runs.yes rfl rfl rfl hc17) rfl rfl (OV.quiet (ov_neq rfl rfl rfl)) ?_
                refine WL.quiet (Runs.yes rfl rfl rfl hc16) rfl rfl (OV.quiet (ov_pick_true rfl (guard_eq rfl hc17) rfl)) ?_
                exact WL.nil ⟨Sub.cons' rfl (congrArg Value.bool (by rw [hc17]; rfl)) (Sub.skip rfl (Sub.skip rfl (Sub.skip rfl (Sub.skip rfl (Sub.refl _))))), fun _ s => s⟩
              · skip
                refine WL.idle (Idle.no rfl rfl rfl hc17) rfl rfl ?_
                refine WL.idle (Idle.no rfl rfl rfl hc17) rfl rfl ?_
                refine WL.idle (Idle.no rfl rfl rfl hc17) rfl rfl ?_
                refine WL.quiet (Runs.yes rfl rfl rfl hc16) rfl rfl (OV.quiet (ov_pick_false rfl (guard_eq rfl hc17) rfl)) ?_
                exact WL.nil ⟨Sub.cons' rfl (congrArg Value.bool (by rw [hc17]; rfl)) (Sub.skip rfl (Sub.skip rfl (Sub.skip rfl (Sub.skip rfl (Sub.refl _))))), fun _ s => s⟩
            refine WL.quiet (Runs.free rfl) rfl rfl (OV.quiet (ov_pick_false rfl (guard_eq rfl hc16) rfl)) ?_
            exact WL.nil ⟨Sub.cons' rfl (congrArg Value.bool (by rw [hc16]; rfl)) (Sub.skip rfl (Sub.skip rfl (Sub.skip rfl (Sub.skip rfl (Sub.skip rfl (Sub.skip rfl (Sub.refl _))))))), fun _ s => s⟩
        refine WL.quiet (Runs.free rfl) rfl rfl (OV.quiet (ov_move rfl rfl)) ?_
        obtain ⟨c4, e5, hm⟩ := bind_some hm
        refine WL.cut_bool 9 46 (x := c4) ?_ ?_
        · rcases Bool.eq_false_or_eq_true (c3 || ((!c1) && (p_x.count != 0))) with hc18 | hc18
          · skip
            replace hm := ite_t hc18 e5
            refine WL.idle (Idle.no rfl rfl rfl hc18) rfl rfl ?_
            refine WL.idle (Idle.no rfl rfl rfl hc18) rfl rfl ?_
            refine WL.idle (Idle.no rfl rfl rfl hc18) rfl rfl ?_
            refine WL.idle (Idle.undef rfl rfl rfl) rfl rfl ?_
            refine WL.idle (Idle.undef rfl rfl rfl) rfl rfl ?_
            refine WL.idle (Idle.undef rfl rfl rfl) rfl rfl ?_
            refine WL.idle (Idle.undef rfl rfl rfl) rfl rfl ?_
            refine WL.idle (Idle.no rfl rfl rfl hc18) rfl rfl ?_
            refine WL.quiet (Runs.free rfl) rfl rfl (OV.quiet (ov_pick_true rfl (guard_eq rfl hc18) rfl)) ?_
            exact WL.nil ⟨Sub.cons' rfl (congrArg Value.bool (Option.some.inj hm)) (Sub.skip rfl (Sub.skip rfl (Sub.skip rfl (Sub.skip rfl (Sub.skip rfl (Sub.skip rfl (Sub.skip rfl (Sub.skip rfl (Sub.skip rfl (Sub.refl _)))))))))), fun _ s => s⟩
          · skip
            replace hm := ite_f hc18 e5
            refine WL.quiet (Runs.yes rfl rfl rfl hc18) rfl rfl (OV.quiet (ov_fieldAddr Tryd.underlying87 rfl rfl rfl Tryd.sizeOf4 rfl rfl)) ?_
            refine WL.quiet (Runs.yes rfl rfl rfl hc18) rfl rfl (OV.quiet (ov_load_box (i := 0) Tryd.isAgg4 rfl rfl rfl rfl)) ?_
            refine WL.quiet (Runs.yes rfl rfl rfl hc18) rfl rfl (OV.quiet (ov_move rfl rfl)) ?_
            obtain ⟨c5, e6, hm⟩ := bind_some hm
            refine WL.cut_bool 5 45 (x := c5) ?_ ?_
            · rcases Bool.eq_false_or_eq_true c2 with hc19 | hc19
              · skip
                replace hm := ite_t hc19 e6
                refine WL.quiet (Runs.yes rfl rfl rfl hc19) rfl rfl (OV.quiet (ov_fieldAddr Tryd.underlying26 rfl rfl rfl Tryd.sizeOf3 rfl rfl)) ?_
                refine WL.quiet (Runs.yes rfl rfl rfl hc19) rfl rfl (OV.quiet (ov_load_box (i := 1) Tryd.isAgg3 rfl rfl rfl rfl)) ?_
                obtain ⟨r4, e7, hm⟩ := bind_some hm
                refine WL.quiet (Runs.yes rfl rfl rfl hc19) rfl rfl (oq_con (r := (.bool r4)) Tryd.call38 rfl rfl (fun w' s => ⟨_, (journal_in_con p_x.strokes 0 1048576  w' H s.hold hG r4 e7)⟩)) ?_
                refine WL.quiet (Runs.yes rfl rfl rfl hc19) rfl rfl (OV.quiet (ov_not rfl rfl)) ?_
                refine WL.quiet (Runs.yes rfl rfl rfl hc18) rfl rfl (OV.quiet (ov_pick_true rfl (guard_eq rfl hc19) rfl)) ?_
                exact WL.nil ⟨Sub.cons' rfl (congrArg Value.bool (Option.some.inj hm)) (Sub.skip rfl (Sub.skip rfl (Sub.skip rfl (Sub.skip rfl (Sub.skip rfl (Sub.refl _)))))), fun _ s => s⟩
              · skip
                replace hm := ite_f hc19 e6
                refine WL.idle (Idle.no rfl rfl rfl hc19) rfl rfl ?_
                refine WL.idle (Idle.no rfl rfl rfl hc19) rfl rfl ?_
                refine WL.idle (Idle.no rfl rfl rfl hc19) rfl rfl ?_
                refine WL.idle (Idle.no rfl rfl rfl hc19) rfl rfl ?_
                refine WL.quiet (Runs.yes rfl rfl rfl hc18) rfl rfl (OV.quiet (ov_pick_false rfl (guard_eq rfl hc19) rfl)) ?_
                exact WL.nil ⟨Sub.cons' rfl (congrArg Value.bool (Option.some.inj hm)) (Sub.skip rfl (Sub.skip rfl (Sub.skip rfl (Sub.skip rfl (Sub.skip rfl (Sub.refl _)))))), fun _ s => s⟩
            refine WL.quiet (Runs.free rfl) rfl rfl (OV.quiet (ov_pick_false rfl (guard_eq rfl hc18) rfl)) ?_
            exact WL.nil ⟨Sub.cons' rfl (congrArg Value.bool (Option.some.inj hm)) (Sub.skip rfl (Sub.skip rfl (Sub.skip rfl (Sub.skip rfl (Sub.skip rfl (Sub.refl _)))))), fun _ s => s⟩
        refine WL.quiet (Runs.free rfl) rfl rfl (OV.quiet (ov_move rfl rfl)) ?_
        refine WL.cut_bool 9 56 (x := (c4 || ((!c2) && (p_x.strokes != 0)))) ?_ ?_
        · rcases Bool.eq_false_or_eq_true c4 with hc20 | hc20
          · skip
            refine WL.idle (Idle.no rfl rfl rfl hc20) rfl rfl ?_
            refine WL.idle (Idle.no rfl rfl rfl hc20) rfl rfl ?_
            refine WL.idle (Idle.no rfl rfl rfl hc20) rfl rfl ?_
            refine WL.idle (Idle.no rfl rfl rfl hc20) rfl rfl ?_
            refine WL.idle (Idle.undef rfl rfl rfl) rfl rfl ?_
            refine WL.idle (Idle.undef rfl rfl rfl) rfl rfl ?_
            refine WL.idle (Idle.undef rfl rfl rfl) rfl rfl ?_
            refine WL.idle (Idle.no rfl rfl rfl hc20) rfl rfl ?_
            refine WL.quiet (Runs.free rfl) rfl rfl (OV.quiet (ov_pick_true rfl (guard_eq rfl hc20) rfl)) ?_
            exact WL.nil ⟨Sub.cons' rfl (congrArg Value.bool (by rw [hc20]; rfl)) (Sub.skip rfl (Sub.skip rfl (Sub.skip rfl (Sub.skip rfl (Sub.skip rfl (Sub.skip rfl (Sub.skip rfl (Sub.skip rfl (Sub.skip rfl (Sub.refl _)))))))))), fun _ s => s⟩
          · skip
            refine WL.quiet (Runs.yes rfl rfl rfl hc20) rfl rfl (OV.quiet (ov_fieldAddr Tryd.underlying87 rfl rfl rfl Tryd.sizeOf4 rfl rfl)) ?_
            refine WL.quiet (Runs.yes rfl rfl rfl hc20) rfl rfl (OV.quiet (ov_load_box (i := 0) Tryd.isAgg4 rfl rfl rfl rfl)) ?_
            refine WL.quiet (Runs.yes rfl rfl rfl hc20) rfl rfl (OV.quiet (ov_not rfl rfl)) ?_
            refine WL.quiet (Runs.yes rfl rfl rfl hc20) rfl rfl (OV.quiet (ov_move rfl rfl)) ?_
            refine WL.cut_bool 4 55 (x := ((!c2) && (p_x.strokes != 0))) ?_ ?_
            · rcases Bool.eq_false_or_eq_true (!c2) with hc21 | hc21
              · skip
                refine WL.quiet (Runs.yes rfl rfl rfl hc21) rfl rfl (OV.quiet (ov_fieldAddr Tryd.underlying26 rfl rfl rfl Tryd.sizeOf3 rfl rfl)) ?_
                refine WL.quiet (Runs.yes rfl rfl rfl hc21) rfl rfl (OV.quiet (ov_load_box (i := 1) Tryd.isAgg3 rfl rfl rfl rfl)) ?_
                refine WL.quiet (Runs.yes rfl rfl rfl hc21) rfl rfl (OV.quiet (ov_neq rfl rfl rfl)) ?_
                refine WL.quiet (Runs.yes rfl rfl rfl hc20) rfl rfl (OV.quiet (ov_pick_true rfl (guard_eq rfl hc21) rfl)) ?_
                exact WL.nil ⟨Sub.cons' rfl (congrArg Value.bool (by rw [hc21]; rfl)) (Sub.skip rfl (Sub.skip rfl (Sub.skip rfl (Sub.skip rfl (Sub.refl _))))), fun _ s => s⟩
              · skip
                refine WL.idle (Idle.no rfl rfl rfl hc21) rfl rfl ?_
                refine WL.idle (Idle.no rfl rfl rfl hc21) rfl rfl ?_
                refine WL.idle (Idle.no rfl rfl rfl hc21) rfl rfl ?_
                refine WL.quiet (Runs.yes rfl rfl rfl hc20) rfl rfl (OV.quiet (ov_pick_false rfl (guard_eq rfl hc21) rfl)) ?_
                exact WL.nil ⟨Sub.cons' rfl (congrArg Value.bool (by rw [hc21]; rfl)) (Sub.skip rfl (Sub.skip rfl (Sub.skip rfl (Sub.skip rfl (Sub.refl _))))), fun _ s => s⟩
            refine WL.quiet (Runs.free rfl) rfl rfl (OV.quiet (ov_pick_false rfl (guard_eq rfl hc20) rfl)) ?_
            exact WL.nil ⟨Sub.cons' rfl (congrArg Value.bool (by rw [hc20]; rfl)) (Sub.skip rfl (Sub.skip rfl (Sub.skip rfl (Sub.skip rfl (Sub.skip rfl (Sub.skip rfl (Sub.refl _))))))), fun _ s => s⟩
        refine WL.nil ?_
        refine then_normal ?_
        refine WP.cond rfl (fun hc22 => ?_) (fun hc22 => ?_)
        · replace hm := ite_t hc22 hm
          refine WP.seq ?_
          refine WP.region ?_
          refine WL.quiet (Runs.free rfl) rfl rfl (OV.quiet (ov_assign rfl rfl)) ?_
          refine WL.nil ?_
          refine then_normal ?_
          refine WP.ret ?_
          refine then_ret ?_
          obtain rfl := Option.some.inj hm
          refine retQ_ret Tryd.results15 (Res.tmp rfl Res.nil) rfl (fun w' s => ⟨s.below, ?_⟩)
          exact rfl
        · replace hm := ite_f hc22 hm
          refine WP.skip ?_
          refine then_normal ?_
          refine WP.seq ?_
          refine WP.region ?_
          refine WL.quiet (Runs.free rfl) rfl rfl (OV.quiet (ov_assign rfl rfl)) ?_
          refine WL.nil ?_
          refine then_normal ?_
          refine WP.ret ?_
          obtain rfl := Option.some.inj hm
          refine retQ_ret Tryd.results15 (Res.tmp rfl Res.nil) rfl (fun w' s => ⟨s.below, ?_⟩)
          exact rfl

theorem journal_find_con (p_m : Machine) (p_name : (List UInt8)) (ao1 : Option Addr) (cap1 : Nat) (w : World) (H : Heap) (hH : Le H (hp w)) (h1 : SL H encItem ao1 p_m.items) (hc1 : p_m.items.length ≤ cap1) (hG : Glob H) (r : (Int × Bool)) (hm : journal_find p_m p_name = some r) :
    Con Tryd.prog 45 [(.agg #[(.slice ao1 p_m.items.length cap1), (.int .i64 p_m.cycles)]), (mkS p_name)] w H (fun v _ => v = (.tuple #[(.int .i64 r.1), (.bool r.2)])) := by
  unfold journal_find at hm
  refine con_of hH Tryd.func45 rfl 12 Tryd.ntmps45 rfl ?_
  refine WP.seq ?_
  refine WP.region ?_
  refine WL.step (Runs.free rfl) rfl rfl (os_box (cs := [(.slice ao1 p_m.items.length cap1), (.int .i64 p_m.cycles)]) rfl rfl rfl (fun b1 => ?_))
  refine WL.quiet (Runs.free rfl) rfl rfl (OV.quiet (ov_assign rfl rfl)) ?_
  refine WL.quiet (Runs.free rfl) rfl rfl (OV.quiet (ov_assign rfl rfl)) ?_
  refine WL.nil ?_
  refine then_normal ?_
  refine WP.seq ?_
  refine WP.region ?_
  refine WL.quiet (Runs.free rfl) rfl rfl (OV.quiet (ov_fieldAddr Tryd.underlying24 rfl rfl rfl Tryd.sizeOf22 rfl rfl)) ?_
  refine WL.quiet (Runs.free rfl) rfl rfl (OV.quiet (ov_load_box (i := 0) Tryd.isAgg22 rfl rfl rfl rfl)) ?_
  refine WL.quiet (Runs.free rfl) rfl rfl (OV.quiet (ov_move rfl rfl)) ?_
  refine WL.step (Runs.free rfl) rfl rfl (os_inline (cap := []) (vs := [(.slice ao1 p_m.items.length cap1), (mkS p_name), (.func (.func 68) #[] #[])]) Tryd.call67 rfl rfl rfl Tryd.func67 rfl 49 Tryd.ntmps67 rfl (fun w' s => ?_))
  refine WP.seq ?_
  refine WP.region ?_
  refine WL.quiet (Runs.free rfl) rfl rfl (OV.quiet (ov_assign rfl rfl)) ?_
  refine WL.quiet (Runs.free rfl) rfl rfl (OV.quiet (ov_assign rfl rfl)) ?_
  refine WL.nil ?_
  refine then_normal ?_
  refine WP.seq ?_
  refine WP.region ?_
  refine WL.quiet (Runs.free rfl) rfl rfl (OV.quiet (ov_move rfl rfl)) ?_
  refine WL.quiet (Runs.free rfl) rfl rfl (OV.quiet (ov_len_slice Tryd.underlying22 rfl rfl)) ?_
  refine WL.quiet (Runs.free rfl) rfl rfl (OV.quiet (ov_assign rfl rfl)) ?_
  refine WL.nil ?_
  refine then_normal ?_
  refine WP.seq ?_
  refine WP.region ?_
  refine WL.quiet (Runs.free rfl) rfl rfl (OV.quiet (ov_move rfl rfl)) ?_
  refine WL.quiet (Runs.free rfl) rfl rfl (OV.quiet (ov_assign rfl rfl)) ?_
  refine WL.quiet (Runs.free rfl) rfl rfl (OV.quiet (ov_assign rfl rfl)) ?_
  refine WL.nil ?_
  refine then_normal ?_
  obtain ⟨k1, hk1, hm⟩ := joinK_some hm
  refine WP.seq_join (fun g' S' => ∃ (i3 : Int), Sub [(0, (.slice ao1 p_m.items.length cap1)), (1, (mkS p_name)), (2, (.func (.func 68) #[] #[])), (8, (.int .i64 (p_m.items.length : Int))), (9, (.int .i64 i3))] g' ∧ (∀ w', S' w' → St w H [.blk b1 24 [(.slice ao1 p_m.items.length cap1), (.int .i64 p_m.cycles)]] H w') ∧ k1 i3 = some r) ?_ ?_
  · skip
    refine WP.block ?_
    refine WP.loop (fun m1 g' S' => ∃ (i1 : Int) (i2 : Int), Sub [(0, (.slice ao1 p_m.items.length cap1)), (1, (mkS p_name)), (2, (.func (.func 68) #[] #[])), (8, (.int .i64 (p_m.items.length : Int))), (9, (.int .i64 i1)), (10, (.int .i64 i2))] g' ∧ (∀ w', S' w' → St w H [.blk b1 24 [(.slice ao1 p_m.items.length cap1), (.int .i64 p_m.cycles)]] H w') ∧ journal_find_loop1 p_m p_name k1 m1 i1 i2 = some r) ((p_m.items.length + 1)) ⟨0, (p_m.items.length : Int), (Sub.cons rfl (Sub.cons rfl (Sub.cons rfl (Sub.cons rfl (Sub.cons rfl (Sub.cons rfl (Sub.nil _))))))), fun w' s => s, hm⟩ ?_ ?_
    · rintro g' S' ⟨_, _, _, _, hm⟩
      exact none_some hm
    · rintro m1 g' S' ⟨i1, i2, hsub1, hS1, hm⟩
      refine WP.sub hsub1 (WP.weaken hS1 ?_)
      rw [journal_find_loop1] at hm
      refine WP.seq ?_
      refine WP.seq ?_
      refine WP.region ?_
      refine WL.quiet (Runs.free rfl) rfl rfl (OV.quiet (ov_move rfl rfl)) ?_
      refine WL.quiet (Runs.free rfl) rfl rfl (OV.quiet (ov_move rfl rfl)) ?_
      refine WL.quiet (Runs.free rfl) rfl rfl (OV.quiet (ov_lss rfl rfl rfl)) ?_
      refine WL.nil ?_
      refine then_normal ?_
      refine WP.cond rfl (fun hc2 => ?_) (fun hc2 => ?_)
      · replace hm := ite_t hc2 hm
        refine WP.skip ?_
        refine then_normal ?_
        refine WP.block ?_
        refine WP.seq ?_
        refine WP.region ?_
        refine WL.quiet (Runs.free rfl) rfl rfl (OV.quiet (ov_move rfl rfl)) ?_
        refine WL.quiet (Runs.free rfl) rfl rfl (OV.quiet (ov_move rfl rfl)) ?_
        refine WL.quiet (Runs.free rfl) rfl rfl (OV.quiet (ov_add rfl rfl rfl)) ?_
        refine WL.quiet (Runs.free rfl) rfl rfl (OV.quiet (ov_convert_int Tryd.underlying3 Tryd.underlying126 rfl rfl)) ?_
        refine WL.quiet (Runs.free rfl) rfl rfl (OV.quiet (ov_shr (by decide) (by decide) rfl rfl rfl)) ?_
        refine WL.quiet (Runs.free rfl) rfl rfl (OV.quiet (ov_convert_int Tryd.underlying126 Tryd.underlying3 rfl rfl)) ?_
        refine WL.quiet (Runs.free rfl) rfl rfl (OV.quiet (ov_assign rfl rfl)) ?_
        refine WL.nil ?_
        refine then_normal ?_
        refine WP.seq ?_
        refine WP.region ?_
        refine WL.quiet (Runs.free rfl) rfl rfl (OV.quiet (ov_move rfl rfl)) ?_
        refine WL.quiet (Runs.free rfl) rfl rfl (OV.quiet (ov_move rfl rfl)) ?_
        refine WL.quiet (Runs.free rfl) rfl rfl (OV.quiet (ov_move rfl rfl)) ?_
        obtain ⟨x1, e1, hm⟩ := bind_some hm
        obtain ⟨h2, h3, h4, cs1, h5, h6⟩ := h1.get e1 (by decide)
        obtain rfl : cs1 = [(mkS x1.name), (.int .i64 x1.life), (.int .i64 x1.used), (.int .i64 x1.faults), (.bool x1.faulty), (.int .i64 x1.since), (.int .i64 x1.cycles)] := h5
        refine WL.quiet (Runs.free rfl) rfl rfl (OV.quiet (ov_indexAddr Tryd.underlying22 Tryd.sizeOf79 rfl rfl rfl h2 h3 h4)) ?_
        refine WL.quiet (Runs.free rfl) rfl rfl (OV.quiet (ov_load_elems (vs := [(mkS x1.name), (.int .i64 x1.life), (.int .i64 x1.used), (.int .i64 x1.faults), (.bool x1.faulty), (.int .i64 x1.since), (.int .i64 x1.cycles)]) Tryd.isAgg79 Tryd.sizeOf79 rfl rfl rfl h6 h4)) ?_
        refine WL.quiet (Runs.free rfl) rfl rfl (OV.quiet (ov_move rfl rfl)) ?_
        refine WL.step (Runs.free rfl) rfl rfl (os_inline (cap := []) (vs := [(.agg #[(mkS x1.name), (.int .i64 x1.life), (.int .i64 x1.used), (.int .i64 x1.faults), (.bool x1.faulty), (.int .i64 x1.since), (.int .i64 x1.cycles)]), (mkS p_name)]) Tryd.call68 rfl rfl rfl Tryd.func68 rfl 9 Tryd.ntmps68 rfl (fun w' s => ?_))
        refine WP.seq ?_
        refine WP.region ?_
        refine WL.step (Runs.free rfl) rfl rfl (os_box (cs := [(mkS x1.name), (.int .i64 x1.life), (.int .i64 x1.used), (.int .i64 x1.faults), (.bool x1.faulty), (.int .i64 x1.since), (.int .i64 x1.cycles)]) rfl rfl rfl (fun b2 => ?_))
        refine WL.quiet (Runs.free rfl) rfl rfl (OV.quiet (ov_assign rfl rfl)) ?_
        refine WL.nil ?_
        refine then_normal ?_
        refine WP.seq ?_
        refine WP.region ?_
        refine WL.quiet (Runs.free rfl) rfl rfl (OV.quiet (ov_fieldAddr Tryd.underlying79 rfl rfl rfl Tryd.sizeOf9 rfl rfl)) ?_
        refine WL.quiet (Runs.free rfl) rfl rfl (OV.quiet (ov_load_box (i := 0) Tryd.isAgg9 rfl rfl rfl rfl)) ?_
        refine WL.quiet (Runs.free rfl) rfl rfl (OV.quiet (ov_move rfl rfl)) ?_
        obtain ⟨r1, e2, hm⟩ := bind_some hm
        refine WL.quiet (Runs.free rfl) rfl rfl (oq_con (r := (.int .i64 r1)) Tryd.call69 rfl rfl (fun w' s => ⟨_, (cmpS_con x1.name p_name  w' H s.hold hG r1 e2)⟩)) ?_
        refine WL.quiet (Runs.free rfl) rfl rfl (OV.quiet (ov_assign rfl rfl)) ?_
        refine WL.nil ?_
        refine then_normal ?_
        refine WP.ret ?_
        refine retQ_ret (v := (.int .i64 r1)) Tryd.results68 (Res.tmp rfl Res.nil) rfl (fun w' s => ⟨_, ?_, s⟩)
        refine WL.quiet (Runs.free rfl) rfl rfl (OV.quiet (ov_lss rfl rfl rfl)) ?_
        refine WL.nil ?_
        refine then_normal ?_
        refine WP.cond rfl (fun hc3 => ?_) (fun hc3 => ?_)
        · replace hm := ite_t hc3 hm
          refine WP.region ?_
          refine WL.quiet (Runs.free rfl) rfl rfl (OV.quiet (ov_move rfl rfl)) ?_
          refine WL.quiet (Runs.free rfl) rfl rfl (OV.quiet (ov_add rfl rfl rfl)) ?_
          refine WL.quiet (Runs.free rfl) rfl rfl (OV.quiet (ov_assign rfl rfl)) ?_
          refine WL.nil ?_
          refine block_normal ?_
          refine then_normal ?_
          exact ⟨(IntKind.wrap .i64 ((IntKind.wrap .i64 ((IntKind.wrap .u64 (IntKind.wrap .i64 (i1 + i2))) / 2 ^ 1)) + 1)), i2, (Sub.cons rfl (Sub.cons rfl (Sub.cons rfl (Sub.cons rfl (Sub.cons rfl (Sub.cons rfl (Sub.nil _))))))), fun w' s => (s.select [1] (by decide) rfl), hm⟩
        · replace hm := ite_f hc3 hm
          refine WP.region ?_
          refine WL.quiet (Runs.free rfl) rfl rfl (OV.quiet (ov_move rfl rfl)) ?_
          refine WL.quiet (Runs.free rfl) rfl rfl (OV.quiet (ov_assign rfl rfl)) ?_
          refine WL.nil ?_
          refine block_normal ?_
          refine then_normal ?_
          exact ⟨i1, (IntKind.wrap .i64 ((IntKind.wrap .u64 (IntKind.wrap .i64 (i1 + i2))) / 2 ^ 1)), (Sub.cons rfl (Sub.cons rfl (Sub.cons rfl (Sub.cons rfl (Sub.cons rfl (Sub.cons rfl (Sub.nil _))))))), fun w' s => (s.select [1] (by decide) rfl), hm⟩
      · replace hm := ite_f hc2 hm
        refine WP.exit ?_
        refine then_exit ?_
        refine then_exit ?_
        refine block_here ?_
        refine then_normal ?_
        exact ⟨i1, (Sub.cons rfl (Sub.cons rfl (Sub.cons rfl (Sub.cons rfl (Sub.cons rfl (Sub.nil _)))))), fun w' s => s, hm⟩
  · rintro g' S' ⟨i3, hsub2, hS2, hm⟩
    refine WP.sub hsub2 (WP.weaken hS2 ?_)
    replace hm := (congrFun hk1 i3).symm.trans hm
    refine WP.seq ?_
    refine WP.region ?_
    refine WL.quiet (Runs.free rfl) rfl rfl (OV.quiet (ov_move rfl rfl)) ?_
    refine WL.quiet (Runs.free rfl) rfl rfl (OV.quiet (ov_move rfl rfl)) ?_
    refine WL.quiet (Runs.free rfl) rfl rfl (OV.quiet (ov_move rfl rfl)) ?_
    refine WL.quiet (Runs.free rfl) rfl rfl (OV.quiet (ov_lss rfl rfl rfl)) ?_
    refine WL.quiet (Runs.free rfl) rfl rfl (OV.quiet (ov_move rfl rfl)) ?_
    obtain ⟨c1, e3, hm⟩ := bind_some hm
    refine WL.cut_bool 9 48 (x := c1) ?_ ?_
    · rcases Bool.eq_false_or_eq_true (decide (i3 < (p_m.items.length : Int))) with hc4 | hc4
      · skip
        replace hm := ite_t hc4 e3
        refine WL.quiet (Runs.yes rfl rfl rfl hc4) rfl rfl (OV.quiet (ov_move rfl rfl)) ?_
        refine WL.quiet (Runs.yes rfl rfl rfl hc4) rfl rfl (OV.quiet (ov_move rfl rfl)) ?_
        refine WL.quiet (Runs.yes rfl rfl rfl hc4) rfl rfl (OV.quiet (ov_move rfl rfl)) ?_
        obtain ⟨x2, e4, hm⟩ := bind_some hm
        obtain ⟨h7, h8, h9, cs2, h10, h11⟩ := h1.get e4 (by decide)
        obtain rfl : cs2 = [(mkS x2.name), (.int .i64 x2.life), (.int .i64 x2.used), (.int .i64 x2.faults), (.bool x2.faulty), (.int .i64 x2.since), (.int .i64 x2.cycles)] := h10
        refine WL.quiet (Runs.yes rfl rfl rfl hc4) rfl rfl (OV.quiet (ov_indexAddr Tryd.underlying22 Tryd.sizeOf79 rfl rfl rfl h7 h8 h9)) ?_
        refine WL.quiet (Runs.yes rfl rfl rfl hc4) rfl rfl (OV.quiet (ov_load_elems (vs := [(mkS x2.name), (.int .i64 x2.life), (.int .i64 x2.used), (.int .i64 x2.faults), (.bool x2.faulty), (.int .i64 x2.since), (.int .i64 x2.cycles)]) Tryd.isAgg79 Tryd.sizeOf79 rfl rfl rfl h11 h9)) ?_
        refine WL.quiet (Runs.yes rfl rfl rfl hc4) rfl rfl (OV.quiet (ov_move rfl rfl)) ?_
        refine WL.step (Runs.yes rfl rfl rfl hc4) rfl rfl (os_inline (cap := []) (vs := [(.agg #[(mkS x2.name), (.int .i64 x2.life), (.int .i64 x2.used), (.int .i64 x2.faults), (.bool x2.faulty), (.int .i64 x2.since), (.int .i64 x2.cycles)]), (mkS p_name)]) Tryd.call68 rfl rfl rfl Tryd.func68 rfl 9 Tryd.ntmps68 rfl (fun w' s => ?_))
        refine WP.seq ?_
        refine WP.region ?_
        refine WL.step (Runs.free rfl) rfl rfl (os_box (cs := [(mkS x2.name), (.int .i64 x2.life), (.int .i64 x2.used), (.int .i64 x2.faults), (.bool x2.faulty), (.int .i64 x2.since), (.int .i64 x2.cycles)]) rfl rfl rfl (fun b3 => ?_))
        refine WL.quiet (Runs.free rfl) rfl rfl (OV.quiet (ov_assign rfl rfl)) ?_
        refine WL.nil ?_
        refine then_normal ?_
        refine WP.seq ?_
        refine WP.region ?_
        refine WL.quiet (Runs.free rfl) rfl rfl (OV.quiet (ov_fieldAddr Tryd.underlying79 rfl rfl rfl Tryd.sizeOf9 rfl rfl)) ?_
        refine WL.quiet (Runs.free rfl) rfl rfl (OV.quiet (ov_load_box (i := 0) Tryd.isAgg9 rfl rfl rfl rfl)) ?_
        refine WL.quiet (Runs.free rfl) rfl rfl (OV.quiet (ov_move rfl rfl)) ?_
        obtain ⟨r2, e5, hm⟩ := bind_some hm
        refine WL.quiet (Runs.free rfl) rfl rfl (oq_con (r := (.int .i64 r2)) Tryd.call69 rfl rfl (fun w' s => ⟨_, (cmpS_con x2.name p_name  w' H s.hold hG r2 e5)⟩)) ?_
        refine WL.quiet (Runs.free rfl) rfl rfl (OV.quiet (ov_assign rfl rfl)) ?_
        refine WL.nil ?_
        refine then_normal ?_
        refine WP.ret ?_
        refine retQ_ret (v := (.int .i64 r2)) Tryd.results68 (Res.tmp rfl Res.nil) rfl (fun w' s => ⟨_, ?_, s⟩)
        refine WL.quiet (Runs.yes rfl rfl rfl hc4) rfl rfl (OV.quiet (ov_eql rfl rfl rfl)) ?_
        refine WL.quiet (Runs.free rfl) rfl rfl (OV.quiet (ov_pick_true rfl (guard_eq rfl hc4) rfl)) ?_
        exact WL.nil ⟨Sub.cons' rfl (congrArg Value.bool (Option.some.inj hm)) (Sub.skip rfl (Sub.skip rfl (Sub.skip rfl (Sub.skip rfl (Sub.skip rfl (Sub.skip rfl (Sub.skip rfl (Sub.skip rfl (Sub.skip rfl (Sub.refl _)))))))))), fun _ s => (s.select [1] (by decide) rfl)⟩
      · skip
        replace hm := ite_f hc4 e3
        refine WL.idle (Idle.no rfl rfl rfl hc4) rfl rfl ?_
        refine WL.idle (Idle.no rfl rfl rfl hc4) rfl rfl ?_
        refine WL.idle (Idle.no rfl rfl rfl hc4) rfl rfl ?_
        refine WL.idle (Idle.no rfl rfl rfl hc4) rfl rfl ?_
        refine WL.idle (Idle.no rfl rfl rfl hc4) rfl rfl ?_
        refine WL.idle (Idle.no rfl rfl rfl hc4) rfl rfl ?_
        refine WL.idle (Idle.no rfl rfl rfl hc4) rfl rfl ?_
        refine WL.idle (Idle.no rfl rfl rfl hc4) rfl rfl ?_
        refine WL.quiet (Runs.free rfl) rfl rfl (OV.quiet (ov_pick_false rfl (guard_eq rfl hc4) rfl)) ?_
        exact WL.nil ⟨Sub.cons' rfl (congrArg Value.bool (Option.some.inj hm)) (Sub.skip rfl (Sub.skip rfl (Sub.skip rfl (Sub.skip rfl (Sub.skip rfl (Sub.skip rfl (Sub.skip rfl (Sub.skip rfl (Sub.skip rfl (Sub.refl _)))))))))), fun _ s => s⟩
    refine WL.quiet (Runs.free rfl) rfl rfl (OV.quiet (ov_assign rfl rfl)) ?_
    refine WL.quiet (Runs.free rfl) rfl rfl (OV.quiet (ov_assign rfl rfl)) ?_
    refine WL.nil ?_
    refine then_normal ?_
    refine WP.ret ?_
    refine retQ_ret (v := (.tuple #[(.int .i64 i3), (.bool c1)])) Tryd.results67 (Res.tmp rfl (Res.tmp rfl Res.nil)) rfl (fun w' s => ⟨_, ?_, s⟩)
    refine WL.quiet (Runs.free rfl) rfl rfl (OV.quiet (ov_extract rfl rfl rfl)) ?_
    refine WL.quiet (Runs.free rfl) rfl rfl (OV.quiet (ov_extract rfl rfl rfl)) ?_
    refine WL.quiet (Runs.free rfl) rfl rfl (OV.quiet (ov_assign rfl rfl)) ?_
    refine WL.quiet (Runs.free rfl) rfl rfl (OV.quiet (ov_assign rfl rfl)) ?_
    refine WL.nil ?_
    refine then_normal ?_
    refine WP.ret ?_
    obtain rfl := Option.some.inj hm
    refine retQ_ret Tryd.results45 (Res.tmp rfl (Res.tmp rfl Res.nil)) rfl (fun w' s => ⟨s.below, ?_⟩)
    exact rfl

theorem journal_done_con (p_m : Machine) (p_x : Entry) (ao1 : Option Addr) (cap1 : Nat) (w : World) (H : Heap) (hH : Le H (hp w)) (h1 : SL H encItem ao1 p_m.items) (hc1 : p_m.items.length ≤ cap1) (hG : Glob H) (r : (Machine × Int)) (hm : journal_done p_m p_x = some r) :
    Con Tryd.prog 36 [(.agg #[(.slice ao1 p_m.items.length cap1), (.int .i64 p_m.cycles)]), (.agg #[(.int .i64 p_x.kind), (mkS p_x.name), (.int .i64 p_x.count), (.int .i64 p_x.strokes)])] w H (fun v H' => ∃ (ao2 : Option Addr) (cap2 : Nat), v = (.tuple #[(.agg #[(.slice ao2 r.1.items.length cap2), (.int .i64 r.1.cycles)]), (.int .i64 r.2)]) ∧ SL H' encItem ao2 r.1.items ∧ r.1.items.length ≤ cap2) := by
  unfold journal_done at hm
  refine con_of hH Tryd.func36 rfl 53 Tryd.ntmps36 rfl ?_
  refine WP.seq ?_
  refine WP.region ?_
  refine WL.step (Runs.free rfl) rfl rfl (os_box (cs := [(.slice ao1 p_m.items.length cap1), (.int .i64 p_m.cycles)]) rfl rfl rfl (fun b1 => ?_))
  refine WL.step (Runs.free rfl) rfl rfl (os_box (cs := [(.int .i64 p_x.kind), (mkS p_x.name), (.int .i64 p_x.count), (.int .i64 p_x.strokes)]) rfl rfl rfl (fun b2 => ?_))
  refine WL.step (Runs.free rfl) rfl rfl (os_alloc (cs := [(.slice none 0 0), (.int .i64 0)]) Tryd.zeroValue24 rfl rfl (fun b3 => ?_))
  refine WL.quiet (Runs.free rfl) rfl rfl (OV.quiet (ov_assign rfl rfl)) ?_
  refine WL.nil ?_
  refine then_normal ?_
  refine WP.seq ?_
  refine WP.region ?_
  refine WL.quiet (Runs.free rfl) rfl rfl (OV.quiet (ov_load_whole (i := 2) Tryd.isAgg24 Tryd.sizeOf24 rfl rfl rfl rfl)) ?_
  refine WL.quiet (Runs.free rfl) rfl rfl (OV.quiet (ov_fieldAddr Tryd.underlying26 rfl rfl rfl Tryd.sizeOf9 rfl rfl)) ?_
  refine WL.quiet (Runs.free rfl) rfl rfl (OV.quiet (ov_load_box (i := 1) Tryd.isAgg9 rfl rfl rfl rfl)) ?_
  obtain ⟨r1, e1, hm⟩ := bind_some hm
  refine WL.quiet (Runs.free rfl) rfl rfl (oq_con (r := (.tuple #[(.int .i64 r1.1), (.bool r1.2)])) Tryd.call45 rfl rfl (fun w' s => ⟨_, (journal_find_con p_m p_x.name ao1 cap1  w' H s.hold h1 hc1 hG r1 e1)⟩)) ?_
  refine WL.quiet (Runs.free rfl) rfl rfl (OV.quiet (ov_move rfl rfl)) ?_
  refine WL.quiet (Runs.free rfl) rfl rfl (OV.quiet (ov_extract rfl rfl rfl)) ?_
  refine WL.quiet (Runs.free rfl) rfl rfl (OV.quiet (ov_extract rfl rfl rfl)) ?_
  refine WL.quiet (Runs.free rfl) rfl rfl (OV.quiet (ov_assign rfl rfl)) ?_
  refine WL.quiet (Runs.free rfl) rfl rfl (OV.quiet (ov_assign rfl rfl)) ?_
  refine WL.nil ?_
  refine then_normal ?_
  refine WP.seq ?_
  refine WP.block ?_
  refine WP.seq ?_
  refine WP.region ?_
  refine WL.quiet (Runs.free rfl) rfl rfl (OV.quiet (ov_fieldAddr Tryd.underlying26 rfl rfl rfl Tryd.sizeOf3 rfl rfl)) ?_
  refine WL.quiet (Runs.free rfl) rfl rfl (OV.quiet (ov_load_box (i := 1) Tryd.isAgg3 rfl rfl rfl rfl)) ?_
  refine WL.quiet (Runs.free rfl) rfl rfl (OV.quiet (ov_eql rfl rfl rfl)) ?_
  refine WL.quiet (Runs.free rfl) rfl rfl (OV.quiet (ov_move rfl rfl)) ?_
  refine WL.cut_bool 2 23 (x := ((p_x.kind == 0) && r1.2)) ?_ ?_
  · rcases Bool.eq_false_or_eq_true (p_x.kind == 0) with hc3 | hc3
    · skip
      refine WL.quiet (Runs.yes rfl rfl rfl hc3) rfl rfl (OV.quiet (ov_move rfl rfl)) ?_
      refine WL.quiet (Runs.free rfl) rfl rfl (OV.quiet (ov_pick_true rfl (guard_eq rfl hc3) rfl)) ?_
      exact WL.nil ⟨Sub.cons' rfl (congrArg Value.bool (by rw [hc3]; rfl)) (Sub.skip rfl (Sub.skip rfl (Sub.refl _))), fun _ s => s⟩
    · skip
      refine WL.idle (Idle.no rfl rfl rfl hc3) rfl rfl ?_
      refine WL.quiet (Runs.free rfl) rfl rfl (OV.quiet (ov_pick_false rfl (guard_eq rfl hc3) rfl)) ?_
      exact WL.nil ⟨Sub.cons' rfl (congrArg Value.bool (by rw [hc3]; rfl)) (Sub.skip rfl (Sub.skip rfl (Sub.refl _))), fun _ s => s⟩
  refine WL.quiet (Runs.free rfl) rfl rfl (OV.quiet (ov_assign rfl rfl)) ?_
  refine WL.nil ?_
  refine then_normal ?_
  refine WP.cond rfl (fun hc4 => ?_) (fun hc4 => ?_)
  · replace hm := ite_t hc4 hm
    refine WP.seq ?_
    refine WP.region ?_
    refine WL.quiet (Runs.free rfl) rfl rfl (OV.quiet (ov_build (r := (.agg #[(.slice none 0 0), (.int .i64 0)])) rfl rfl (fun _ => by kernel_rfl))) ?_
    refine WL.step0 (Runs.free rfl) rfl (os_store (i := 0) (vs := [(.slice none 0 0), (.int .i64 0)]) (cs' := [(.slice none 0 0), (.int .i64 0)]) Tryd.sizeOf24 rfl rfl rfl rfl rfl rfl rfl rfl rfl ?_)
    refine WL.quiet (Runs.free rfl) rfl rfl (OV.quiet (ov_assign rfl rfl)) ?_
    refine WL.nil ?_
    refine then_normal ?_
    refine WP.ret ?_
    refine block_ret ?_
    refine then_ret ?_
    obtain rfl := Option.some.inj hm
    refine retQ_ret Tryd.results36 (Res.cell rfl (box_loads (i := 0) Tryd.isAgg24 Tryd.sizeOf24 rfl rfl) (Res.tmp rfl Res.nil)) rfl (fun w' s => ⟨s.below, ?_⟩)
    exact ⟨none, 0, rfl, SL.nil _ _ _, Nat.le_refl _⟩
  · replace hm := ite_f hc4 hm
    refine WP.seq ?_
    refine WP.region ?_
    refine WL.quiet (Runs.free rfl) rfl rfl (OV.quiet (ov_fieldAddr Tryd.underlying26 rfl rfl rfl Tryd.sizeOf3 rfl rfl)) ?_
    refine WL.quiet (Runs.free rfl) rfl rfl (OV.quiet (ov_load_box (i := 1) Tryd.isAgg3 rfl rfl rfl rfl)) ?_
    refine WL.quiet (Runs.free rfl) rfl rfl (OV.quiet (ov_neq rfl rfl rfl)) ?_
    refine WL.quiet (Runs.free rfl) rfl rfl (OV.quiet (ov_move rfl rfl)) ?_
    refine WL.cut_bool 3 32 (x := ((p_x.kind != 0) && (!r1.2))) ?_ ?_
    · rcases Bool.eq_false_or_eq_true (p_x.kind != 0) with hc5 | hc5
      · skip
        refine WL.quiet (Runs.yes rfl rfl rfl hc5) rfl rfl (OV.quiet (ov_move rfl rfl)) ?_
        refine WL.quiet (Runs.yes rfl rfl rfl hc5) rfl rfl (OV.quiet (ov_not rfl rfl)) ?_
        refine WL.quiet (Runs.free rfl) rfl rfl (OV.quiet (ov_pick_true rfl (guard_eq rfl hc5) rfl)) ?_
        exact WL.nil ⟨Sub.cons' rfl (congrArg Value.bool (by rw [hc5]; rfl)) (Sub.skip rfl (Sub.skip rfl (Sub.skip rfl (Sub.refl _)))), fun _ s => s⟩
      · skip
        refine WL.idle (Idle.no rfl rfl rfl hc5) rfl rfl ?_
        refine WL.idle (Idle.no rfl rfl rfl hc5) rfl rfl ?_
        refine WL.quiet (Runs.free rfl) rfl rfl (OV.quiet (ov_pick_false rfl (guard_eq rfl hc5) rfl)) ?_
        exact WL.nil ⟨Sub.cons' rfl (congrArg Value.bool (by rw [hc5]; rfl)) (Sub.skip rfl (Sub.skip rfl (Sub.skip rfl (Sub.refl _)))), fun _ s => s⟩
    refine WL.quiet (Runs.free rfl) rfl rfl (OV.quiet (ov_assign rfl rfl)) ?_
    refine WL.nil ?_
    refine then_normal ?_
    refine WP.cond rfl (fun hc6 => ?_) (fun hc6 => ?_)
    · replace hm := ite_t hc6 hm
      refine WP.seq ?_
      refine WP.region ?_
      refine WL.quiet (Runs.free rfl) rfl rfl (OV.quiet (ov_build (r := (.agg #[(.slice none 0 0), (.int .i64 0)])) rfl rfl (fun _ => by kernel_rfl))) ?_
      refine WL.step0 (Runs.free rfl) rfl (os_store (i := 0) (vs := [(.slice none 0 0), (.int .i64 0)]) (cs' := [(.slice none 0 0), (.int .i64 0)]) Tryd.sizeOf24 rfl rfl rfl rfl rfl rfl rfl rfl rfl ?_)
      refine WL.quiet (Runs.free rfl) rfl rfl (OV.quiet (ov_assign rfl rfl)) ?_
      refine WL.nil ?_
      refine then_normal ?_
      refine WP.ret ?_
      refine block_ret ?_
      refine then_ret ?_
      obtain rfl := Option.some.inj hm
      refine retQ_ret Tryd.results36 (Res.cell rfl (box_loads (i := 0) Tryd.isAgg24 Tryd.sizeOf24 rfl rfl) (Res.tmp rfl Res.nil)) rfl (fun w' s => ⟨s.below, ?_⟩)
      exact ⟨none, 0, rfl, SL.nil _ _ _, Nat.le_refl _⟩
    · replace hm := ite_f hc6 hm
      refine WP.skip ?_
      refine block_normal ?_
      refine then_normal ?_
      obtain ⟨k1, hk1, hm⟩ := joinK_some hm
      refine WP.seq_join (fun g' S' => ∃ (b6 : Nat) (l3 : (List Item)) (ao5 : Option Addr) (cap5 : Nat) (xs3 : List Value), RL H encItem l3 xs3 ∧ Sub [(3, (pB b2 0)), (4, (pB b3 0)), (6, (.int .i64 r1.1)), (8, (pB b6 0))] g' ∧ (∀ w', S' w' → St w H [.blk b6 24 [(.slice ao5 l3.length cap5), (.int .i64 p_m.cycles)], .row 79 (encItem).size l3.length (.slice ao5 l3.length cap5) xs3, .blk b3 24 [(.slice none 0 0), (.int .i64 0)], .blk b2 26 [(.int .i64 p_x.kind), (mkS p_x.name), (.int .i64 p_x.count), (.int .i64 p_x.strokes)]] H w') ∧ k1 l3 = some r) ?_ ?_
      · skip
        refine WP.region_any (S₀ := St w H [.blk b3 24 [(.slice none 0 0), (.int .i64 0)], .blk b2 26 [(.int .i64 p_x.kind), (mkS p_x.name), (.int .i64 p_x.count), (.int .i64 p_x.strokes)], .blk b1 24 [(.slice ao1 p_m.items.length cap1), (.int .i64 p_m.cycles)]] H) 8 rfl (by kernel_rfl) (fun w' s => s) (fun _ s => s.drew) ?_
        refine AL.take (i := 0) rfl (by kernel_rfl) (by kernel_rfl) (by kernel_rfl) (Runs.free rfl) rfl rfl (ov_fieldAddr Tryd.underlying24 rfl rfl rfl Tryd.sizeOf22 rfl rfl) ?_
        refine AL.take (i := 1) rfl (by kernel_rfl) (by kernel_rfl) (by kernel_rfl) (Runs.free rfl) rfl rfl (ov_load_box (i := 2) Tryd.isAgg22 rfl rfl rfl rfl) ?_
        refine AL.take (i := 3) rfl (by kernel_rfl) (by kernel_rfl) (by kernel_rfl) (Runs.free rfl) rfl rfl (ov_fieldAddr Tryd.underlying24 rfl rfl rfl Tryd.sizeOf3 rfl rfl) ?_
        refine AL.take (i := 4) rfl (by kernel_rfl) (by kernel_rfl) (by kernel_rfl) (Runs.free rfl) rfl rfl (ov_load_box (i := 2) Tryd.isAgg3 rfl rfl rfl rfl) ?_
        refine AL.any (rs := [2, 6]) (by kernel_rfl) (by decide) ?_
        refine ALs.cons (i := 2) rfl (Runs.free rfl) rfl rfl ?_ ?_
        · skip
          obtain ⟨l1, e2, hm⟩ := bind_some hm
          refine os_clone rfl rfl h1 hc1 e2 (fun ao3 cap3 xs1 rl1 => ?_)
          refine ⟨fun w' s => (s.select [1, 2, 3] (by decide) rfl), ?_⟩
          refine AL.take (i := 5) rfl (by kernel_rfl) (by kernel_rfl) (by kernel_rfl) (Runs.free rfl) rfl rfl (ov_build (r := (.agg #[(.slice ao3 p_m.items.length cap3), (.int .i64 p_m.cycles)])) rfl rfl (fun _ => by kernel_rfl)) ?_
          refine AL.any (rs := [6]) (by kernel_rfl) (by decide) ?_
          refine ALs.cons (i := 6) rfl (Runs.free rfl) rfl rfl ?_ ?_
          · skip
            refine os_alloc (cs := [(.slice none 0 0), (.int .i64 0)]) Tryd.zeroValue24 rfl rfl (fun b4 => ?_)
            refine ⟨fun w' s => (s.select [2, 3, 4] (by decide) rfl), ?_⟩
            refine AL.any (rs := [7]) (by kernel_rfl) (by decide) ?_
            refine ALs.cons0 (i := 7) rfl (Runs.free rfl) rfl ?_ ?_
            · skip
              refine os_store (i := 0) (vs := [(.slice ao3 p_m.items.length cap3), (.int .i64 p_m.cycles)]) (cs' := [(.slice ao3 p_m.items.length cap3), (.int .i64 p_m.cycles)]) Tryd.sizeOf24 rfl rfl rfl rfl rfl rfl rfl rfl rfl ?_
              refine ⟨fun w' s => (s.select [2, 3, 4] (by decide) rfl), ?_⟩
              refine AL.done (by kernel_rfl) ?_
              refine then_normal ?_
              exact ⟨b4, p_m.items, ao3, cap3, xs1, rl1, (Sub.cons rfl (Sub.cons rfl (Sub.cons rfl (Sub.cons rfl (Sub.nil _))))), fun w' s => (s.select [0, 1, 2, 3] (by decide) rfl), hm⟩
            exact ALs.nil
          exact ALs.nil
        refine ALs.cons (i := 6) rfl (Runs.free rfl) rfl rfl ?_ ?_
        · skip
          refine os_alloc (cs := [(.slice none 0 0), (.int .i64 0)]) Tryd.zeroValue24 rfl rfl (fun b5 => ?_)
          refine ⟨fun w' s => (s.select [1, 2, 3] (by decide) rfl), ?_⟩
          refine AL.any (rs := [2]) (by kernel_rfl) (by decide) ?_
          refine ALs.cons (i := 2) rfl (Runs.free rfl) rfl rfl ?_ ?_
          · skip
            obtain ⟨l2, e3, hm⟩ := bind_some hm
            refine os_clone rfl rfl h1 hc1 e3 (fun ao4 cap4 xs2 rl2 => ?_)
            refine ⟨fun w' s => (s.select [2, 3, 4] (by decide) rfl), ?_⟩
            refine AL.take (i := 5) rfl (by kernel_rfl) (by kernel_rfl) (by kernel_rfl) (Runs.free rfl) rfl rfl (ov_build (r := (.agg #[(.slice ao4 p_m.items.length cap4), (.int .i64 p_m.cycles)])) rfl rfl (fun _ => by kernel_rfl)) ?_
            refine AL.any (rs := [7]) (by kernel_rfl) (by decide) ?_
            refine ALs.cons0 (i := 7) rfl (Runs.free rfl) rfl ?_ ?_
            · skip
              refine os_store (i := 1) (vs := [(.slice ao4 p_m.items.length cap4), (.int .i64 p_m.cycles)]) (cs' := [(.slice ao4 p_m.items.length cap4), (.int .i64 p_m.cycles)]) Tryd.sizeOf24 rfl rfl rfl rfl rfl rfl rfl rfl rfl ?_
              refine ⟨fun w' s => (s.select [2, 3, 4] (by decide) rfl), ?_⟩
              refine AL.done (by kernel_rfl) ?_
              refine then_normal ?_
              exact ⟨b5, p_m.items, ao4, cap4, xs2, rl2, (Sub.cons rfl (Sub.cons rfl (Sub.cons rfl (Sub.cons rfl (Sub.nil _))))), fun w' s => (s.select [1, 0, 2, 3] (by decide) rfl), hm⟩
            exact ALs.nil
          exact ALs.nil
        exact ALs.nil
      · rintro g' S' ⟨b6, l3, ao5, cap5, xs3, rl3, hsub1, hS1, hm⟩
        refine WP.sub hsub1 (WP.weaken hS1 ?_)
        replace hm := (congrFun hk1 l3).symm.trans hm
        refine WP.seq ?_
        obtain ⟨k2, hk2, hm⟩ := joinK_some hm
        refine WP.seq_join (fun g' S' => ∃ (i1 : Int) (i2 : Int) (l10 : (List Item)) (ao12 : Option Addr) (cap12 : Nat) (xs6 : List Value), RL H encItem l10 xs6 ∧ Sub [(4, (pB b3 0)), (8, (pB b6 0)), (9, (.int .i64 i1))] g' ∧ (∀ w', S' w' → St w H [.blk b6 24 [(.slice ao12 l10.length cap12), (.int .i64 i2)], .row 79 (encItem).size l10.length (.slice ao12 l10.length cap12) xs6, .blk b3 24 [(.slice none 0 0), (.int .i64 0)]] H w') ∧ k2 i1 i2 l10 = some r) ?_ ?_
        · skip
          refine WP.region_any (S₀ := St w H [.blk b3 24 [(.slice none 0 0), (.int .i64 0)], .blk b2 26 [(.int .i64 p_x.kind), (mkS p_x.name), (.int .i64 p_x.count), (.int .i64 p_x.strokes)]] H) 9 rfl (by kernel_rfl) (fun w' s => (s.select [2, 3] (by decide) rfl)) (fun _ s => s.drew) ?_
          refine AL.take (i := 1) rfl (by kernel_rfl) (by kernel_rfl) (by kernel_rfl) (Runs.free rfl) rfl rfl (ov_fieldAddr Tryd.underlying26 rfl rfl rfl Tryd.sizeOf3 rfl rfl) ?_
          refine AL.take (i := 2) rfl (by kernel_rfl) (by kernel_rfl) (by kernel_rfl) (Runs.free rfl) rfl rfl (ov_load_box (i := 1) Tryd.isAgg3 rfl rfl rfl rfl) ?_
          refine AL.take (i := 5) rfl (by kernel_rfl) (by kernel_rfl) (by kernel_rfl) (Runs.free rfl) rfl rfl (ov_move rfl rfl) ?_
          refine AL.take (i := 6) rfl (by kernel_rfl) (by kernel_rfl) (by kernel_rfl) (Runs.free rfl) rfl rfl (ov_load_whole (i := 1) Tryd.isAgg26 Tryd.sizeOf26 rfl rfl rfl rfl) ?_
          refine AL.any (rs := [0]) (by kernel_rfl) (by decide) ?_
          refine ALs.cons (i := 0) rfl (Runs.free rfl) rfl rfl ?_ ?_
          · skip
            refine os_inline (cap := []) (vs := []) Tryd.call43 rfl rfl rfl Tryd.func43 rfl 8 Tryd.ntmps43 rfl (fun w' s => ?_)
            refine WP.seq ?_
            refine WP.region ?_
            refine WL.step (Runs.free rfl) rfl rfl (os_alloc (cs := [(mkS []), (.bool false), (.bool false), .nilFunc, (mkS []), (.bool false), (.bool false), .nilFunc, (mkS []), (.bool false), (.bool false), .nilFunc, (mkS []), (.bool false), (.bool false), .nilFunc, (mkS []), (.bool false), (.bool false), .nilFunc, (mkS []), (.bool false), (.bool false), .nilFunc]) Tryd.zeroValue88 rfl rfl (fun b7 => ?_))
            refine WL.nil ?_
            refine then_normal ?_
            refine WP.seq ?_
            refine WP.region ?_
            refine WL.quiet (Runs.free rfl) rfl rfl (OV.quiet (ov_build (r := (.agg #[(mkS [112, 97, 114, 116]), (.bool true), (.bool false), (.func (.func 61) #[] #[])])) rfl rfl (fun _ => by kernel_rfl))) ?_
            refine WL.quiet (Runs.free rfl) rfl rfl (OV.quiet (ov_build (r := (.agg #[(mkS [99, 121, 99, 108, 101, 115]), (.bool true), (.bool true), (.func (.func 62) #[] #[])])) rfl rfl (fun _ => by kernel_rfl))) ?_
            refine WL.quiet (Runs.free rfl) rfl rfl (OV.quiet (ov_build (r := (.agg #[(mkS [102, 97, 117, 108, 116]), (.bool false), (.bool false), (.func (.func 63) #[] #[])])) rfl rfl (fun _ => by kernel_rfl))) ?_
            refine WL.quiet (Runs.free rfl) rfl rfl (OV.quiet (ov_build (r := (.agg #[(mkS [114, 101, 112, 97, 105, 114]), (.bool false), (.bool false), (.func (.func 64) #[] #[])])) rfl rfl (fun _ => by kernel_rfl))) ?_
            refine WL.quiet (Runs.free rfl) rfl rfl (OV.quiet (ov_build (r := (.agg #[(mkS [114, 101, 112, 108, 97, 99, 101]), (.bool true), (.bool false), (.func (.func 65) #[] #[])])) rfl rfl (fun _ => by kernel_rfl))) ?_
            refine WL.quiet (Runs.free rfl) rfl rfl (OV.quiet (ov_build (r := (.agg #[(mkS [114, 101, 109, 111, 118, 101]), (.bool false), (.bool false), (.func (.func 66) #[] #[])])) rfl rfl (fun _ => by kernel_rfl))) ?_
            refine WL.quiet (Runs.free rfl) rfl rfl (OV.quiet (ov_build (r := (.agg #[(mkS [112, 97, 114, 116]), (.bool true), (.bool false), (.func (.func 61) #[] #[]), (mkS [99, 121, 99, 108, 101, 115]), (.bool true), (.bool true), (.func (.func 62) #[] #[]), (mkS [102, 97, 117, 108, 116]), (.bool false), (.bool false), (.func (.func 63) #[] #[]), (mkS [114, 101, 112, 97, 105, 114]), (.bool false), (.bool false), (.func (.func 64) #[] #[]), (mkS [114, 101, 112, 108, 97, 99, 101]), (.bool true), (.bool false), (.func (.func 65) #[] #[]), (mkS [114, 101, 109, 111, 118, 101]), (.bool false), (.bool false), (.func (.func 66) #[] #[])])) rfl rfl (fun _ => by kernel_rfl))) ?_
            refine WL.step0 (Runs.free rfl) rfl (os_store (i := 0) (vs := [(mkS [112, 97, 114, 116]), (.bool true), (.bool false), (.func (.func 61) #[] #[]), (mkS [99, 121, 99, 108, 101, 115]), (.bool true), (.bool true), (.func (.func 62) #[] #[]), (mkS [102, 97, 117, 108, 116]), (.bool false), (.bool false), (.func (.func 63) #[] #[]), (mkS [114, 101, 112, 97, 105, 114]), (.bool false), (.bool false), (.func (.func 64) #[] #[]), (mkS [114, 101, 112, 108, 97, 99, 101]), (.bool true), (.bool false), (.func (.func 65) #[] #[]), (mkS [114, 101, 109, 111, 118, 101]), (.bool false), (.bool false), (.func (.func 66) #[] #[])]) (cs' := [(mkS [112, 97, 114, 116]), (.bool true), (.bool false), (.func (.func 61) #[] #[]), (mkS [99, 121, 99, 108, 101, 115]), (.bool true), (.bool true), (.func (.func 62) #[] #[]), (mkS [102, 97, 117, 108, 116]), (.bool false), (.bool false), (.func (.func 63) #[] #[]), (mkS [114, 101, 112, 97, 105, 114]), (.bool false), (.bool false), (.func (.func 64) #[] #[]), (mkS [114, 101, 112, 108, 97, 99, 101]), (.bool true), (.bool false), (.func (.func 65) #[] #[]), (mkS [114, 101, 109, 111, 118, 101]), (.bool false), (.bool false), (.func (.func 66) #[] #[])]) Tryd.sizeOf88 rfl rfl rfl rfl rfl rfl rfl rfl rfl ?_)
            refine WL.nil ?_
            refine then_normal ?_
            refine WP.ret ?_
            refine retQ_ret (v := (.agg #[(mkS [112, 97, 114, 116]), (.bool true), (.bool false), (.func (.func 61) #[] #[]), (mkS [99, 121, 99, 108, 101, 115]), (.bool true), (.bool true), (.func (.func 62) #[] #[]), (mkS [102, 97, 117, 108, 116]), (.bool false), (.bool false), (.func (.func 63) #[] #[]), (mkS [114, 101, 112, 97, 105, 114]), (.bool false), (.bool false), (.func (.func 64) #[] #[]), (mkS [114, 101, 112, 108, 97, 99, 101]), (.bool true), (.bool false), (.func (.func 65) #[] #[]), (mkS [114, 101, 109, 111, 118, 101]), (.bool false), (.bool false), (.func (.func 66) #[] #[])])) Tryd.results43 (Res.cell rfl (box_loads (i := 0) Tryd.isAgg88 Tryd.sizeOf88 rfl rfl) Res.nil) rfl (fun w' s => ⟨_, ?_, s⟩)
            refine ⟨fun w' s => (s.select [3, 4] (by decide) rfl), ?_⟩
            rcases Bool.eq_false_or_eq_true (p_x.kind == 0) with hc7 | hc7
            · replace hm := ite_t hc7 hm
              refine AL.take (i := 3) rfl (by kernel_rfl) (by kernel_rfl) (by kernel_rfl) (Runs.free rfl) rfl rfl (ov_index_at (j := 0) (cs := [(mkS [112, 97, 114, 116]), (.bool true), (.bool false), (.func (.func 61) #[] #[]), (mkS [99, 121, 99, 108, 101, 115]), (.bool true), (.bool true), (.func (.func 62) #[] #[]), (mkS [102, 97, 117, 108, 116]), (.bool false), (.bool false), (.func (.func 63) #[] #[]), (mkS [114, 101, 112, 97, 105, 114]), (.bool false), (.bool false), (.func (.func 64) #[] #[]), (mkS [114, 101, 112, 108, 97, 99, 101]), (.bool true), (.bool false), (.func (.func 65) #[] #[]), (mkS [114, 101, 109, 111, 118, 101]), (.bool false), (.bool false), (.func (.func 66) #[] #[])]) (r := (.agg #[(mkS [112, 97, 114, 116]), (.bool true), (.bool false), (.func (.func 61) #[] #[])])) (eq_of_beq hc7) rfl rfl rfl (fun _ => by kernel_rfl)) ?_
              refine AL.take (i := 4) rfl (by kernel_rfl) (by kernel_rfl) (by kernel_rfl) (Runs.free rfl) rfl rfl (ov_field (cs := [(mkS [112, 97, 114, 116]), (.bool true), (.bool false), (.func (.func 61) #[] #[])]) (r := (.func (.func 61) #[] #[])) rfl rfl (fun _ => by kernel_rfl)) ?_
              refine AL.any (rs := [7]) (by kernel_rfl) (by decide) ?_
              refine ALs.cons (i := 7) rfl (Runs.free rfl) rfl rfl ?_ ?_
              · skip
                refine os_inline (cap := []) (vs := [(pB b6 0), (.int .i64 r1.1), (.agg #[(.int .i64 p_x.kind), (mkS p_x.name), (.int .i64 p_x.count), (.int .i64 p_x.strokes)])]) Tryd.call61 rfl rfl rfl Tryd.func61 rfl 26 Tryd.ntmps61 rfl (fun w' s => ?_)
                refine WP.seq ?_
                refine WP.region ?_
                refine WL.step (Runs.free rfl) rfl rfl (os_box (cs := [(.int .i64 p_x.kind), (mkS p_x.name), (.int .i64 p_x.count), (.int .i64 p_x.strokes)]) rfl rfl rfl (fun b8 => ?_))
                refine WL.quiet (Runs.free rfl) rfl rfl (OV.quiet (ov_assign rfl rfl)) ?_
                refine WL.nil ?_
                refine then_normal ?_
                refine WP.seq ?_
                refine WP.seq ?_
                refine WP.region ?_
                refine WL.quiet (Runs.free rfl) rfl rfl (OV.quiet (ov_move rfl rfl)) ?_
                refine WL.quiet (Runs.free rfl) rfl rfl (OV.quiet (ov_nilCheckB rfl rfl)) ?_
                refine WL.quiet (Runs.free rfl) rfl rfl (OV.quiet (ov_fieldAddr Tryd.underlying24 rfl rfl rfl Tryd.sizeOf22 rfl rfl)) ?_
                refine WL.quiet (Runs.free rfl) rfl rfl (OV.quiet (ov_load_box (i := 2) Tryd.isAgg22 rfl rfl rfl rfl)) ?_
                refine WL.quiet (Runs.free rfl) rfl rfl (OV.quiet (ov_len_slice Tryd.underlying22 rfl rfl)) ?_
                refine WL.quiet (Runs.free rfl) rfl rfl (OV.quiet (ov_eql rfl rfl rfl)) ?_
                refine WL.nil ?_
                refine then_normal ?_
                refine WP.cond rfl (fun hc8 => ?_) (fun hc8 => ?_)
                · replace hm := ite_t hc8 hm
                  refine WP.seq ?_
                  refine WP.region ?_
                  refine WL.quiet (Runs.free rfl) rfl rfl (OV.quiet (ov_assign rfl rfl)) ?_
                  refine WL.nil ?_
                  refine then_normal ?_
                  refine WP.ret ?_
                  refine then_ret ?_
                  refine retQ_ret (v := (.int .i64 5)) Tryd.results61 (Res.tmp rfl Res.nil) rfl (fun w' s => ⟨_, ?_, s⟩)
                  refine ⟨fun w' s => (s.select [4, 5] (by decide) rfl), ?_⟩
                  refine AL.take (i := 8) rfl (by kernel_rfl) (by kernel_rfl) (by kernel_rfl) (Runs.free rfl) rfl rfl (ov_assign rfl rfl) ?_
                  refine AL.done (by kernel_rfl) ?_
                  refine then_normal ?_
                  exact ⟨5, p_m.cycles, l3, ao5, cap5, xs3, rl3, (Sub.cons rfl (Sub.cons rfl (Sub.cons rfl (Sub.nil _)))), fun w' s => (s.select [2, 3, 4] (by decide) rfl), hm⟩
                · replace hm := ite_f hc8 hm
                  refine WP.skip ?_
                  refine then_normal ?_
                  obtain ⟨k3, hk3, hm⟩ := joinK_some hm
                  refine WP.seq_join (fun g' S' => ∃ (l7 : (List Item)) (ao9 : Option Addr) (cap9 : Nat) (xs4 : List Value), RL H encItem l7 xs4 ∧ Sub [] g' ∧ (∀ w', S' w' → St w H [.blk b6 24 [(.slice ao9 l7.length cap9), (.int .i64 p_m.cycles)], .row 79 (encItem).size l7.length (.slice ao9 l7.length cap9) xs4, .blk b3 24 [(.slice none 0 0), (.int .i64 0)], .blk b2 26 [(.int .i64 p_x.kind), (mkS p_x.name), (.int .i64 p_x.count), (.int .i64 p_x.strokes)]] H w') ∧ k3 l7 = some r) ?_ ?_
                  · skip
                    refine WP.region_any (S₀ := St w H [.blk b8 26 [(.int .i64 p_x.kind), (mkS p_x.name), (.int .i64 p_x.count), (.int .i64 p_x.strokes)], .blk b7 88 [(mkS [112, 97, 114, 116]), (.bool true), (.bool false), (.func (.func 61) #[] #[]), (mkS [99, 121, 99, 108, 101, 115]), (.bool true), (.bool true), (.func (.func 62) #[] #[]), (mkS [102, 97, 117, 108, 116]), (.bool false), (.bool false), (.func (.func 63) #[] #[]), (mkS [114, 101, 112, 97, 105, 114]), (.bool false), (.bool false), (.func (.func 64) #[] #[]), (mkS [114, 101, 112, 108, 97, 99, 101]), (.bool true), (.bool false), (.func (.func 65) #[] #[]), (mkS [114, 101, 109, 111, 118, 101]), (.bool false), (.bool false), (.func (.func 66) #[] #[])], .blk b3 24 [(.slice none 0 0), (.int .i64 0)], .blk b2 26 [(.int .i64 p_x.kind), (mkS p_x.name), (.int .i64 p_x.count), (.int .i64 p_x.strokes)]] H) 14 rfl (by kernel_rfl) (fun w' s => (s.select [0, 1, 4, 5] (by decide) rfl)) (fun _ s => s.drew) ?_
                    refine AL.take (i := 0) rfl (by kernel_rfl) (by kernel_rfl) (by kernel_rfl) (Runs.free rfl) rfl rfl (ov_move rfl rfl) ?_
                    refine AL.take (i := 1) rfl (by kernel_rfl) (by kernel_rfl) (by kernel_rfl) (Runs.free rfl) rfl rfl (ov_move rfl rfl) ?_
                    refine AL.take (i := 2) rfl (by kernel_rfl) (by kernel_rfl) (by kernel_rfl) (Runs.free rfl) rfl rfl (ov_nilCheckB rfl rfl) ?_
                    refine AL.take (i := 3) rfl (by kernel_rfl) (by kernel_rfl) (by kernel_rfl) (Runs.free rfl) rfl rfl (ov_fieldAddr Tryd.underlying24 rfl rfl rfl Tryd.sizeOf22 rfl rfl) ?_
                    refine AL.take (i := 5) rfl (by kernel_rfl) (by kernel_rfl) (by kernel_rfl) (Runs.free rfl) rfl rfl (ov_move rfl rfl) ?_
                    refine AL.take (i := 6) rfl (by kernel_rfl) (by kernel_rfl) (by kernel_rfl) (Runs.free rfl) rfl rfl (ov_move rfl rfl) ?_
                    refine AL.take (i := 7) rfl (by kernel_rfl) (by kernel_rfl) (by kernel_rfl) (Runs.free rfl) rfl rfl (ov_load_whole (i := 0) Tryd.isAgg26 Tryd.sizeOf26 rfl rfl rfl rfl) ?_
                    refine AL.any (rs := [4, 8]) (by kernel_rfl) (by decide) ?_
                    refine ALs.cons (i := 4) rfl (Runs.free rfl) rfl rfl ?_ ?_
                    · skip
                      refine OQ.step (OV.quiet (ov_load_box (i := 2) Tryd.isAgg22 rfl rfl rfl rfl)) ?_
                      refine ⟨fun w' s => (s.select [0, 1, 4, 5] (by decide) rfl), ?_⟩
                      refine AL.any (rs := [8]) (by kernel_rfl) (by decide) ?_
                      refine ALs.cons (i := 8) rfl (Runs.free rfl) rfl rfl ?_ ?_
                      · skip
                        refine os_inline (cap := []) (vs := [(pB b6 0), (.agg #[(.int .i64 p_x.kind), (mkS p_x.name), (.int .i64 p_x.count), (.int .i64 p_x.strokes)])]) Tryd.call77 rfl rfl rfl Tryd.func77 rfl 14 Tryd.ntmps77 rfl (fun w' s => ?_)
                        refine WP.seq ?_
                        refine WP.region ?_
                        refine WL.step (Runs.free rfl) rfl rfl (os_box (cs := [(.int .i64 p_x.kind), (mkS p_x.name), (.int .i64 p_x.count), (.int .i64 p_x.strokes)]) rfl rfl rfl (fun b9 => ?_))
                        refine WL.step (Runs.free rfl) rfl rfl (os_alloc (cs := [(mkS []), (.int .i64 0), (.int .i64 0), (.int .i64 0), (.bool false), (.int .i64 0), (.int .i64 0)]) Tryd.zeroValue79 rfl rfl (fun b10 => ?_))
                        refine WL.nil ?_
                        refine then_normal ?_
                        refine WP.seq ?_
                        refine WP.region_any (S₀ := St w H [.blk b9 26 [(.int .i64 p_x.kind), (mkS p_x.name), (.int .i64 p_x.count), (.int .i64 p_x.strokes)], .blk b8 26 [(.int .i64 p_x.kind), (mkS p_x.name), (.int .i64 p_x.count), (.int .i64 p_x.strokes)], .blk b7 88 [(mkS [112, 97, 114, 116]), (.bool true), (.bool false), (.func (.func 61) #[] #[]), (mkS [99, 121, 99, 108, 101, 115]), (.bool true), (.bool true), (.func (.func 62) #[] #[]), (mkS [102, 97, 117, 108, 116]), (.bool false), (.bool false), (.func (.func 63) #[] #[]), (mkS [114, 101, 112, 97, 105, 114]), (.bool false), (.bool false), (.func (.func 64) #[] #[]), (mkS [114, 101, 112, 108, 97, 99, 101]), (.bool true), (.bool false), (.func (.func 65) #[] #[]), (mkS [114, 101, 109, 111, 118, 101]), (.bool false), (.bool false), (.func (.func 66) #[] #[])], .blk b6 24 [(.slice ao5 l3.length cap5), (.int .i64 p_m.cycles)], .row 79 (encItem).size l3.length (.slice ao5 l3.length cap5) xs3, .blk b3 24 [(.slice none 0 0), (.int .i64 0)], .blk b2 26 [(.int .i64 p_x.kind), (mkS p_x.name), (.int .i64 p_x.count), (.int .i64 p_x.strokes)]] H) 10 rfl (by kernel_rfl) (fun w' s => (s.select [1, 2, 3, 4, 5, 6, 7] (by decide) rfl)) (fun _ s => s.drew) ?_
                        refine AL.take (i := 0) rfl (by kernel_rfl) (by kernel_rfl) (by kernel_rfl) (Runs.free rfl) rfl rfl (ov_fieldAddr Tryd.underlying26 rfl rfl rfl Tryd.sizeOf9 rfl rfl) ?_
                        refine AL.take (i := 1) rfl (by kernel_rfl) (by kernel_rfl) (by kernel_rfl) (Runs.free rfl) rfl rfl (ov_load_box (i := 0) Tryd.isAgg9 rfl rfl rfl rfl) ?_
                        refine AL.take (i := 2) rfl (by kernel_rfl) (by kernel_rfl) (by kernel_rfl) (Runs.free rfl) rfl rfl (ov_fieldAddr Tryd.underlying26 rfl rfl rfl Tryd.sizeOf3 rfl rfl) ?_
                        refine AL.take (i := 3) rfl (by kernel_rfl) (by kernel_rfl) (by kernel_rfl) (Runs.free rfl) rfl rfl (ov_load_box (i := 0) Tryd.isAgg3 rfl rfl rfl rfl) ?_
                        refine AL.take (i := 4) rfl (by kernel_rfl) (by kernel_rfl) (by kernel_rfl) (Runs.free rfl) rfl rfl (ov_move rfl rfl) ?_
                        refine AL.take (i := 5) rfl (by kernel_rfl) (by kernel_rfl) (by kernel_rfl) (Runs.free rfl) rfl rfl (ov_nilCheckB rfl rfl) ?_
                        refine AL.take (i := 6) rfl (by kernel_rfl) (by kernel_rfl) (by kernel_rfl) (Runs.free rfl) rfl rfl (ov_fieldAddr Tryd.underlying24 rfl rfl rfl Tryd.sizeOf3 rfl rfl) ?_
                        refine AL.take (i := 7) rfl (by kernel_rfl) (by kernel_rfl) (by kernel_rfl) (Runs.free rfl) rfl rfl (ov_load_box (i := 3) Tryd.isAgg3 rfl rfl rfl rfl) ?_
                        refine AL.take (i := 8) rfl (by kernel_rfl) (by kernel_rfl) (by kernel_rfl) (Runs.free rfl) rfl rfl (ov_build (r := (.agg #[(mkS p_x.name), (.int .i64 p_x.count), (.int .i64 0), (.int .i64 0), (.bool false), (.int .i64 p_m.cycles), (.int .i64 0)])) rfl rfl (fun _ => by kernel_rfl)) ?_
                        refine AL.any (rs := [9]) (by kernel_rfl) (by decide) ?_
                        refine ALs.cons0 (i := 9) rfl (Runs.free rfl) rfl ?_ ?_
                        · skip
                          refine os_store (i := 0) (vs := [(mkS p_x.name), (.int .i64 p_x.count), (.int .i64 0), (.int .i64 0), (.bool false), (.int .i64 p_m.cycles), (.int .i64 0)]) (cs' := [(mkS p_x.name), (.int .i64 p_x.count), (.int .i64 0), (.int .i64 0), (.bool false), (.int .i64 p_m.cycles), (.int .i64 0)]) Tryd.sizeOf79 rfl rfl rfl rfl rfl rfl rfl rfl rfl ?_
                          refine ⟨fun w' s => (s.select [1, 2, 3, 4, 5, 6, 7] (by decide) rfl), ?_⟩
                          refine AL.done (by kernel_rfl) ?_
                          refine then_normal ?_
                          refine WP.ret ?_
                          refine retQ_ret (v := (.agg #[(mkS p_x.name), (.int .i64 p_x.count), (.int .i64 0), (.int .i64 0), (.bool false), (.int .i64 p_m.cycles), (.int .i64 0)])) Tryd.results77 (Res.cell rfl (box_loads (i := 0) Tryd.isAgg79 Tryd.sizeOf79 rfl rfl) Res.nil) rfl (fun w' s => ⟨_, ?_, s⟩)
                          refine ⟨fun w' s => (s.select [2, 3, 6, 7] (by decide) rfl), ?_⟩
                          refine AL.any (rs := [9]) (by kernel_rfl) (by decide) ?_
                          refine ALs.cons (i := 9) rfl (Runs.free rfl) rfl rfl ?_ ?_
                          · skip
                            have rl4 : RL H encItem ([(Item.mk p_x.name p_x.count 0 0 false p_m.cycles 0)] : List Item) [(mkS p_x.name), (.int .i64 p_x.count), (.int .i64 0), (.int .i64 0), (.bool false), (.int .i64 p_m.cycles), (.int .i64 0)] := RL.cons (cs := [(mkS p_x.name), (.int .i64 p_x.count), (.int .i64 0), (.int .i64 0), (.bool false), (.int .i64 p_m.cycles), (.int .i64 0)]) (xs := []) rfl (RL.nil _ _)
                            refine os_buildSlice (cs := [(mkS p_x.name), (.int .i64 p_x.count), (.int .i64 0), (.int .i64 0), (.bool false), (.int .i64 p_m.cycles), (.int .i64 0)]) (E := 79) (sz := 7) rfl rfl (fun _ => by kernel_rfl) rfl (by decide) (fun b11 => ?_)
                            refine ⟨fun w' s => (s.select [3, 4, 7, 8] (by decide) rfl), ?_⟩
                            refine AL.any (rs := [10]) (by kernel_rfl) (by decide) ?_
                            refine ALs.cons (i := 10) rfl (Runs.free rfl) rfl rfl ?_ ?_
                            · skip
                              obtain ⟨l4, e4, hm⟩ := bind_some hm
                              refine os_insert (i := 6) (k := 0) (by decide) rfl rfl rfl rfl rfl rfl rl3 rl4 (Nat.zero_lt_succ _) e4 (fun ao6 cap6 ys1 rl5 => ?_)
                              refine ⟨fun w' s => (s.select [3, 4, 7, 8] (by decide) rfl), ?_⟩
                              refine AL.take (i := 11) rfl (by kernel_rfl) (by kernel_rfl) (by kernel_rfl) (Runs.free rfl) rfl rfl (ov_nilCheckB rfl rfl) ?_
                              refine AL.take (i := 12) rfl (by kernel_rfl) (by kernel_rfl) (by kernel_rfl) (Runs.free rfl) rfl rfl (ov_fieldAddr Tryd.underlying24 rfl rfl rfl Tryd.sizeOf22 rfl rfl) ?_
                              refine AL.any (rs := [13]) (by kernel_rfl) (by decide) ?_
                              refine ALs.cons0 (i := 13) rfl (Runs.free rfl) rfl ?_ ?_
                              · skip
                                refine os_store (i := 5) (vs := [(.slice ao6 l4.length cap6)]) (cs' := [(.slice ao6 l4.length cap6), (.int .i64 p_m.cycles)]) Tryd.sizeOf22 rfl rfl rfl rfl rfl rfl rfl rfl rfl ?_
                                refine ⟨fun w' s => (s.select [3, 4, 7, 8] (by decide) rfl), ?_⟩
                                refine AL.done (by kernel_rfl) ?_
                                refine then_normal ?_
                                exact ⟨l4, ao6, cap6, ys1, rl5, (Sub.nil _), fun w' s => (s.select [5, 6, 7, 8] (by decide) rfl), hm⟩
                              exact ALs.nil
                            exact ALs.nil
                          exact ALs.nil
                        exact ALs.nil
                      exact ALs.nil
                    refine ALs.cons (i := 8) rfl (Runs.free rfl) rfl rfl ?_ ?_
                    · skip
                      refine os_inline (cap := []) (vs := [(pB b6 0), (.agg #[(.int .i64 p_x.kind), (mkS p_x.name), (.int .i64 p_x.count), (.int .i64 p_x.strokes)])]) Tryd.call77 rfl rfl rfl Tryd.func77 rfl 14 Tryd.ntmps77 rfl (fun w' s => ?_)
                      refine WP.seq ?_
                      refine WP.region ?_
                      refine WL.step (Runs.free rfl) rfl rfl (os_box (cs := [(.int .i64 p_x.kind), (mkS p_x.name), (.int .i64 p_x.count), (.int .i64 p_x.strokes)]) rfl rfl rfl (fun b12 => ?_))
                      refine WL.step (Runs.free rfl) rfl rfl (os_alloc (cs := [(mkS []), (.int .i64 0), (.int .i64 0), (.int .i64 0), (.bool false), (.int .i64 0), (.int .i64 0)]) Tryd.zeroValue79 rfl rfl (fun b13 => ?_))
                      refine WL.nil ?_
                      refine then_normal ?_
                      refine WP.seq ?_
                      refine WP.region_any (S₀ := St w H [.blk b12 26 [(.int .i64 p_x.kind), (mkS p_x.name), (.int .i64 p_x.count), (.int .i64 p_x.strokes)], .blk b8 26 [(.int .i64 p_x.kind), (mkS p_x.name), (.int .i64 p_x.count), (.int .i64 p_x.strokes)], .blk b7 88 [(mkS [112, 97, 114, 116]), (.bool true), (.bool false), (.func (.func 61) #[] #[]), (mkS [99, 121, 99, 108, 101, 115]), (.bool true), (.bool true), (.func (.func 62) #[] #[]), (mkS [102, 97, 117, 108, 116]), (.bool false), (.bool false), (.func (.func 63) #[] #[]), (mkS [114, 101, 112, 97, 105, 114]), (.bool false), (.bool false), (.func (.func 64) #[] #[]), (mkS [114, 101, 112, 108, 97, 99, 101]), (.bool true), (.bool false), (.func (.func 65) #[] #[]), (mkS [114, 101, 109, 111, 118, 101]), (.bool false), (.bool false), (.func (.func 66) #[] #[])], .blk b6 24 [(.slice ao5 l3.length cap5), (.int .i64 p_m.cycles)], .row 79 (encItem).size l3.length (.slice ao5 l3.length cap5) xs3, .blk b3 24 [(.slice none 0 0), (.int .i64 0)], .blk b2 26 [(.int .i64 p_x.kind), (mkS p_x.name), (.int .i64 p_x.count), (.int .i64 p_x.strokes)]] H) 10 rfl (by kernel_rfl) (fun w' s => (s.select [1, 2, 3, 4, 5, 6, 7] (by decide) rfl)) (fun _ s => s.drew) ?_
                      refine AL.take (i := 0) rfl (by kernel_rfl) (by kernel_rfl) (by kernel_rfl) (Runs.free rfl) rfl rfl (ov_fieldAddr Tryd.underlying26 rfl rfl rfl Tryd.sizeOf9 rfl rfl) ?_
                      refine AL.take (i := 1) rfl (by kernel_rfl) (by kernel_rfl) (by kernel_rfl) (Runs.free rfl) rfl rfl (ov_load_box (i := 0) Tryd.isAgg9 rfl rfl rfl rfl) ?_
                      refine AL.take (i := 2) rfl (by kernel_rfl) (by kernel_rfl) (by kernel_rfl) (Runs.free rfl) rfl rfl (ov_fieldAddr Tryd.underlying26 rfl rfl rfl Tryd.sizeOf3 rfl rfl) ?_
                      refine AL.take (i := 3) rfl (by kernel_rfl) (by kernel_rfl) (by kernel_rfl) (Runs.free rfl) rfl rfl (ov_load_box (i := 0) Tryd.isAgg3 rfl rfl rfl rfl) ?_
                      refine AL.take (i := 4) rfl (by kernel_rfl) (by kernel_rfl) (by kernel_rfl) (Runs.free rfl) rfl rfl (ov_move rfl rfl) ?_
                      refine AL.take (i := 5) rfl (by kernel_rfl) (by kernel_rfl) (by kernel_rfl) (Runs.free rfl) rfl rfl (ov_nilCheckB rfl rfl) ?_
                      refine AL.take (i := 6) rfl (by kernel_rfl) (by kernel_rfl) (by kernel_rfl) (Runs.free rfl) rfl rfl (ov_fieldAddr Tryd.underlying24 rfl rfl rfl Tryd.sizeOf3 rfl rfl) ?_
                      refine AL.take (i := 7) rfl (by kernel_rfl) (by kernel_rfl) (by kernel_rfl) (Runs.free rfl) rfl rfl (ov_load_box (i := 3) Tryd.isAgg3 rfl rfl rfl rfl) ?_
                      refine AL.take (i := 8) rfl (by kernel_rfl) (by kernel_rfl) (by kernel_rfl) (Runs.free rfl) rfl rfl (ov_build (r := (.agg #[(mkS p_x.name), (.int .i64 p_x.count), (.int .i64 0), (.int .i64 0), (.bool false), (.int .i64 p_m.cycles), (.int .i64 0)])) rfl rfl (fun _ => by kernel_rfl)) ?_
                      refine AL.any (rs := [9]) (by kernel_rfl) (by decide) ?_
                      refine ALs.cons0 (i := 9) rfl (Runs.free rfl) rfl ?_ ?_
                      · skip
                        refine os_store (i := 0) (vs := [(mkS p_x.name), (.int .i64 p_x.count), (.int .i64 0), (.int .i64 0), (.bool false), (.int .i64 p_m.cycles), (.int .i64 0)]) (cs' := [(mkS p_x.name), (.int .i64 p_x.count), (.int .i64 0), (.int .i64 0), (.bool false), (.int .i64 p_m.cycles), (.int .i64 0)]) Tryd.sizeOf79 rfl rfl rfl rfl rfl rfl rfl rfl rfl ?_
                        refine ⟨fun w' s => (s.select [1, 2, 3, 4, 5, 6, 7] (by decide) rfl), ?_⟩
                        refine AL.done (by kernel_rfl) ?_
                        refine then_normal ?_
                        refine WP.ret ?_
                        refine retQ_ret (v := (.agg #[(mkS p_x.name), (.int .i64 p_x.count), (.int .i64 0), (.int .i64 0), (.bool false), (.int .i64 p_m.cycles), (.int .i64 0)])) Tryd.results77 (Res.cell rfl (box_loads (i := 0) Tryd.isAgg79 Tryd.sizeOf79 rfl rfl) Res.nil) rfl (fun w' s => ⟨_, ?_, s⟩)
                        refine ⟨fun w' s => (s.select [2, 3, 6, 7] (by decide) rfl), ?_⟩
                        refine AL.any (rs := [4, 9]) (by kernel_rfl) (by decide) ?_
                        refine ALs.cons (i := 4) rfl (Runs.free rfl) rfl rfl ?_ ?_
                        · skip
                          refine OQ.step (OV.quiet (ov_load_box (i := 4) Tryd.isAgg22 rfl rfl rfl rfl)) ?_
                          refine ⟨fun w' s => (s.select [2, 3, 6, 7] (by decide) rfl), ?_⟩
                          refine AL.any (rs := [9]) (by kernel_rfl) (by decide) ?_
                          refine ALs.cons (i := 9) rfl (Runs.free rfl) rfl rfl ?_ ?_
                          · skip
                            have rl6 : RL H encItem ([(Item.mk p_x.name p_x.count 0 0 false p_m.cycles 0)] : List Item) [(mkS p_x.name), (.int .i64 p_x.count), (.int .i64 0), (.int .i64 0), (.bool false), (.int .i64 p_m.cycles), (.int .i64 0)] := RL.cons (cs := [(mkS p_x.name), (.int .i64 p_x.count), (.int .i64 0), (.int .i64 0), (.bool false), (.int .i64 p_m.cycles), (.int .i64 0)]) (xs := []) rfl (RL.nil _ _)
                            refine os_buildSlice (cs := [(mkS p_x.name), (.int .i64 p_x.count), (.int .i64 0), (.int .i64 0), (.bool false), (.int .i64 p_m.cycles), (.int .i64 0)]) (E := 79) (sz := 7) rfl rfl (fun _ => by kernel_rfl) rfl (by decide) (fun b14 => ?_)
                            refine ⟨fun w' s => (s.select [3, 4, 7, 8] (by decide) rfl), ?_⟩
                            refine AL.any (rs := [10]) (by kernel_rfl) (by decide) ?_
                            refine ALs.cons (i := 10) rfl (Runs.free rfl) rfl rfl ?_ ?_
                            · skip
                              obtain ⟨l5, e5, hm⟩ := bind_some hm
                              refine os_insert (i := 6) (k := 0) (by decide) rfl rfl rfl rfl rfl rfl rl3 rl6 (Nat.zero_lt_succ _) e5 (fun ao7 cap7 ys2 rl7 => ?_)
                              refine ⟨fun w' s => (s.select [3, 4, 7, 8] (by decide) rfl), ?_⟩
                              refine AL.take (i := 11) rfl (by kernel_rfl) (by kernel_rfl) (by kernel_rfl) (Runs.free rfl) rfl rfl (ov_nilCheckB rfl rfl) ?_
                              refine AL.take (i := 12) rfl (by kernel_rfl) (by kernel_rfl) (by kernel_rfl) (Runs.free rfl) rfl rfl (ov_fieldAddr Tryd.underlying24 rfl rfl rfl Tryd.sizeOf22 rfl rfl) ?_
                              refine AL.any (rs := [13]) (by kernel_rfl) (by decide) ?_
                              refine ALs.cons0 (i := 13) rfl (Runs.free rfl) rfl ?_ ?_
                              · skip
                                refine os_store (i := 5) (vs := [(.slice ao7 l5.length cap7)]) (cs' := [(.slice ao7 l5.length cap7), (.int .i64 p_m.cycles)]) Tryd.sizeOf22 rfl rfl rfl rfl rfl rfl rfl rfl rfl ?_
                                refine ⟨fun w' s => (s.select [3, 4, 7, 8] (by decide) rfl), ?_⟩
                                refine AL.done (by kernel_rfl) ?_
                                refine then_normal ?_
                                exact ⟨l5, ao7, cap7, ys2, rl7, (Sub.nil _), fun w' s => (s.select [5, 6, 7, 8] (by decide) rfl), hm⟩
                              exact ALs.nil
                            exact ALs.nil
                          exact ALs.nil
                        refine ALs.cons (i := 9) rfl (Runs.free rfl) rfl rfl ?_ ?_
                        · skip
                          have rl8 : RL H encItem ([(Item.mk p_x.name p_x.count 0 0 false p_m.cycles 0)] : List Item) [(mkS p_x.name), (.int .i64 p_x.count), (.int .i64 0), (.int .i64 0), (.bool false), (.int .i64 p_m.cycles), (.int .i64 0)] := RL.cons (cs := [(mkS p_x.name), (.int .i64 p_x.count), (.int .i64 0), (.int .i64 0), (.bool false), (.int .i64 p_m.cycles), (.int .i64 0)]) (xs := []) rfl (RL.nil _ _)
                          refine os_buildSlice (cs := [(mkS p_x.name), (.int .i64 p_x.count), (.int .i64 0), (.int .i64 0), (.bool false), (.int .i64 p_m.cycles), (.int .i64 0)]) (E := 79) (sz := 7) rfl rfl (fun _ => by kernel_rfl) rfl (by decide) (fun b15 => ?_)
                          refine ⟨fun w' s => (s.select [3, 4, 7, 8] (by decide) rfl), ?_⟩
                          refine AL.any (rs := [4]) (by kernel_rfl) (by decide) ?_
                          refine ALs.cons (i := 4) rfl (Runs.free rfl) rfl rfl ?_ ?_
                          · skip
                            refine OQ.step (OV.quiet (ov_load_box (i := 5) Tryd.isAgg22 rfl rfl rfl rfl)) ?_
                            refine ⟨fun w' s => (s.select [3, 4, 7, 8] (by decide) rfl), ?_⟩
                            refine AL.any (rs := [10]) (by kernel_rfl) (by decide) ?_
                            refine ALs.cons (i := 10) rfl (Runs.free rfl) rfl rfl ?_ ?_
                            · skip
                              obtain ⟨l6, e6, hm⟩ := bind_some hm
                              refine os_insert (i := 6) (k := 0) (by decide) rfl rfl rfl rfl rfl rfl rl3 rl8 (Nat.zero_lt_succ _) e6 (fun ao8 cap8 ys3 rl9 => ?_)
                              refine ⟨fun w' s => (s.select [3, 4, 7, 8] (by decide) rfl), ?_⟩
                              refine AL.take (i := 11) rfl (by kernel_rfl) (by kernel_rfl) (by kernel_rfl) (Runs.free rfl) rfl rfl (ov_nilCheckB rfl rfl) ?_
                              refine AL.take (i := 12) rfl (by kernel_rfl) (by kernel_rfl) (by kernel_rfl) (Runs.free rfl) rfl rfl (ov_fieldAddr Tryd.underlying24 rfl rfl rfl Tryd.sizeOf22 rfl rfl) ?_
                              refine AL.any (rs := [13]) (by kernel_rfl) (by decide) ?_
                              refine ALs.cons0 (i := 13) rfl (Runs.free rfl) rfl ?_ ?_
                              · skip
                                refine os_store (i := 5) (vs := [(.slice ao8 l6.length cap8)]) (cs' := [(.slice ao8 l6.length cap8), (.int .i64 p_m.cycles)]) Tryd.sizeOf22 rfl rfl rfl rfl rfl rfl rfl rfl rfl ?_
                                refine ⟨fun w' s => (s.select [3, 4, 7, 8] (by decide) rfl), ?_⟩
                                refine AL.done (by kernel_rfl) ?_
                                refine then_normal ?_
                                exact ⟨l6, ao8, cap8, ys3, rl9, (Sub.nil _), fun w' s => (s.select [5, 6, 7, 8] (by decide) rfl), hm⟩
                              exact ALs.nil
                            exact ALs.nil
                          exact ALs.nil
                        exact ALs.nil
                      exact ALs.nil
                    exact ALs.nil
                  · rintro g' S' ⟨l7, ao9, cap9, xs4, rl10, hsub2, hS2, hm⟩
                    refine WP.sub hsub2 (WP.weaken hS2 ?_)
                    replace hm := (congrFun hk3 l7).symm.trans hm
                    refine WP.seq ?_
                    refine WP.region ?_
                    refine WL.quiet (Runs.free rfl) rfl rfl (OV.quiet (ov_assign rfl rfl)) ?_
                    refine WL.nil ?_
                    refine then_normal ?_
                    refine WP.ret ?_
                    refine retQ_ret (v := (.int .i64 0)) Tryd.results61 (Res.tmp rfl Res.nil) rfl (fun w' s => ⟨_, ?_, s⟩)
                    refine ⟨fun w' s => (s.select [2, 3] (by decide) rfl), ?_⟩
                    refine AL.take (i := 8) rfl (by kernel_rfl) (by kernel_rfl) (by kernel_rfl) (Runs.free rfl) rfl rfl (ov_assign rfl rfl) ?_
                    refine AL.done (by kernel_rfl) ?_
                    refine then_normal ?_
                    exact ⟨0, p_m.cycles, l7, ao9, cap9, xs4, rl10, (Sub.cons rfl (Sub.cons rfl (Sub.cons rfl (Sub.nil _)))), fun w' s => (s.select [0, 1, 2] (by decide) rfl), hm⟩
              exact ALs.nil
            · replace hm := ite_f hc7 hm
              rcases Bool.eq_false_or_eq_true (p_x.kind == 1) with hc9 | hc9
              · replace hm := ite_t hc9 hm
                refine AL.take (i := 3) rfl (by kernel_rfl) (by kernel_rfl) (by kernel_rfl) (Runs.free rfl) rfl rfl (ov_index_at (j := 1) (cs := [(mkS [112, 97, 114, 116]), (.bool true), (.bool false), (.func (.func 61) #[] #[]), (mkS [99, 121, 99, 108, 101, 115]), (.bool true), (.bool true), (.func (.func 62) #[] #[]), (mkS [102, 97, 117, 108, 116]), (.bool false), (.bool false), (.func (.func 63) #[] #[]), (mkS [114, 101, 112, 97, 105, 114]), (.bool false), (.bool false), (.func (.func 64) #[] #[]), (mkS [114, 101, 112, 108, 97, 99, 101]), (.bool true), (.bool false), (.func (.func 65) #[] #[]), (mkS [114, 101, 109, 111, 118, 101]), (.bool false), (.bool false), (.func (.func 66) #[] #[])]) (r := (.agg #[(mkS [99, 121, 99, 108, 101, 115]), (.bool true), (.bool true), (.func (.func 62) #[] #[])])) (eq_of_beq hc9) rfl rfl rfl (fun _ => by kernel_rfl)) ?_
                refine AL.take (i := 4) rfl (by kernel_rfl) (by kernel_rfl) (by kernel_rfl) (Runs.free rfl) rfl rfl (ov_field (cs := [(mkS [99, 121, 99, 108, 101, 115]), (.bool true), (.bool true), (.func (.func 62) #[] #[])]) (r := (.func (.func 62) #[] #[])) rfl rfl (fun _ => by kernel_rfl)) ?_
                refine AL.any (rs := [7]) (by kernel_rfl) (by decide) ?_
                refine ALs.cons (i := 7) rfl (Runs.free rfl) rfl rfl ?_ ?_
                · skip
                  refine os_inline (cap := []) (vs := [(pB b6 0), (.int .i64 r1.1), (.agg #[(.int .i64 p_x.kind), (mkS p_x.name), (.int .i64 p_x.count), (.int .i64 p_x.strokes)])]) Tryd.call62 rfl rfl rfl Tryd.func62 rfl 66 Tryd.ntmps62 rfl (fun w' s => ?_)
                  refine WP.seq ?_
                  refine WP.region ?_
                  refine WL.step (Runs.free rfl) rfl rfl (os_box (cs := [(.int .i64 p_x.kind), (mkS p_x.name), (.int .i64 p_x.count), (.int .i64 p_x.strokes)]) rfl rfl rfl (fun b16 => ?_))
                  refine WL.quiet (Runs.free rfl) rfl rfl (OV.quiet (ov_assign rfl rfl)) ?_
                  refine WL.nil ?_
                  refine then_normal ?_
                  refine WP.seq ?_
                  refine WP.region ?_
                  refine WL.quiet (Runs.free rfl) rfl rfl (OV.quiet (ov_move rfl rfl)) ?_
                  refine WL.quiet (Runs.free rfl) rfl rfl (OV.quiet (ov_nilCheckB rfl rfl)) ?_
                  refine WL.quiet (Runs.free rfl) rfl rfl (OV.quiet (ov_fieldAddr Tryd.underlying24 rfl rfl rfl Tryd.sizeOf22 rfl rfl)) ?_
                  refine WL.quiet (Runs.free rfl) rfl rfl (OV.quiet (ov_load_box (i := 2) Tryd.isAgg22 rfl rfl rfl rfl)) ?_
                  refine WL.quiet (Runs.free rfl) rfl rfl (OV.quiet (ov_move rfl rfl)) ?_
                  obtain ⟨x1, e7, hm⟩ := bind_some hm
                  obtain ⟨h3, h4, h5, cs1, h6, h7⟩ := RL.get rl3 e7
                  obtain rfl : cs1 = [(mkS x1.name), (.int .i64 x1.life), (.int .i64 x1.used), (.int .i64 x1.faults), (.bool x1.faulty), (.int .i64 x1.since), (.int .i64 x1.cycles)] := h6
                  refine WL.quiet (Runs.free rfl) rfl rfl (OV.quiet (ov_indexAddr_own (i := 3) Tryd.underlying22 Tryd.sizeOf79 rfl rfl rfl rfl h3 h4)) ?_
                  refine WL.quiet (Runs.free rfl) rfl rfl (OV.quiet (ov_assign rfl rfl)) ?_
                  refine WL.nil ?_
                  refine then_normal ?_
                  refine WP.seq ?_
                  refine WP.region_draws (by kernel_rfl) (by kernel_rfl) (fun _ s => s.drew) ?_
                  refine QL.quiet (Runs.free rfl) rfl rfl (OV.quiet (ov_move rfl rfl)) ?_
                  refine QL.quiet (Runs.free rfl) rfl rfl (OV.quiet (ov_nilCheckE rfl rfl)) ?_
                  refine QL.quiet (Runs.free rfl) rfl rfl (OV.quiet (ov_fieldAddrE Tryd.underlying79 rfl rfl rfl Tryd.sizeOf3 rfl rfl)) ?_
                  refine QL.quiet (Runs.free rfl) rfl rfl (OV.quiet (ov_load_own (i := 3) Tryd.isAgg3 rfl rfl rfl (own_pos h3 h4) (elem_cell h7 (off := 2) rfl))) ?_
                  refine QL.quiet (Runs.free rfl) rfl rfl (OV.quiet (ov_fieldAddr Tryd.underlying26 rfl rfl rfl Tryd.sizeOf3 rfl rfl)) ?_
                  refine QL.quiet (Runs.free rfl) rfl rfl (OV.quiet (ov_load_box (i := 0) Tryd.isAgg3 rfl rfl rfl rfl)) ?_
                  refine QL.quiet (Runs.free rfl) rfl rfl (OV.quiet (ov_fieldAddr Tryd.underlying26 rfl rfl rfl Tryd.sizeOf3 rfl rfl)) ?_
                  refine QL.quiet (Runs.free rfl) rfl rfl (OV.quiet (ov_load_box (i := 0) Tryd.isAgg3 rfl rfl rfl rfl)) ?_
                  refine QL.quiet (Runs.free rfl) rfl rfl (OV.quiet (ov_mul rfl rfl rfl)) ?_
                  refine QL.quiet (Runs.free rfl) rfl rfl (OV.quiet (ov_add rfl rfl rfl)) ?_
                  refine QL.quiet (Runs.free rfl) rfl rfl (OV.quiet (ov_assign rfl rfl)) ?_
                  refine QL.nil ?_
                  refine then_normal ?_
                  refine WP.seq ?_
                  refine WP.block ?_
                  refine WP.seq ?_
                  refine WP.region ?_
                  refine WL.quiet (Runs.free rfl) rfl rfl (OV.quiet (ov_move rfl rfl)) ?_
                  refine WL.quiet (Runs.free rfl) rfl rfl (OV.quiet (ov_nilCheckE rfl rfl)) ?_
                  refine WL.quiet (Runs.free rfl) rfl rfl (OV.quiet (ov_fieldAddrE Tryd.underlying79 rfl rfl rfl Tryd.sizeOf4 rfl rfl)) ?_
                  refine WL.quiet (Runs.free rfl) rfl rfl (OV.quiet (ov_load_own (i := 3) Tryd.isAgg4 rfl rfl rfl (own_pos h3 h4) (elem_cell h7 (off := 4) rfl))) ?_
                  refine WL.quiet (Runs.free rfl) rfl rfl (OV.quiet (ov_assign rfl rfl)) ?_
                  refine WL.nil ?_
                  refine then_normal ?_
                  refine WP.cond rfl (fun hc10 => ?_) (fun hc10 => ?_)
                  · replace hm := ite_t hc10 hm
                    refine WP.seq ?_
                    refine WP.region ?_
                    refine WL.quiet (Runs.free rfl) rfl rfl (OV.quiet (ov_assign rfl rfl)) ?_
                    refine WL.nil ?_
                    refine then_normal ?_
                    refine WP.ret ?_
                    refine block_ret ?_
                    refine then_ret ?_
                    refine retQ_ret (v := (.int .i64 14)) Tryd.results62 (Res.tmp rfl Res.nil) rfl (fun w' s => ⟨_, ?_, s⟩)
                    refine ⟨fun w' s => (s.select [4, 5] (by decide) rfl), ?_⟩
                    refine AL.take (i := 8) rfl (by kernel_rfl) (by kernel_rfl) (by kernel_rfl) (Runs.free rfl) rfl rfl (ov_assign rfl rfl) ?_
                    refine AL.done (by kernel_rfl) ?_
                    refine then_normal ?_
                    exact ⟨14, p_m.cycles, l3, ao5, cap5, xs3, rl3, (Sub.cons rfl (Sub.cons rfl (Sub.cons rfl (Sub.nil _)))), fun w' s => (s.select [2, 3, 4] (by decide) rfl), hm⟩
                  · replace hm := ite_f hc10 hm
                    refine WP.seq ?_
                    refine WP.region_draws (by kernel_rfl) (by kernel_rfl) (fun _ s => s.drew) ?_
                    refine QL.quiet (Runs.free rfl) rfl rfl (OV.quiet (ov_move rfl rfl)) ?_
                    refine QL.quiet (Runs.free rfl) rfl rfl (OV.quiet (ov_nilCheckB rfl rfl)) ?_
                    refine QL.quiet (Runs.free rfl) rfl rfl (OV.quiet (ov_fieldAddr Tryd.underlying24 rfl rfl rfl Tryd.sizeOf3 rfl rfl)) ?_
                    refine QL.quiet (Runs.free rfl) rfl rfl (OV.quiet (ov_load_box (i := 2) Tryd.isAgg3 rfl rfl rfl rfl)) ?_
                    refine QL.quiet (Runs.free rfl) rfl rfl (OV.quiet (ov_fieldAddr Tryd.underlying26 rfl rfl rfl Tryd.sizeOf3 rfl rfl)) ?_
                    refine QL.quiet (Runs.free rfl) rfl rfl (OV.quiet (ov_load_box (i := 0) Tryd.isAgg3 rfl rfl rfl rfl)) ?_
                    refine QL.quiet (Runs.free rfl) rfl rfl (OV.quiet (ov_add rfl rfl rfl)) ?_
                    refine QL.quiet (Runs.free rfl) rfl rfl (OV.quiet (ov_gtr rfl rfl rfl)) ?_
                    refine QL.quiet (Runs.free rfl) rfl rfl (OV.quiet (ov_move rfl rfl)) ?_
                    refine QL.part_bool 3 42 (x := ((decide ((IntKind.wrap .i64 (p_m.cycles + p_x.count)) > 1048576)) || (decide ((IntKind.wrap .i64 (x1.used + (IntKind.wrap .i64 (p_x.count * p_x.strokes)))) > 1048576)))) ?_ ?_
                    · rcases Bool.eq_false_or_eq_true (decide ((IntKind.wrap .i64 (p_m.cycles + p_x.count)) > 1048576)) with hc11 | hc11
                      · skip
                        refine QL.idle (Idle.no rfl rfl rfl hc11) rfl rfl ?_
                        refine QL.idle (Idle.no rfl rfl rfl hc11) rfl rfl ?_
                        refine QL.quiet (Runs.free rfl) rfl rfl (OV.quiet (ov_pick_true rfl (guard_eq rfl hc11) rfl)) ?_
                        exact QL.nil (Sub.cons' rfl (congrArg Value.bool (by rw [hc11]; rfl)) (Sub.skip rfl (Sub.skip rfl (Sub.skip rfl (Sub.refl _)))))
                      · skip
                        refine QL.quiet (Runs.yes rfl rfl rfl hc11) rfl rfl (OV.quiet (ov_move rfl rfl)) ?_
                        refine QL.quiet (Runs.yes rfl rfl rfl hc11) rfl rfl (OV.quiet (ov_gtr rfl rfl rfl)) ?_
                        refine QL.quiet (Runs.free rfl) rfl rfl (OV.quiet (ov_pick_false rfl (guard_eq rfl hc11) rfl)) ?_
                        exact QL.nil (Sub.cons' rfl (congrArg Value.bool (by rw [hc11]; rfl)) (Sub.skip rfl (Sub.skip rfl (Sub.skip rfl (Sub.refl _)))))
                    refine QL.quiet (Runs.free rfl) rfl rfl (OV.quiet (ov_assign rfl rfl)) ?_
                    refine QL.nil ?_
                    refine then_normal ?_
                    refine WP.cond rfl (fun hc12 => ?_) (fun hc12 => ?_)
                    · replace hm := ite_t hc12 hm
                      refine WP.seq ?_
                      refine WP.region ?_
                      refine WL.quiet (Runs.free rfl) rfl rfl (OV.quiet (ov_assign rfl rfl)) ?_
                      refine WL.nil ?_
                      refine then_normal ?_
                      refine WP.ret ?_
                      refine block_ret ?_
                      refine then_ret ?_
                      refine retQ_ret (v := (.int .i64 11)) Tryd.results62 (Res.tmp rfl Res.nil) rfl (fun w' s => ⟨_, ?_, s⟩)
                      refine ⟨fun w' s => (s.select [4, 5] (by decide) rfl), ?_⟩
                      refine AL.take (i := 8) rfl (by kernel_rfl) (by kernel_rfl) (by kernel_rfl) (Runs.free rfl) rfl rfl (ov_assign rfl rfl) ?_
                      refine AL.done (by kernel_rfl) ?_
                      refine then_normal ?_
                      exact ⟨11, p_m.cycles, l3, ao5, cap5, xs3, rl3, (Sub.cons rfl (Sub.cons rfl (Sub.cons rfl (Sub.nil _)))), fun w' s => (s.select [2, 3, 4] (by decide) rfl), hm⟩
                    · replace hm := ite_f hc12 hm
                      refine WP.skip ?_
                      refine block_normal ?_
                      refine then_normal ?_
                      refine WP.seq ?_
                      refine WP.region_any (S₀ := St w H [.blk b16 26 [(.int .i64 p_x.kind), (mkS p_x.name), (.int .i64 p_x.count), (.int .i64 p_x.strokes)], .blk b7 88 [(mkS [112, 97, 114, 116]), (.bool true), (.bool false), (.func (.func 61) #[] #[]), (mkS [99, 121, 99, 108, 101, 115]), (.bool true), (.bool true), (.func (.func 62) #[] #[]), (mkS [102, 97, 117, 108, 116]), (.bool false), (.bool false), (.func (.func 63) #[] #[]), (mkS [114, 101, 112, 97, 105, 114]), (.bool false), (.bool false), (.func (.func 64) #[] #[]), (mkS [114, 101, 112, 108, 97, 99, 101]), (.bool true), (.bool false), (.func (.func 65) #[] #[]), (mkS [114, 101, 109, 111, 118, 101]), (.bool false), (.bool false), (.func (.func 66) #[] #[])], .row 79 (encItem).size l3.length (.slice ao5 l3.length cap5) xs3, .blk b3 24 [(.slice none 0 0), (.int .i64 0)], .blk b2 26 [(.int .i64 p_x.kind), (mkS p_x.name), (.int .i64 p_x.count), (.int .i64 p_x.strokes)]] H) 10 rfl (by kernel_rfl) (fun w' s => (s.select [0, 1, 3, 4, 5] (by decide) rfl)) (fun _ s => s.drew) ?_
                      refine AL.take (i := 0) rfl (by kernel_rfl) (by kernel_rfl) (by kernel_rfl) (Runs.free rfl) rfl rfl (ov_move rfl rfl) ?_
                      refine AL.take (i := 1) rfl (by kernel_rfl) (by kernel_rfl) (by kernel_rfl) (Runs.free rfl) rfl rfl (ov_nilCheckB rfl rfl) ?_
                      refine AL.take (i := 2) rfl (by kernel_rfl) (by kernel_rfl) (by kernel_rfl) (Runs.free rfl) rfl rfl (ov_fieldAddr Tryd.underlying24 rfl rfl rfl Tryd.sizeOf3 rfl rfl) ?_
                      refine AL.take (i := 4) rfl (by kernel_rfl) (by kernel_rfl) (by kernel_rfl) (Runs.free rfl) rfl rfl (ov_fieldAddr Tryd.underlying26 rfl rfl rfl Tryd.sizeOf3 rfl rfl) ?_
                      refine AL.take (i := 5) rfl (by kernel_rfl) (by kernel_rfl) (by kernel_rfl) (Runs.free rfl) rfl rfl (ov_load_box (i := 0) Tryd.isAgg3 rfl rfl rfl rfl) ?_
                      refine AL.any (rs := [3]) (by kernel_rfl) (by decide) ?_
                      refine ALs.cons (i := 3) rfl (Runs.free rfl) rfl rfl ?_ ?_
                      · skip
                        refine OQ.step (OV.quiet (ov_load_box (i := 2) Tryd.isAgg3 rfl rfl rfl rfl)) ?_
                        refine ⟨fun w' s => (s.select [0, 1, 3, 4, 5] (by decide) rfl), ?_⟩
                        refine AL.take (i := 6) rfl (by kernel_rfl) (by kernel_rfl) (by kernel_rfl) (Runs.free rfl) rfl rfl (ov_add rfl rfl rfl) ?_
                        refine AL.take (i := 7) rfl (by kernel_rfl) (by kernel_rfl) (by kernel_rfl) (Runs.free rfl) rfl rfl (ov_nilCheckB rfl rfl) ?_
                        refine AL.take (i := 8) rfl (by kernel_rfl) (by kernel_rfl) (by kernel_rfl) (Runs.free rfl) rfl rfl (ov_fieldAddr Tryd.underlying24 rfl rfl rfl Tryd.sizeOf3 rfl rfl) ?_
                        refine AL.any (rs := [9]) (by kernel_rfl) (by decide) ?_
                        refine ALs.cons0 (i := 9) rfl (Runs.free rfl) rfl ?_ ?_
                        · skip
                          refine os_store (i := 2) (vs := [(.int .i64 (IntKind.wrap .i64 (p_m.cycles + p_x.count)))]) (cs' := [(.slice ao5 l3.length cap5), (.int .i64 (IntKind.wrap .i64 (p_m.cycles + p_x.count)))]) Tryd.sizeOf3 rfl rfl rfl rfl rfl rfl rfl rfl rfl ?_
                          refine ⟨fun w' s => (s.select [0, 1, 3, 4, 5] (by decide) rfl), ?_⟩
                          refine AL.done (by kernel_rfl) ?_
                          refine then_normal ?_
                          refine WP.seq ?_
                          refine WP.region_any (S₀ := St w H [.blk b16 26 [(.int .i64 p_x.kind), (mkS p_x.name), (.int .i64 p_x.count), (.int .i64 p_x.strokes)], .blk b7 88 [(mkS [112, 97, 114, 116]), (.bool true), (.bool false), (.func (.func 61) #[] #[]), (mkS [99, 121, 99, 108, 101, 115]), (.bool true), (.bool true), (.func (.func 62) #[] #[]), (mkS [102, 97, 117, 108, 116]), (.bool false), (.bool false), (.func (.func 63) #[] #[]), (mkS [114, 101, 112, 97, 105, 114]), (.bool false), (.bool false), (.func (.func 64) #[] #[]), (mkS [114, 101, 112, 108, 97, 99, 101]), (.bool true), (.bool false), (.func (.func 65) #[] #[]), (mkS [114, 101, 109, 111, 118, 101]), (.bool false), (.bool false), (.func (.func 66) #[] #[])], .blk b3 24 [(.slice none 0 0), (.int .i64 0)], .blk b2 26 [(.int .i64 p_x.kind), (mkS p_x.name), (.int .i64 p_x.count), (.int .i64 p_x.strokes)]] H) 16 rfl (by kernel_rfl) (fun w' s => (s.select [0, 1, 4, 5] (by decide) rfl)) (fun _ s => s.drew) ?_
                          refine AL.take (i := 0) rfl (by kernel_rfl) (by kernel_rfl) (by kernel_rfl) (Runs.free rfl) rfl rfl (ov_move rfl rfl) ?_
                          refine AL.take (i := 1) rfl (by kernel_rfl) (by kernel_rfl) (by kernel_rfl) (Runs.free rfl) rfl rfl (ov_move rfl rfl) ?_
                          refine AL.take (i := 2) rfl (by kernel_rfl) (by kernel_rfl) (by kernel_rfl) (Runs.free rfl) rfl rfl (ov_move rfl rfl) ?_
                          refine AL.take (i := 3) rfl (by kernel_rfl) (by kernel_rfl) (by kernel_rfl) (Runs.free rfl) rfl rfl (ov_nilCheckE rfl rfl) ?_
                          refine AL.take (i := 4) rfl (by kernel_rfl) (by kernel_rfl) (by kernel_rfl) (Runs.free rfl) rfl rfl (ov_fieldAddrE Tryd.underlying79 rfl rfl rfl Tryd.sizeOf3 rfl rfl) ?_
                          refine AL.take (i := 6) rfl (by kernel_rfl) (by kernel_rfl) (by kernel_rfl) (Runs.free rfl) rfl rfl (ov_fieldAddr Tryd.underlying26 rfl rfl rfl Tryd.sizeOf3 rfl rfl) ?_
                          refine AL.take (i := 7) rfl (by kernel_rfl) (by kernel_rfl) (by kernel_rfl) (Runs.free rfl) rfl rfl (ov_load_box (i := 0) Tryd.isAgg3 rfl rfl rfl rfl) ?_
                          refine AL.take (i := 9) rfl (by kernel_rfl) (by kernel_rfl) (by kernel_rfl) (Runs.free rfl) rfl rfl (ov_move rfl rfl) ?_
                          refine AL.any (rs := [5]) (by kernel_rfl) (by decide) ?_
                          refine ALs.cons (i := 5) rfl (Runs.free rfl) rfl rfl ?_ ?_
                          · skip
                            refine OQ.step (OV.quiet (ov_load_own (i := 3) Tryd.isAgg3 rfl rfl rfl (own_pos h3 h4) (elem_cell h7 (off := 6) rfl))) ?_
                            refine ⟨fun w' s => (s.select [0, 1, 4, 5] (by decide) rfl), ?_⟩
                            refine AL.take (i := 8) rfl (by kernel_rfl) (by kernel_rfl) (by kernel_rfl) (Runs.free rfl) rfl rfl (ov_add rfl rfl rfl) ?_
                            refine AL.take (i := 10) rfl (by kernel_rfl) (by kernel_rfl) (by kernel_rfl) (Runs.free rfl) rfl rfl (ov_nilCheckE rfl rfl) ?_
                            refine AL.take (i := 11) rfl (by kernel_rfl) (by kernel_rfl) (by kernel_rfl) (Runs.free rfl) rfl rfl (ov_fieldAddrE Tryd.underlying79 rfl rfl rfl Tryd.sizeOf3 rfl rfl) ?_
                            refine AL.any (rs := [12]) (by kernel_rfl) (by decide) ?_
                            refine ALs.cons0 (i := 12) rfl (Runs.free rfl) rfl ?_ ?_
                            · skip
                              have rl11 := RL.set rl3 (y := (Item.mk x1.name x1.life x1.used x1.faults x1.faulty x1.since (IntKind.wrap .i64 (x1.cycles + p_x.count)))) (off := 6) (vs := [(.int .i64 (IntKind.wrap .i64 (x1.cycles + p_x.count)))]) e7 h7 rfl (Nat.le_of_ble_eq_true rfl)
                              have e8 := at?_set (y := (Item.mk x1.name x1.life x1.used x1.faults x1.faulty x1.since (IntKind.wrap .i64 (x1.cycles + p_x.count)))) e7
                              refine os_store_own (i := 3) (vs := [(.int .i64 (IntKind.wrap .i64 (x1.cycles + p_x.count)))]) Tryd.sizeOf3 rfl rfl rfl rfl (own_pos h3 h4) rfl rfl (elem_le (off := 6) h5 (Nat.le_of_ble_eq_true rfl)) rfl ?_
                              rw [show l3.length = (List.set l3 (Int.toNat r1.1) (Item.mk x1.name x1.life x1.used x1.faults x1.faulty x1.since (IntKind.wrap .i64 (x1.cycles + p_x.count)))).length from List.length_set.symm]
                              obtain ⟨h8, h9, h10, cs2, h11, h12⟩ := rl11.get e8
                              obtain rfl : cs2 = [(mkS x1.name), (.int .i64 x1.life), (.int .i64 x1.used), (.int .i64 x1.faults), (.bool x1.faulty), (.int .i64 x1.since), (.int .i64 (IntKind.wrap .i64 (x1.cycles + p_x.count)))] := h11
                              refine ⟨fun w' s => (s.select [0, 1, 4, 5] (by decide) rfl), ?_⟩
                              refine AL.take (i := 13) rfl (by kernel_rfl) (by kernel_rfl) (by kernel_rfl) (Runs.free rfl) rfl rfl (ov_nilCheckE rfl rfl) ?_
                              refine AL.take (i := 14) rfl (by kernel_rfl) (by kernel_rfl) (by kernel_rfl) (Runs.free rfl) rfl rfl (ov_fieldAddrE Tryd.underlying79 rfl rfl rfl Tryd.sizeOf3 rfl rfl) ?_
                              refine AL.any (rs := [15]) (by kernel_rfl) (by decide) ?_
                              refine ALs.cons0 (i := 15) rfl (Runs.free rfl) rfl ?_ ?_
                              · skip
                                have rl12 := RL.set rl11 (y := (Item.mk x1.name x1.life (IntKind.wrap .i64 (x1.used + (IntKind.wrap .i64 (p_x.count * p_x.strokes)))) x1.faults x1.faulty x1.since (IntKind.wrap .i64 (x1.cycles + p_x.count)))) (off := 2) (vs := [(.int .i64 (IntKind.wrap .i64 (x1.used + (IntKind.wrap .i64 (p_x.count * p_x.strokes)))))]) e8 h12 rfl (Nat.le_of_ble_eq_true rfl)
                                have e9 := at?_set (y := (Item.mk x1.name x1.life (IntKind.wrap .i64 (x1.used + (IntKind.wrap .i64 (p_x.count * p_x.strokes)))) x1.faults x1.faulty x1.since (IntKind.wrap .i64 (x1.cycles + p_x.count)))) e8
                                refine os_store_own (i := 3) (vs := [(.int .i64 (IntKind.wrap .i64 (x1.used + (IntKind.wrap .i64 (p_x.count * p_x.strokes)))))]) Tryd.sizeOf3 rfl rfl rfl rfl (own_pos h8 h9) rfl rfl (elem_le (off := 2) h10 (Nat.le_of_ble_eq_true rfl)) rfl ?_
                                rw [show (List.set l3 (Int.toNat r1.1) (Item.mk x1.name x1.life x1.used x1.faults x1.faulty x1.since (IntKind.wrap .i64 (x1.cycles + p_x.count)))).length = (List.set (List.set l3 (Int.toNat r1.1) (Item.mk x1.name x1.life x1.used x1.faults x1.faulty x1.since (IntKind.wrap .i64 (x1.cycles + p_x.count)))) (Int.toNat r1.1) (Item.mk x1.name x1.life (IntKind.wrap .i64 (x1.used + (IntKind.wrap .i64 (p_x.count * p_x.strokes)))) x1.faults x1.faulty x1.since (IntKind.wrap .i64 (x1.cycles + p_x.count)))).length from List.length_set.symm]
                                obtain ⟨h13, h14, h15, cs3, h16, h17⟩ := rl12.get e9
                                obtain rfl : cs3 = [(mkS x1.name), (.int .i64 x1.life), (.int .i64 (IntKind.wrap .i64 (x1.used + (IntKind.wrap .i64 (p_x.count * p_x.strokes))))), (.int .i64 x1.faults), (.bool x1.faulty), (.int .i64 x1.since), (.int .i64 (IntKind.wrap .i64 (x1.cycles + p_x.count)))] := h16
                                refine ⟨fun w' s => (s.select [0, 1, 4, 5] (by decide) rfl), ?_⟩
                                refine AL.done (by kernel_rfl) ?_
                                refine then_normal ?_
                                refine WP.seq ?_
                                refine WP.region ?_
                                refine WL.quiet (Runs.free rfl) rfl rfl (OV.quiet (ov_assign rfl rfl)) ?_
                                refine WL.nil ?_
                                refine then_normal ?_
                                refine WP.ret ?_
                                refine retQ_ret (v := (.int .i64 0)) Tryd.results62 (Res.tmp rfl Res.nil) rfl (fun w' s => ⟨_, ?_, s⟩)
                                refine ⟨fun w' s => (s.select [4, 5] (by decide) rfl), ?_⟩
                                refine AL.take (i := 8) rfl (by kernel_rfl) (by kernel_rfl) (by kernel_rfl) (Runs.free rfl) rfl rfl (ov_assign rfl rfl) ?_
                                refine AL.done (by kernel_rfl) ?_
                                refine then_normal ?_
                                exact ⟨0, (IntKind.wrap .i64 (p_m.cycles + p_x.count)), (List.set (List.set l3 (Int.toNat r1.1) (Item.mk x1.name x1.life x1.used x1.faults x1.faulty x1.since (IntKind.wrap .i64 (x1.cycles + p_x.count)))) (Int.toNat r1.1) (Item.mk x1.name x1.life (IntKind.wrap .i64 (x1.used + (IntKind.wrap .i64 (p_x.count * p_x.strokes)))) x1.faults x1.faulty x1.since (IntKind.wrap .i64 (x1.cycles + p_x.count)))), ao5, cap5, (spl (spl xs3 (Int.toNat r1.1 * encItem.size + 6) [(.int .i64 (IntKind.wrap .i64 (x1.cycles + p_x.count)))]) (Int.toNat r1.1 * encItem.size + 2) [(.int .i64 (IntKind.wrap .i64 (x1.used + (IntKind.wrap .i64 (p_x.count * p_x.strokes)))))]), rl12, (Sub.cons rfl (Sub.cons rfl (Sub.cons rfl (Sub.nil _)))), fun w' s => (s.select [2, 3, 4] (by decide) rfl), hm⟩
                              exact ALs.nil
                            exact ALs.nil
                          exact ALs.nil
                        exact ALs.nil
                      exact ALs.nil
                exact ALs.nil
              · replace hm := ite_f hc9 hm
                rcases Bool.eq_false_or_eq_true (p_x.kind == 2) with hc13 | hc13
                · replace hm := ite_t hc13 hm
                  refine AL.take (i := 3) rfl (by kernel_rfl) (by kernel_rfl) (by kernel_rfl) (Runs.free rfl) rfl rfl (ov_index_at (j := 2) (cs := [(mkS [112, 97, 114, 116]), (.bool true), (.bool false), (.func (.func 61) #[] #[]), (mkS [99, 121, 99, 108, 101, 115]), (.bool true), (.bool true), (.func (.func 62) #[] #[]), (mkS [102, 97, 117, 108, 116]), (.bool false), (.bool false), (.func (.func 63) #[] #[]), (mkS [114, 101, 112, 97, 105, 114]), (.bool false), (.bool false), (.func (.func 64) #[] #[]), (mkS [114, 101, 112, 108, 97, 99, 101]), (.bool true), (.bool false), (.func (.func 65) #[] #[]), (mkS [114, 101, 109, 111, 118, 101]), (.bool false), (.bool false), (.func (.func 66) #[] #[])]) (r := (.agg #[(mkS [102, 97, 117, 108, 116]), (.bool false), (.bool false), (.func (.func 63) #[] #[])])) (eq_of_beq hc13) rfl rfl rfl (fun _ => by kernel_rfl)) ?_
                  refine AL.take (i := 4) rfl (by kernel_rfl) (by kernel_rfl) (by kernel_rfl) (Runs.free rfl) rfl rfl (ov_field (cs := [(mkS [102, 97, 117, 108, 116]), (.bool false), (.bool false), (.func (.func 63) #[] #[])]) (r := (.func (.func 63) #[] #[])) rfl rfl (fun _ => by kernel_rfl)) ?_
                  refine AL.any (rs := [7]) (by kernel_rfl) (by decide) ?_
                  refine ALs.cons (i := 7) rfl (Runs.free rfl) rfl rfl ?_ ?_
                  · skip
                    refine os_inline (cap := []) (vs := [(pB b6 0), (.int .i64 r1.1), (.agg #[(.int .i64 p_x.kind), (mkS p_x.name), (.int .i64 p_x.count), (.int .i64 p_x.strokes)])]) Tryd.call63 rfl rfl rfl Tryd.func63 rfl 35 Tryd.ntmps63 rfl (fun w' s => ?_)
                    refine WP.seq ?_
                    refine WP.region ?_
                    refine WL.step (Runs.free rfl) rfl rfl (os_box (cs := [(.int .i64 p_x.kind), (mkS p_x.name), (.int .i64 p_x.count), (.int .i64 p_x.strokes)]) rfl rfl rfl (fun b17 => ?_))
                    refine WL.quiet (Runs.free rfl) rfl rfl (OV.quiet (ov_assign rfl rfl)) ?_
                    refine WL.nil ?_
                    refine then_normal ?_
                    refine WP.seq ?_
                    refine WP.region ?_
                    refine WL.quiet (Runs.free rfl) rfl rfl (OV.quiet (ov_move rfl rfl)) ?_
                    refine WL.quiet (Runs.free rfl) rfl rfl (OV.quiet (ov_nilCheckB rfl rfl)) ?_
                    refine WL.quiet (Runs.free rfl) rfl rfl (OV.quiet (ov_fieldAddr Tryd.underlying24 rfl rfl rfl Tryd.sizeOf22 rfl rfl)) ?_
                    refine WL.quiet (Runs.free rfl) rfl rfl (OV.quiet (ov_load_box (i := 2) Tryd.isAgg22 rfl rfl rfl rfl)) ?_
                    refine WL.quiet (Runs.free rfl) rfl rfl (OV.quiet (ov_move rfl rfl)) ?_
                    obtain ⟨x2, e10, hm⟩ := bind_some hm
                    obtain ⟨h18, h19, h20, cs4, h21, h22⟩ := RL.get rl3 e10
                    obtain rfl : cs4 = [(mkS x2.name), (.int .i64 x2.life), (.int .i64 x2.used), (.int .i64 x2.faults), (.bool x2.faulty), (.int .i64 x2.since), (.int .i64 x2.cycles)] := h21
                    refine WL.quiet (Runs.free rfl) rfl rfl (OV.quiet (ov_indexAddr_own (i := 3) Tryd.underlying22 Tryd.sizeOf79 rfl rfl rfl rfl h18 h19)) ?_
                    refine WL.quiet (Runs.free rfl) rfl rfl (OV.quiet (ov_assign rfl rfl)) ?_
                    refine WL.nil ?_
                    refine then_normal ?_
                    refine WP.seq ?_
                    refine WP.block ?_
                    refine WP.seq ?_
                    refine WP.region ?_
                    refine WL.quiet (Runs.free rfl) rfl rfl (OV.quiet (ov_move rfl rfl)) ?_
                    refine WL.quiet (Runs.free rfl) rfl rfl (OV.quiet (ov_nilCheckE rfl rfl)) ?_
                    refine WL.quiet (Runs.free rfl) rfl rfl (OV.quiet (ov_fieldAddrE Tryd.underlying79 rfl rfl rfl Tryd.sizeOf4 rfl rfl)) ?_
                    refine WL.quiet (Runs.free rfl) rfl rfl (OV.quiet (ov_load_own (i := 3) Tryd.isAgg4 rfl rfl rfl (own_pos h18 h19) (elem_cell h22 (off := 4) rfl))) ?_
                    refine WL.quiet (Runs.free rfl) rfl rfl (OV.quiet (ov_assign rfl rfl)) ?_
                    refine WL.nil ?_
                    refine then_normal ?_
                    refine WP.cond rfl (fun hc14 => ?_) (fun hc14 => ?_)
                    · replace hm := ite_t hc14 hm
                      refine WP.seq ?_
                      refine WP.region ?_
                      refine WL.quiet (Runs.free rfl) rfl rfl (OV.quiet (ov_assign rfl rfl)) ?_
                      refine WL.nil ?_
                      refine then_normal ?_
                      refine WP.ret ?_
                      refine block_ret ?_
                      refine then_ret ?_
                      refine retQ_ret (v := (.int .i64 14)) Tryd.results63 (Res.tmp rfl Res.nil) rfl (fun w' s => ⟨_, ?_, s⟩)
                      refine ⟨fun w' s => (s.select [4, 5] (by decide) rfl), ?_⟩
                      refine AL.take (i := 8) rfl (by kernel_rfl) (by kernel_rfl) (by kernel_rfl) (Runs.free rfl) rfl rfl (ov_assign rfl rfl) ?_
                      refine AL.done (by kernel_rfl) ?_
                      refine then_normal ?_
                      exact ⟨14, p_m.cycles, l3, ao5, cap5, xs3, rl3, (Sub.cons rfl (Sub.cons rfl (Sub.cons rfl (Sub.nil _)))), fun w' s => (s.select [2, 3, 4] (by decide) rfl), hm⟩
                    · replace hm := ite_f hc14 hm
                      refine WP.seq ?_
                      refine WP.region ?_
                      refine WL.quiet (Runs.free rfl) rfl rfl (OV.quiet (ov_move rfl rfl)) ?_
                      refine WL.quiet (Runs.free rfl) rfl rfl (OV.quiet (ov_nilCheckE rfl rfl)) ?_
                      refine WL.quiet (Runs.free rfl) rfl rfl (OV.quiet (ov_fieldAddrE Tryd.underlying79 rfl rfl rfl Tryd.sizeOf3 rfl rfl)) ?_
                      refine WL.quiet (Runs.free rfl) rfl rfl (OV.quiet (ov_load_own (i := 3) Tryd.isAgg3 rfl rfl rfl (own_pos h18 h19) (elem_cell h22 (off := 3) rfl))) ?_
                      refine WL.quiet (Runs.free rfl) rfl rfl (OV.quiet (ov_eql rfl rfl rfl)) ?_
                      refine WL.quiet (Runs.free rfl) rfl rfl (OV.quiet (ov_assign rfl rfl)) ?_
                      refine WL.nil ?_
                      refine then_normal ?_
                      refine WP.cond rfl (fun hc15 => ?_) (fun hc15 => ?_)
                      · replace hm := ite_t hc15 hm
                        refine WP.seq ?_
                        refine WP.region ?_
                        refine WL.quiet (Runs.free rfl) rfl rfl (OV.quiet (ov_assign rfl rfl)) ?_
                        refine WL.nil ?_
                        refine then_normal ?_
                        refine WP.ret ?_
                        refine block_ret ?_
                        refine then_ret ?_
                        refine retQ_ret (v := (.int .i64 5)) Tryd.results63 (Res.tmp rfl Res.nil) rfl (fun w' s => ⟨_, ?_, s⟩)
                        refine ⟨fun w' s => (s.select [4, 5] (by decide) rfl), ?_⟩
                        refine AL.take (i := 8) rfl (by kernel_rfl) (by kernel_rfl) (by kernel_rfl) (Runs.free rfl) rfl rfl (ov_assign rfl rfl) ?_
                        refine AL.done (by kernel_rfl) ?_
                        refine then_normal ?_
                        exact ⟨5, p_m.cycles, l3, ao5, cap5, xs3, rl3, (Sub.cons rfl (Sub.cons rfl (Sub.cons rfl (Sub.nil _)))), fun w' s => (s.select [2, 3, 4] (by decide) rfl), hm⟩
                      · replace hm := ite_f hc15 hm
                        refine WP.skip ?_
                        refine block_normal ?_
                        refine then_normal ?_
                        refine WP.seq ?_
                        refine WP.region ?_
                        refine WL.quiet (Runs.free rfl) rfl rfl (OV.quiet (ov_move rfl rfl)) ?_
                        refine WL.quiet (Runs.free rfl) rfl rfl (OV.quiet (ov_nilCheckE rfl rfl)) ?_
                        refine WL.quiet (Runs.free rfl) rfl rfl (OV.quiet (ov_fieldAddrE Tryd.underlying79 rfl rfl rfl Tryd.sizeOf4 rfl rfl)) ?_
                        have rl13 := RL.set rl3 (y := (Item.mk x2.name x2.life x2.used x2.faults true x2.since x2.cycles)) (off := 4) (vs := [(.bool true)]) e10 h22 rfl (Nat.le_of_ble_eq_true rfl)
                        have e11 := at?_set (y := (Item.mk x2.name x2.life x2.used x2.faults true x2.since x2.cycles)) e10
                        refine WL.step0 (Runs.free rfl) rfl (os_store_own (i := 3) (vs := [(.bool true)]) Tryd.sizeOf4 rfl rfl rfl rfl (own_pos h18 h19) rfl rfl (elem_le (off := 4) h20 (Nat.le_of_ble_eq_true rfl)) rfl ?_)
                        rw [show l3.length = (List.set l3 (Int.toNat r1.1) (Item.mk x2.name x2.life x2.used x2.faults true x2.since x2.cycles)).length from List.length_set.symm]
                        obtain ⟨h23, h24, h25, cs5, h26, h27⟩ := rl13.get e11
                        obtain rfl : cs5 = [(mkS x2.name), (.int .i64 x2.life), (.int .i64 x2.used), (.int .i64 x2.faults), (.bool true), (.int .i64 x2.since), (.int .i64 x2.cycles)] := h26
                        refine WL.nil ?_
                        refine then_normal ?_
                        refine WP.seq ?_
                        refine WP.region ?_
                        refine WL.quiet (Runs.free rfl) rfl rfl (OV.quiet (ov_move rfl rfl)) ?_
                        refine WL.quiet (Runs.free rfl) rfl rfl (OV.quiet (ov_nilCheckE rfl rfl)) ?_
                        refine WL.quiet (Runs.free rfl) rfl rfl (OV.quiet (ov_fieldAddrE Tryd.underlying79 rfl rfl rfl Tryd.sizeOf3 rfl rfl)) ?_
                        refine WL.quiet (Runs.free rfl) rfl rfl (OV.quiet (ov_load_own (i := 3) Tryd.isAgg3 rfl rfl rfl (own_pos h23 h24) (elem_cell h27 (off := 3) rfl))) ?_
                        refine WL.quiet (Runs.free rfl) rfl rfl (OV.quiet (ov_add rfl rfl rfl)) ?_
                        refine WL.quiet (Runs.free rfl) rfl rfl (OV.quiet (ov_nilCheckE rfl rfl)) ?_
                        refine WL.quiet (Runs.free rfl) rfl rfl (OV.quiet (ov_fieldAddrE Tryd.underlying79 rfl rfl rfl Tryd.sizeOf3 rfl rfl)) ?_
                        have rl14 := RL.set rl13 (y := (Item.mk x2.name x2.life x2.used (IntKind.wrap .i64 (x2.faults + 1)) true x2.since x2.cycles)) (off := 3) (vs := [(.int .i64 (IntKind.wrap .i64 (x2.faults + 1)))]) e11 h27 rfl (Nat.le_of_ble_eq_true rfl)
                        have e12 := at?_set (y := (Item.mk x2.name x2.life x2.used (IntKind.wrap .i64 (x2.faults + 1)) true x2.since x2.cycles)) e11
                        refine WL.step0 (Runs.free rfl) rfl (os_store_own (i := 3) (vs := [(.int .i64 (IntKind.wrap .i64 (x2.faults + 1)))]) Tryd.sizeOf3 rfl rfl rfl rfl (own_pos h23 h24) rfl rfl (elem_le (off := 3) h25 (Nat.le_of_ble_eq_true rfl)) rfl ?_)
                        rw [show (List.set l3 (Int.toNat r1.1) (Item.mk x2.name x2.life x2.used x2.faults true x2.since x2.cycles)).length = (List.set (List.set l3 (Int.toNat r1.1) (Item.mk x2.name x2.life x2.used x2.faults true x2.since x2.cycles)) (Int.toNat r1.1) (Item.mk x2.name x2.life x2.used (IntKind.wrap .i64 (x2.faults + 1)) true x2.since x2.cycles)).length from List.length_set.symm]
                        obtain ⟨h28, h29, h30, cs6, h31, h32⟩ := rl14.get e12
                        obtain rfl : cs6 = [(mkS x2.name), (.int .i64 x2.life), (.int .i64 x2.used), (.int .i64 (IntKind.wrap .i64 (x2.faults + 1))), (.bool true), (.int .i64 x2.since), (.int .i64 x2.cycles)] := h31
                        refine WL.nil ?_
                        refine then_normal ?_
                        refine WP.seq ?_
                        refine WP.region ?_
                        refine WL.quiet (Runs.free rfl) rfl rfl (OV.quiet (ov_assign rfl rfl)) ?_
                        refine WL.nil ?_
                        refine then_normal ?_
                        refine WP.ret ?_
                        refine retQ_ret (v := (.int .i64 0)) Tryd.results63 (Res.tmp rfl Res.nil) rfl (fun w' s => ⟨_, ?_, s⟩)
                        refine ⟨fun w' s => (s.select [4, 5] (by decide) rfl), ?_⟩
                        refine AL.take (i := 8) rfl (by kernel_rfl) (by kernel_rfl) (by kernel_rfl) (Runs.free rfl) rfl rfl (ov_assign rfl rfl) ?_
                        refine AL.done (by kernel_rfl) ?_
                        refine then_normal ?_
                        exact ⟨0, p_m.cycles, (List.set (List.set l3 (Int.toNat r1.1) (Item.mk x2.name x2.life x2.used x2.faults true x2.since x2.cycles)) (Int.toNat r1.1) (Item.mk x2.name x2.life x2.used (IntKind.wrap .i64 (x2.faults + 1)) true x2.since x2.cycles)), ao5, cap5, (spl (spl xs3 (Int.toNat r1.1 * encItem.size + 4) [(.bool true)]) (Int.toNat r1.1 * encItem.size + 3) [(.int .i64 (IntKind.wrap .i64 (x2.faults + 1)))]), rl14, (Sub.cons rfl (Sub.cons rfl (Sub.cons rfl (Sub.nil _)))), fun w' s => (s.select [2, 3, 4] (by decide) rfl), hm⟩
                  exact ALs.nil
                · replace hm := ite_f hc13 hm
                  rcases Bool.eq_false_or_eq_true (p_x.kind == 3) with hc16 | hc16
                  · replace hm := ite_t hc16 hm
                    refine AL.take (i := 3) rfl (by kernel_rfl) (by kernel_rfl) (by kernel_rfl) (Runs.free rfl) rfl rfl (ov_index_at (j := 3) (cs := [(mkS [112, 97, 114, 116]), (.bool true), (.bool false), (.func (.func 61) #[] #[]), (mkS [99, 121, 99, 108, 101, 115]), (.bool true), (.bool true), (.func (.func 62) #[] #[]), (mkS [102, 97, 117, 108, 116]), (.bool false), (.bool false), (.func (.func 63) #[] #[]), (mkS [114, 101, 112, 97, 105, 114]), (.bool false), (.bool false), (.func (.func 64) #[] #[]), (mkS [114, 101, 112, 108, 97, 99, 101]), (.bool true), (.bool false), (.func (.func 65) #[] #[]), (mkS [114, 101, 109, 111, 118, 101]), (.bool false), (.bool false), (.func (.func 66) #[] #[])]) (r := (.agg #[(mkS [114, 101, 112, 97, 105, 114]), (.bool false), (.bool false), (.func (.func 64) #[] #[])])) (eq_of_beq hc16) rfl rfl rfl (fun _ => by kernel_rfl)) ?_
                    refine AL.take (i := 4) rfl (by kernel_rfl) (by kernel_rfl) (by kernel_rfl) (Runs.free rfl) rfl rfl (ov_field (cs := [(mkS [114, 101, 112, 97, 105, 114]), (.bool false), (.bool false), (.func (.func 64) #[] #[])]) (r := (.func (.func 64) #[] #[])) rfl rfl (fun _ => by kernel_rfl)) ?_
                    refine AL.any (rs := [7]) (by kernel_rfl) (by decide) ?_
                    refine ALs.cons (i := 7) rfl (Runs.free rfl) rfl rfl ?_ ?_
                    · skip
                      refine os_inline (cap := []) (vs := [(pB b6 0), (.int .i64 r1.1), (.agg #[(.int .i64 p_x.kind), (mkS p_x.name), (.int .i64 p_x.count), (.int .i64 p_x.strokes)])]) Tryd.call64 rfl rfl rfl Tryd.func64 rfl 23 Tryd.ntmps64 rfl (fun w' s => ?_)
                      refine WP.seq ?_
                      refine WP.region ?_
                      refine WL.step (Runs.free rfl) rfl rfl (os_box (cs := [(.int .i64 p_x.kind), (mkS p_x.name), (.int .i64 p_x.count), (.int .i64 p_x.strokes)]) rfl rfl rfl (fun b18 => ?_))
                      refine WL.quiet (Runs.free rfl) rfl rfl (OV.quiet (ov_assign rfl rfl)) ?_
                      refine WL.nil ?_
                      refine then_normal ?_
                      refine WP.seq ?_
                      refine WP.seq ?_
                      refine WP.region ?_
                      refine WL.quiet (Runs.free rfl) rfl rfl (OV.quiet (ov_move rfl rfl)) ?_
                      refine WL.quiet (Runs.free rfl) rfl rfl (OV.quiet (ov_nilCheckB rfl rfl)) ?_
                      refine WL.quiet (Runs.free rfl) rfl rfl (OV.quiet (ov_fieldAddr Tryd.underlying24 rfl rfl rfl Tryd.sizeOf22 rfl rfl)) ?_
                      refine WL.quiet (Runs.free rfl) rfl rfl (OV.quiet (ov_load_box (i := 2) Tryd.isAgg22 rfl rfl rfl rfl)) ?_
                      refine WL.quiet (Runs.free rfl) rfl rfl (OV.quiet (ov_move rfl rfl)) ?_
                      obtain ⟨x3, e13, hm⟩ := bind_some hm
                      obtain ⟨h33, h34, h35, cs7, h36, h37⟩ := RL.get rl3 e13
                      obtain rfl : cs7 = [(mkS x3.name), (.int .i64 x3.life), (.int .i64 x3.used), (.int .i64 x3.faults), (.bool x3.faulty), (.int .i64 x3.since), (.int .i64 x3.cycles)] := h36
                      refine WL.quiet (Runs.free rfl) rfl rfl (OV.quiet (ov_indexAddr_own (i := 3) Tryd.underlying22 Tryd.sizeOf79 rfl rfl rfl rfl h33 h34)) ?_
                      refine WL.quiet (Runs.free rfl) rfl rfl (OV.quiet (ov_fieldAddrE Tryd.underlying79 rfl rfl rfl Tryd.sizeOf4 rfl rfl)) ?_
                      refine WL.quiet (Runs.free rfl) rfl rfl (OV.quiet (ov_load_own (i := 3) Tryd.isAgg4 rfl rfl rfl (own_pos h33 h34) (elem_cell h37 (off := 4) rfl))) ?_
                      refine WL.quiet (Runs.free rfl) rfl rfl (OV.quiet (ov_not rfl rfl)) ?_
                      refine WL.nil ?_
                      refine then_normal ?_
                      refine WP.cond rfl (fun hc17 => ?_) (fun hc17 => ?_)
                      · replace hm := ite_t hc17 hm
                        refine WP.seq ?_
                        refine WP.region ?_
                        refine WL.quiet (Runs.free rfl) rfl rfl (OV.quiet (ov_assign rfl rfl)) ?_
                        refine WL.nil ?_
                        refine then_normal ?_
                        refine WP.ret ?_
                        refine then_ret ?_
                        refine retQ_ret (v := (.int .i64 14)) Tryd.results64 (Res.tmp rfl Res.nil) rfl (fun w' s => ⟨_, ?_, s⟩)
                        refine ⟨fun w' s => (s.select [4, 5] (by decide) rfl), ?_⟩
                        refine AL.take (i := 8) rfl (by kernel_rfl) (by kernel_rfl) (by kernel_rfl) (Runs.free rfl) rfl rfl (ov_assign rfl rfl) ?_
                        refine AL.done (by kernel_rfl) ?_
                        refine then_normal ?_
                        exact ⟨14, p_m.cycles, l3, ao5, cap5, xs3, rl3, (Sub.cons rfl (Sub.cons rfl (Sub.cons rfl (Sub.nil _)))), fun w' s => (s.select [2, 3, 4] (by decide) rfl), hm⟩
                      · replace hm := ite_f hc17 hm
                        refine WP.skip ?_
                        refine then_normal ?_
                        refine WP.seq ?_
                        refine WP.region ?_
                        refine WL.quiet (Runs.free rfl) rfl rfl (OV.quiet (ov_move rfl rfl)) ?_
                        refine WL.quiet (Runs.free rfl) rfl rfl (OV.quiet (ov_nilCheckB rfl rfl)) ?_
                        refine WL.quiet (Runs.free rfl) rfl rfl (OV.quiet (ov_fieldAddr Tryd.underlying24 rfl rfl rfl Tryd.sizeOf22 rfl rfl)) ?_
                        refine WL.quiet (Runs.free rfl) rfl rfl (OV.quiet (ov_load_box (i := 2) Tryd.isAgg22 rfl rfl rfl rfl)) ?_
                        refine WL.quiet (Runs.free rfl) rfl rfl (OV.quiet (ov_move rfl rfl)) ?_
                        refine WL.quiet (Runs.free rfl) rfl rfl (OV.quiet (ov_indexAddr_own (i := 3) Tryd.underlying22 Tryd.sizeOf79 rfl rfl rfl rfl h33 h34)) ?_
                        refine WL.quiet (Runs.free rfl) rfl rfl (OV.quiet (ov_fieldAddrE Tryd.underlying79 rfl rfl rfl Tryd.sizeOf4 rfl rfl)) ?_
                        have rl15 := RL.set rl3 (y := (Item.mk x3.name x3.life x3.used x3.faults false x3.since x3.cycles)) (off := 4) (vs := [(.bool false)]) e13 h37 rfl (Nat.le_of_ble_eq_true rfl)
                        have e14 := at?_set (y := (Item.mk x3.name x3.life x3.used x3.faults false x3.since x3.cycles)) e13
                        refine WL.step0 (Runs.free rfl) rfl (os_store_own (i := 3) (vs := [(.bool false)]) Tryd.sizeOf4 rfl rfl rfl rfl (own_pos h33 h34) rfl rfl (elem_le (off := 4) h35 (Nat.le_of_ble_eq_true rfl)) rfl ?_)
                        rw [show l3.length = (List.set l3 (Int.toNat r1.1) (Item.mk x3.name x3.life x3.used x3.faults false x3.since x3.cycles)).length from List.length_set.symm]
                        obtain ⟨h38, h39, h40, cs8, h41, h42⟩ := rl15.get e14
                        obtain rfl : cs8 = [(mkS x3.name), (.int .i64 x3.life), (.int .i64 x3.used), (.int .i64 x3.faults), (.bool false), (.int .i64 x3.since), (.int .i64 x3.cycles)] := h41
                        refine WL.nil ?_
                        refine then_normal ?_
                        refine WP.seq ?_
                        refine WP.region ?_
                        refine WL.quiet (Runs.free rfl) rfl rfl (OV.quiet (ov_assign rfl rfl)) ?_
                        refine WL.nil ?_
                        refine then_normal ?_
                        refine WP.ret ?_
                        refine retQ_ret (v := (.int .i64 0)) Tryd.results64 (Res.tmp rfl Res.nil) rfl (fun w' s => ⟨_, ?_, s⟩)
                        refine ⟨fun w' s => (s.select [4, 5] (by decide) rfl), ?_⟩
                        refine AL.take (i := 8) rfl (by kernel_rfl) (by kernel_rfl) (by kernel_rfl) (Runs.free rfl) rfl rfl (ov_assign rfl rfl) ?_
                        refine AL.done (by kernel_rfl) ?_
                        refine then_normal ?_
                        exact ⟨0, p_m.cycles, (List.set l3 (Int.toNat r1.1) (Item.mk x3.name x3.life x3.used x3.faults false x3.since x3.cycles)), ao5, cap5, (spl xs3 (Int.toNat r1.1 * encItem.size + 4) [(.bool false)]), rl15, (Sub.cons rfl (Sub.cons rfl (Sub.cons rfl (Sub.nil _)))), fun w' s => (s.select [2, 3, 4] (by decide) rfl), hm⟩
                    exact ALs.nil
                  · replace hm := ite_f hc16 hm
                    rcases Bool.eq_false_or_eq_true (p_x.kind == 4) with hc18 | hc18
                    · replace hm := ite_t hc18 hm
                      refine AL.take (i := 3) rfl (by kernel_rfl) (by kernel_rfl) (by kernel_rfl) (Runs.free rfl) rfl rfl (ov_index_at (j := 4) (cs := [(mkS [112, 97, 114, 116]), (.bool true), (.bool false), (.func (.func 61) #[] #[]), (mkS [99, 121, 99, 108, 101, 115]), (.bool true), (.bool true), (.func (.func 62) #[] #[]), (mkS [102, 97, 117, 108, 116]), (.bool false), (.bool false), (.func (.func 63) #[] #[]), (mkS [114, 101, 112, 97, 105, 114]), (.bool false), (.bool false), (.func (.func 64) #[] #[]), (mkS [114, 101, 112, 108, 97, 99, 101]), (.bool true), (.bool false), (.func (.func 65) #[] #[]), (mkS [114, 101, 109, 111, 118, 101]), (.bool false), (.bool false), (.func (.func 66) #[] #[])]) (r := (.agg #[(mkS [114, 101, 112, 108, 97, 99, 101]), (.bool true), (.bool false), (.func (.func 65) #[] #[])])) (eq_of_beq hc18) rfl rfl rfl (fun _ => by kernel_rfl)) ?_
                      refine AL.take (i := 4) rfl (by kernel_rfl) (by kernel_rfl) (by kernel_rfl) (Runs.free rfl) rfl rfl (ov_field (cs := [(mkS [114, 101, 112, 108, 97, 99, 101]), (.bool true), (.bool false), (.func (.func 65) #[] #[])]) (r := (.func (.func 65) #[] #[])) rfl rfl (fun _ => by kernel_rfl)) ?_
                      refine AL.any (rs := [7]) (by kernel_rfl) (by decide) ?_
                      refine ALs.cons (i := 7) rfl (Runs.free rfl) rfl rfl ?_ ?_
                      · skip
                        refine os_inline (cap := []) (vs := [(pB b6 0), (.int .i64 r1.1), (.agg #[(.int .i64 p_x.kind), (mkS p_x.name), (.int .i64 p_x.count), (.int .i64 p_x.strokes)])]) Tryd.call65 rfl rfl rfl Tryd.func65 rfl 16 Tryd.ntmps65 rfl (fun w' s => ?_)
                        refine WP.seq ?_
                        refine WP.region ?_
                        refine WL.step (Runs.free rfl) rfl rfl (os_box (cs := [(.int .i64 p_x.kind), (mkS p_x.name), (.int .i64 p_x.count), (.int .i64 p_x.strokes)]) rfl rfl rfl (fun b19 => ?_))
                        refine WL.quiet (Runs.free rfl) rfl rfl (OV.quiet (ov_assign rfl rfl)) ?_
                        refine WL.nil ?_
                        refine then_normal ?_
                        obtain ⟨k4, hk4, hm⟩ := joinK_some hm
                        refine WP.seq_join (fun g' S' => ∃ (l8 : (List Item)) (ao10 : Option Addr) (cap10 : Nat) (xs5 : List Value), RL H encItem l8 xs5 ∧ Sub [] g' ∧ (∀ w', S' w' → St w H [.blk b6 24 [(.slice ao10 l8.length cap10), (.int .i64 p_m.cycles)], .row 79 (encItem).size l8.length (.slice ao10 l8.length cap10) xs5, .blk b3 24 [(.slice none 0 0), (.int .i64 0)], .blk b2 26 [(.int .i64 p_x.kind), (mkS p_x.name), (.int .i64 p_x.count), (.int .i64 p_x.strokes)]] H w') ∧ k4 l8 = some r) ?_ ?_
                        · skip
                          refine WP.region_any (S₀ := St w H [.blk b19 26 [(.int .i64 p_x.kind), (mkS p_x.name), (.int .i64 p_x.count), (.int .i64 p_x.strokes)], .blk b7 88 [(mkS [112, 97, 114, 116]), (.bool true), (.bool false), (.func (.func 61) #[] #[]), (mkS [99, 121, 99, 108, 101, 115]), (.bool true), (.bool true), (.func (.func 62) #[] #[]), (mkS [102, 97, 117, 108, 116]), (.bool false), (.bool false), (.func (.func 63) #[] #[]), (mkS [114, 101, 112, 97, 105, 114]), (.bool false), (.bool false), (.func (.func 64) #[] #[]), (mkS [114, 101, 112, 108, 97, 99, 101]), (.bool true), (.bool false), (.func (.func 65) #[] #[]), (mkS [114, 101, 109, 111, 118, 101]), (.bool false), (.bool false), (.func (.func 66) #[] #[])], .blk b3 24 [(.slice none 0 0), (.int .i64 0)], .blk b2 26 [(.int .i64 p_x.kind), (mkS p_x.name), (.int .i64 p_x.count), (.int .i64 p_x.strokes)]] H) 10 rfl (by kernel_rfl) (fun w' s => (s.select [0, 1, 4, 5] (by decide) rfl)) (fun _ s => s.drew) ?_
                          refine AL.take (i := 0) rfl (by kernel_rfl) (by kernel_rfl) (by kernel_rfl) (Runs.free rfl) rfl rfl (ov_move rfl rfl) ?_
                          refine AL.take (i := 1) rfl (by kernel_rfl) (by kernel_rfl) (by kernel_rfl) (Runs.free rfl) rfl rfl (ov_nilCheckB rfl rfl) ?_
                          refine AL.take (i := 2) rfl (by kernel_rfl) (by kernel_rfl) (by kernel_rfl) (Runs.free rfl) rfl rfl (ov_fieldAddr Tryd.underlying24 rfl rfl rfl Tryd.sizeOf22 rfl rfl) ?_
                          refine AL.take (i := 4) rfl (by kernel_rfl) (by kernel_rfl) (by kernel_rfl) (Runs.free rfl) rfl rfl (ov_move rfl rfl) ?_
                          refine AL.take (i := 5) rfl (by kernel_rfl) (by kernel_rfl) (by kernel_rfl) (Runs.free rfl) rfl rfl (ov_move rfl rfl) ?_
                          refine AL.take (i := 6) rfl (by kernel_rfl) (by kernel_rfl) (by kernel_rfl) (Runs.free rfl) rfl rfl (ov_load_whole (i := 0) Tryd.isAgg26 Tryd.sizeOf26 rfl rfl rfl rfl) ?_
                          refine AL.any (rs := [3, 7]) (by kernel_rfl) (by decide) ?_
                          refine ALs.cons (i := 3) rfl (Runs.free rfl) rfl rfl ?_ ?_
                          · skip
                            refine OQ.step (OV.quiet (ov_load_box (i := 2) Tryd.isAgg22 rfl rfl rfl rfl)) ?_
                            refine ⟨fun w' s => (s.select [0, 1, 4, 5] (by decide) rfl), ?_⟩
                            refine AL.any (rs := [7]) (by kernel_rfl) (by decide) ?_
                            refine ALs.cons (i := 7) rfl (Runs.free rfl) rfl rfl ?_ ?_
                            · skip
                              refine os_inline (cap := []) (vs := [(pB b6 0), (.agg #[(.int .i64 p_x.kind), (mkS p_x.name), (.int .i64 p_x.count), (.int .i64 p_x.strokes)])]) Tryd.call77 rfl rfl rfl Tryd.func77 rfl 14 Tryd.ntmps77 rfl (fun w' s => ?_)
                              refine WP.seq ?_
                              refine WP.region ?_
                              refine WL.step (Runs.free rfl) rfl rfl (os_box (cs := [(.int .i64 p_x.kind), (mkS p_x.name), (.int .i64 p_x.count), (.int .i64 p_x.strokes)]) rfl rfl rfl (fun b20 => ?_))
                              refine WL.step (Runs.free rfl) rfl rfl (os_alloc (cs := [(mkS []), (.int .i64 0), (.int .i64 0), (.int .i64 0), (.bool false), (.int .i64 0), (.int .i64 0)]) Tryd.zeroValue79 rfl rfl (fun b21 => ?_))
                              refine WL.nil ?_
                              refine then_normal ?_
                              refine WP.seq ?_
                              refine WP.region_any (S₀ := St w H [.blk b20 26 [(.int .i64 p_x.kind), (mkS p_x.name), (.int .i64 p_x.count), (.int .i64 p_x.strokes)], .blk b19 26 [(.int .i64 p_x.kind), (mkS p_x.name), (.int .i64 p_x.count), (.int .i64 p_x.strokes)], .blk b7 88 [(mkS [112, 97, 114, 116]), (.bool true), (.bool false), (.func (.func 61) #[] #[]), (mkS [99, 121, 99, 108, 101, 115]), (.bool true), (.bool true), (.func (.func 62) #[] #[]), (mkS [102, 97, 117, 108, 116]), (.bool false), (.bool false), (.func (.func 63) #[] #[]), (mkS [114, 101, 112, 97, 105, 114]), (.bool false), (.bool false), (.func (.func 64) #[] #[]), (mkS [114, 101, 112, 108, 97, 99, 101]), (.bool true), (.bool false), (.func (.func 65) #[] #[]), (mkS [114, 101, 109, 111, 118, 101]), (.bool false), (.bool false), (.func (.func 66) #[] #[])], .blk b6 24 [(.slice ao5 l3.length cap5), (.int .i64 p_m.cycles)], .row 79 (encItem).size l3.length (.slice ao5 l3.length cap5) xs3, .blk b3 24 [(.slice none 0 0), (.int .i64 0)], .blk b2 26 [(.int .i64 p_x.kind), (mkS p_x.name), (.int .i64 p_x.count), (.int .i64 p_x.strokes)]] H) 10 rfl (by kernel_rfl) (fun w' s => (s.select [1, 2, 3, 4, 5, 6, 7] (by decide) rfl)) (fun _ s => s.drew) ?_
                              refine AL.take (i := 0) rfl (by kernel_rfl) (by kernel_rfl) (by kernel_rfl) (Runs.free rfl) rfl rfl (ov_fieldAddr Tryd.underlying26 rfl rfl rfl Tryd.sizeOf9 rfl rfl) ?_
                              refine AL.take (i := 1) rfl (by kernel_rfl) (by kernel_rfl) (by kernel_rfl) (Runs.free rfl) rfl rfl (ov_load_box (i := 0) Tryd.isAgg9 rfl rfl rfl rfl) ?_
                              refine AL.take (i := 2) rfl (by kernel_rfl) (by kernel_rfl) (by kernel_rfl) (Runs.free rfl) rfl rfl (ov_fieldAddr Tryd.underlying26 rfl rfl rfl Tryd.sizeOf3 rfl rfl) ?_
                              refine AL.take (i := 3) rfl (by kernel_rfl) (by kernel_rfl) (by kernel_rfl) (Runs.free rfl) rfl rfl (ov_load_box (i := 0) Tryd.isAgg3 rfl rfl rfl rfl) ?_
                              refine AL.take (i := 4) rfl (by kernel_rfl) (by kernel_rfl) (by kernel_rfl) (Runs.free rfl) rfl rfl (ov_move rfl rfl) ?_
                              refine AL.take (i := 5) rfl (by kernel_rfl) (by kernel_rfl) (by kernel_rfl) (Runs.free rfl) rfl rfl (ov_nilCheckB rfl rfl) ?_
                              refine AL.take (i := 6) rfl (by kernel_rfl) (by kernel_rfl) (by kernel_rfl) (Runs.free rfl) rfl rfl (ov_fieldAddr Tryd.underlying24 rfl rfl rfl Tryd.sizeOf3 rfl rfl) ?_
                              refine AL.take (i := 7) rfl (by kernel_rfl) (by kernel_rfl) (by kernel_rfl) (Runs.free rfl) rfl rfl (ov_load_box (i := 3) Tryd.isAgg3 rfl rfl rfl rfl) ?_
                              refine AL.take (i := 8) rfl (by kernel_rfl) (by kernel_rfl) (by kernel_rfl) (Runs.free rfl) rfl rfl (ov_build (r := (.agg #[(mkS p_x.name), (.int .i64 p_x.count), (.int .i64 0), (.int .i64 0), (.bool false), (.int .i64 p_m.cycles), (.int .i64 0)])) rfl rfl (fun _ => by kernel_rfl)) ?_
                              refine AL.any (rs := [9]) (by kernel_rfl) (by decide) ?_
                              refine ALs.cons0 (i := 9) rfl (Runs.free rfl) rfl ?_ ?_
                              · skip
                                refine os_store (i := 0) (vs := [(mkS p_x.name), (.int .i64 p_x.count), (.int .i64 0), (.int .i64 0), (.bool false), (.int .i64 p_m.cycles), (.int .i64 0)]) (cs' := [(mkS p_x.name), (.int .i64 p_x.count), (.int .i64 0), (.int .i64 0), (.bool false), (.int .i64 p_m.cycles), (.int .i64 0)]) Tryd.sizeOf79 rfl rfl rfl rfl rfl rfl rfl rfl rfl ?_
                                refine ⟨fun w' s => (s.select [1, 2, 3, 4, 5, 6, 7] (by decide) rfl), ?_⟩
                                refine AL.done (by kernel_rfl) ?_
                                refine then_normal ?_
                                refine WP.ret ?_
                                refine retQ_ret (v := (.agg #[(mkS p_x.name), (.int .i64 p_x.count), (.int .i64 0), (.int .i64 0), (.bool false), (.int .i64 p_m.cycles), (.int .i64 0)])) Tryd.results77 (Res.cell rfl (box_loads (i := 0) Tryd.isAgg79 Tryd.sizeOf79 rfl rfl) Res.nil) rfl (fun w' s => ⟨_, ?_, s⟩)
                                refine ⟨fun w' s => (s.select [2, 3, 6, 7] (by decide) rfl), ?_⟩
                                refine AL.any (rs := [8]) (by kernel_rfl) (by decide) ?_
                                refine ALs.cons (i := 8) rfl (Runs.free rfl) rfl rfl ?_ ?_
                                · skip
                                  obtain ⟨x4, e15, hm⟩ := bind_some hm
                                  obtain ⟨h43, h44, h45, cs9, h46, h47⟩ := RL.get rl3 e15
                                  obtain rfl : cs9 = [(mkS x4.name), (.int .i64 x4.life), (.int .i64 x4.used), (.int .i64 x4.faults), (.bool x4.faulty), (.int .i64 x4.since), (.int .i64 x4.cycles)] := h46
                                  refine OQ.step (OV.quiet (ov_indexAddr_own (i := 5) Tryd.underlying22 Tryd.sizeOf79 rfl rfl rfl rfl h43 h44)) ?_
                                  refine ⟨fun w' s => (s.select [2, 3, 6, 7] (by decide) rfl), ?_⟩
                                  refine AL.any (rs := [9]) (by kernel_rfl) (by decide) ?_
                                  refine ALs.cons0 (i := 9) rfl (Runs.free rfl) rfl ?_ ?_
                                  · skip
                                    have rl16 := RL.set rl3 (y := (Item.mk p_x.name p_x.count 0 0 false p_m.cycles 0)) (off := 0) (vs := [(mkS p_x.name), (.int .i64 p_x.count), (.int .i64 0), (.int .i64 0), (.bool false), (.int .i64 p_m.cycles), (.int .i64 0)]) e15 h47 rfl (Nat.le_of_ble_eq_true rfl)
                                    have e16 := at?_set (y := (Item.mk p_x.name p_x.count 0 0 false p_m.cycles 0)) e15
                                    refine os_store_own (i := 5) (vs := [(mkS p_x.name), (.int .i64 p_x.count), (.int .i64 0), (.int .i64 0), (.bool false), (.int .i64 p_m.cycles), (.int .i64 0)]) Tryd.sizeOf79 rfl rfl rfl rfl (own_pos h43 h44) rfl rfl (elem_le (off := 0) h45 (Nat.le_of_ble_eq_true rfl)) rfl ?_
                                    rw [show l3.length = (List.set l3 (Int.toNat r1.1) (Item.mk p_x.name p_x.count 0 0 false p_m.cycles 0)).length from List.length_set.symm]
                                    obtain ⟨h48, h49, h50, cs10, h51, h52⟩ := rl16.get e16
                                    obtain rfl : cs10 = [(mkS p_x.name), (.int .i64 p_x.count), (.int .i64 0), (.int .i64 0), (.bool false), (.int .i64 p_m.cycles), (.int .i64 0)] := h51
                                    refine ⟨fun w' s => (s.select [2, 3, 6, 7] (by decide) rfl), ?_⟩
                                    refine AL.done (by kernel_rfl) ?_
                                    refine then_normal ?_
                                    exact ⟨(List.set l3 (Int.toNat r1.1) (Item.mk p_x.name p_x.count 0 0 false p_m.cycles 0)), ao5, cap5, (spl xs3 (Int.toNat r1.1 * encItem.size + 0) [(mkS p_x.name), (.int .i64 p_x.count), (.int .i64 0), (.int .i64 0), (.bool false), (.int .i64 p_m.cycles), (.int .i64 0)]), rl16, (Sub.nil _), fun w' s => (s.select [4, 5, 6, 7] (by decide) rfl), hm⟩
                                  exact ALs.nil
                                exact ALs.nil
                              exact ALs.nil
                            exact ALs.nil
                          refine ALs.cons (i := 7) rfl (Runs.free rfl) rfl rfl ?_ ?_
                          · skip
                            refine os_inline (cap := []) (vs := [(pB b6 0), (.agg #[(.int .i64 p_x.kind), (mkS p_x.name), (.int .i64 p_x.count), (.int .i64 p_x.strokes)])]) Tryd.call77 rfl rfl rfl Tryd.func77 rfl 14 Tryd.ntmps77 rfl (fun w' s => ?_)
                            refine WP.seq ?_
                            refine WP.region ?_
                            refine WL.step (Runs.free rfl) rfl rfl (os_box (cs := [(.int .i64 p_x.kind), (mkS p_x.name), (.int .i64 p_x.count), (.int .i64 p_x.strokes)]) rfl rfl rfl (fun b22 => ?_))
                            refine WL.step (Runs.free rfl) rfl rfl (os_alloc (cs := [(mkS []), (.int .i64 0), (.int .i64 0), (.int .i64 0), (.bool false), (.int .i64 0), (.int .i64 0)]) Tryd.zeroValue79 rfl rfl (fun b23 => ?_))
                            refine WL.nil ?_
                            refine then_normal ?_
                            refine WP.seq ?_
                            refine WP.region_any (S₀ := St w H [.blk b22 26 [(.int .i64 p_x.kind), (mkS p_x.name), (.int .i64 p_x.count), (.int .i64 p_x.strokes)], .blk b19 26 [(.int .i64 p_x.kind), (mkS p_x.name), (.int .i64 p_x.count), (.int .i64 p_x.strokes)], .blk b7 88 [(mkS [112, 97, 114, 116]), (.bool true), (.bool false), (.func (.func 61) #[] #[]), (mkS [99, 121, 99, 108, 101, 115]), (.bool true), (.bool true), (.func (.func 62) #[] #[]), (mkS [102, 97, 117, 108, 116]), (.bool false), (.bool false), (.func (.func 63) #[] #[]), (mkS [114, 101, 112, 97, 105, 114]), (.bool false), (.bool false), (.func (.func 64) #[] #[]), (mkS [114, 101, 112, 108, 97, 99, 101]), (.bool true), (.bool false), (.func (.func 65) #[] #[]), (mkS [114, 101, 109, 111, 118, 101]), (.bool false), (.bool false), (.func (.func 66) #[] #[])], .blk b6 24 [(.slice ao5 l3.length cap5), (.int .i64 p_m.cycles)], .row 79 (encItem).size l3.length (.slice ao5 l3.length cap5) xs3, .blk b3 24 [(.slice none 0 0), (.int .i64 0)], .blk b2 26 [(.int .i64 p_x.kind), (mkS p_x.name), (.int .i64 p_x.count), (.int .i64 p_x.strokes)]] H) 10 rfl (by kernel_rfl) (fun w' s => (s.select [1, 2, 3, 4, 5, 6, 7] (by decide) rfl)) (fun _ s => s.drew) ?_
                            refine AL.take (i := 0) rfl (by kernel_rfl) (by kernel_rfl) (by kernel_rfl) (Runs.free rfl) rfl rfl (ov_fieldAddr Tryd.underlying26 rfl rfl rfl Tryd.sizeOf9 rfl rfl) ?_
                            refine AL.take (i := 1) rfl (by kernel_rfl) (by kernel_rfl) (by kernel_rfl) (Runs.free rfl) rfl rfl (ov_load_box (i := 0) Tryd.isAgg9 rfl rfl rfl rfl) ?_
                            refine AL.take (i := 2) rfl (by kernel_rfl) (by kernel_rfl) (by kernel_rfl) (Runs.free rfl) rfl rfl (ov_fieldAddr Tryd.underlying26 rfl rfl rfl Tryd.sizeOf3 rfl rfl) ?_
                            refine AL.take (i := 3) rfl (by kernel_rfl) (by kernel_rfl) (by kernel_rfl) (Runs.free rfl) rfl rfl (ov_load_box (i := 0) Tryd.isAgg3 rfl rfl rfl rfl) ?_
                            refine AL.take (i := 4) rfl (by kernel_rfl) (by kernel_rfl) (by kernel_rfl) (Runs.free rfl) rfl rfl (ov_move rfl rfl) ?_
                            refine AL.take (i := 5) rfl (by kernel_rfl) (by kernel_rfl) (by kernel_rfl) (Runs.free rfl) rfl rfl (ov_nilCheckB rfl rfl) ?_
                            refine AL.take (i := 6) rfl (by kernel_rfl) (by kernel_rfl) (by kernel_rfl) (Runs.free rfl) rfl rfl (ov_fieldAddr Tryd.underlying24 rfl rfl rfl Tryd.sizeOf3 rfl rfl) ?_
                            refine AL.take (i := 7) rfl (by kernel_rfl) (by kernel_rfl) (by kernel_rfl) (Runs.free rfl) rfl rfl (ov_load_box (i := 3) Tryd.isAgg3 rfl rfl rfl rfl) ?_
                            refine AL.take (i := 8) rfl (by kernel_rfl) (by kernel_rfl) (by kernel_rfl) (Runs.free rfl) rfl rfl (ov_build (r := (.agg #[(mkS p_x.name), (.int .i64 p_x.count), (.int .i64 0), (.int .i64 0), (.bool false), (.int .i64 p_m.cycles), (.int .i64 0)])) rfl rfl (fun _ => by kernel_rfl)) ?_
                            refine AL.any (rs := [9]) (by kernel_rfl) (by decide) ?_
                            refine ALs.cons0 (i := 9) rfl (Runs.free rfl) rfl ?_ ?_
                            · skip
                              refine os_store (i := 0) (vs := [(mkS p_x.name), (.int .i64 p_x.count), (.int .i64 0), (.int .i64 0), (.bool false), (.int .i64 p_m.cycles), (.int .i64 0)]) (cs' := [(mkS p_x.name), (.int .i64 p_x.count), (.int .i64 0), (.int .i64 0), (.bool false), (.int .i64 p_m.cycles), (.int .i64 0)]) Tryd.sizeOf79 rfl rfl rfl rfl rfl rfl rfl rfl rfl ?_
                              refine ⟨fun w' s => (s.select [1, 2, 3, 4, 5, 6, 7] (by decide) rfl), ?_⟩
                              refine AL.done (by kernel_rfl) ?_
                              refine then_normal ?_
                              refine WP.ret ?_
                              refine retQ_ret (v := (.agg #[(mkS p_x.name), (.int .i64 p_x.count), (.int .i64 0), (.int .i64 0), (.bool false), (.int .i64 p_m.cycles), (.int .i64 0)])) Tryd.results77 (Res.cell rfl (box_loads (i := 0) Tryd.isAgg79 Tryd.sizeOf79 rfl rfl) Res.nil) rfl (fun w' s => ⟨_, ?_, s⟩)
                              refine ⟨fun w' s => (s.select [2, 3, 6, 7] (by decide) rfl), ?_⟩
                              refine AL.any (rs := [3]) (by kernel_rfl) (by decide) ?_
                              refine ALs.cons (i := 3) rfl (Runs.free rfl) rfl rfl ?_ ?_
                              · skip
                                refine OQ.step (OV.quiet (ov_load_box (i := 4) Tryd.isAgg22 rfl rfl rfl rfl)) ?_
                                refine ⟨fun w' s => (s.select [2, 3, 6, 7] (by decide) rfl), ?_⟩
                                refine AL.any (rs := [8]) (by kernel_rfl) (by decide) ?_
                                refine ALs.cons (i := 8) rfl (Runs.free rfl) rfl rfl ?_ ?_
                                · skip
                                  obtain ⟨x5, e17, hm⟩ := bind_some hm
                                  obtain ⟨h53, h54, h55, cs11, h56, h57⟩ := RL.get rl3 e17
                                  obtain rfl : cs11 = [(mkS x5.name), (.int .i64 x5.life), (.int .i64 x5.used), (.int .i64 x5.faults), (.bool x5.faulty), (.int .i64 x5.since), (.int .i64 x5.cycles)] := h56
                                  refine OQ.step (OV.quiet (ov_indexAddr_own (i := 5) Tryd.underlying22 Tryd.sizeOf79 rfl rfl rfl rfl h53 h54)) ?_
                                  refine ⟨fun w' s => (s.select [2, 3, 6, 7] (by decide) rfl), ?_⟩
                                  refine AL.any (rs := [9]) (by kernel_rfl) (by decide) ?_
                                  refine ALs.cons0 (i := 9) rfl (Runs.free rfl) rfl ?_ ?_
                                  · skip
                                    have rl17 := RL.set rl3 (y := (Item.mk p_x.name p_x.count 0 0 false p_m.cycles 0)) (off := 0) (vs := [(mkS p_x.name), (.int .i64 p_x.count), (.int .i64 0), (.int .i64 0), (.bool false), (.int .i64 p_m.cycles), (.int .i64 0)]) e17 h57 rfl (Nat.le_of_ble_eq_true rfl)
                                    have e18 := at?_set (y := (Item.mk p_x.name p_x.count 0 0 false p_m.cycles 0)) e17
                                    refine os_store_own (i := 5) (vs := [(mkS p_x.name), (.int .i64 p_x.count), (.int .i64 0), (.int .i64 0), (.bool false), (.int .i64 p_m.cycles), (.int .i64 0)]) Tryd.sizeOf79 rfl rfl rfl rfl (own_pos h53 h54) rfl rfl (elem_le (off := 0) h55 (Nat.le_of_ble_eq_true rfl)) rfl ?_
                                    rw [show l3.length = (List.set l3 (Int.toNat r1.1) (Item.mk p_x.name p_x.count 0 0 false p_m.cycles 0)).length from List.length_set.symm]
                                    obtain ⟨h58, h59, h60, cs12, h61, h62⟩ := rl17.get e18
                                    obtain rfl : cs12 = [(mkS p_x.name), (.int .i64 p_x.count), (.int .i64 0), (.int .i64 0), (.bool false), (.int .i64 p_m.cycles), (.int .i64 0)] := h61
                                    refine ⟨fun w' s => (s.select [2, 3, 6, 7] (by decide) rfl), ?_⟩
                                    refine AL.done (by kernel_rfl) ?_
                                    refine then_normal ?_
                                    exact ⟨(List.set l3 (Int.toNat r1.1) (Item.mk p_x.name p_x.count 0 0 false p_m.cycles 0)), ao5, cap5, (spl xs3 (Int.toNat r1.1 * encItem.size + 0) [(mkS p_x.name), (.int .i64 p_x.count), (.int .i64 0), (.int .i64 0), (.bool false), (.int .i64 p_m.cycles), (.int .i64 0)]), rl17, (Sub.nil _), fun w' s => (s.select [4, 5, 6, 7] (by decide) rfl), hm⟩
                                  exact ALs.nil
                                exact ALs.nil
                              exact ALs.nil
                            exact ALs.nil
                          exact ALs.nil
                        · rintro g' S' ⟨l8, ao10, cap10, xs5, rl18, hsub3, hS3, hm⟩
                          refine WP.sub hsub3 (WP.weaken hS3 ?_)
                          replace hm := (congrFun hk4 l8).symm.trans hm
                          refine WP.seq ?_
                          refine WP.region ?_
                          refine WL.quiet (Runs.free rfl) rfl rfl (OV.quiet (ov_assign rfl rfl)) ?_
                          refine WL.nil ?_
                          refine then_normal ?_
                          refine WP.ret ?_
                          refine retQ_ret (v := (.int .i64 0)) Tryd.results65 (Res.tmp rfl Res.nil) rfl (fun w' s => ⟨_, ?_, s⟩)
                          refine ⟨fun w' s => (s.select [2, 3] (by decide) rfl), ?_⟩
                          refine AL.take (i := 8) rfl (by kernel_rfl) (by kernel_rfl) (by kernel_rfl) (Runs.free rfl) rfl rfl (ov_assign rfl rfl) ?_
                          refine AL.done (by kernel_rfl) ?_
                          refine then_normal ?_
                          exact ⟨0, p_m.cycles, l8, ao10, cap10, xs5, rl18, (Sub.cons rfl (Sub.cons rfl (Sub.cons rfl (Sub.nil _)))), fun w' s => (s.select [0, 1, 2] (by decide) rfl), hm⟩
                      exact ALs.nil
                    · replace hm := ite_f hc18 hm
                      rcases Bool.eq_false_or_eq_true (p_x.kind == 5) with hc19 | hc19
                      · replace hm := ite_t hc19 hm
                        refine AL.take (i := 3) rfl (by kernel_rfl) (by kernel_rfl) (by kernel_rfl) (Runs.free rfl) rfl rfl (ov_index_at (j := 5) (cs := [(mkS [112, 97, 114, 116]), (.bool true), (.bool false), (.func (.func 61) #[] #[]), (mkS [99, 121, 99, 108, 101, 115]), (.bool true), (.bool true), (.func (.func 62) #[] #[]), (mkS [102, 97, 117, 108, 116]), (.bool false), (.bool false), (.func (.func 63) #[] #[]), (mkS [114, 101, 112, 97, 105, 114]), (.bool false), (.bool false), (.func (.func 64) #[] #[]), (mkS [114, 101, 112, 108, 97, 99, 101]), (.bool true), (.bool false), (.func (.func 65) #[] #[]), (mkS [114, 101, 109, 111, 118, 101]), (.bool false), (.bool false), (.func (.func 66) #[] #[])]) (r := (.agg #[(mkS [114, 101, 109, 111, 118, 101]), (.bool false), (.bool false), (.func (.func 66) #[] #[])])) (eq_of_beq hc19) rfl rfl rfl (fun _ => by kernel_rfl)) ?_
                        refine AL.take (i := 4) rfl (by kernel_rfl) (by kernel_rfl) (by kernel_rfl) (Runs.free rfl) rfl rfl (ov_field (cs := [(mkS [114, 101, 109, 111, 118, 101]), (.bool false), (.bool false), (.func (.func 66) #[] #[])]) (r := (.func (.func 66) #[] #[])) rfl rfl (fun _ => by kernel_rfl)) ?_
                        refine AL.any (rs := [7]) (by kernel_rfl) (by decide) ?_
                        refine ALs.cons (i := 7) rfl (Runs.free rfl) rfl rfl ?_ ?_
                        · skip
                          refine os_inline (cap := []) (vs := [(pB b6 0), (.int .i64 r1.1), (.agg #[(.int .i64 p_x.kind), (mkS p_x.name), (.int .i64 p_x.count), (.int .i64 p_x.strokes)])]) Tryd.call66 rfl rfl rfl Tryd.func66 rfl 18 Tryd.ntmps66 rfl (fun w' s => ?_)
                          refine WP.seq ?_
                          refine WP.region ?_
                          refine WL.step (Runs.free rfl) rfl rfl (os_box (cs := [(.int .i64 p_x.kind), (mkS p_x.name), (.int .i64 p_x.count), (.int .i64 p_x.strokes)]) rfl rfl rfl (fun b24 => ?_))
                          refine WL.quiet (Runs.free rfl) rfl rfl (OV.quiet (ov_assign rfl rfl)) ?_
                          refine WL.nil ?_
                          refine then_normal ?_
                          refine WP.seq ?_
                          refine WP.region ?_
                          refine WL.quiet (Runs.free rfl) rfl rfl (OV.quiet (ov_move rfl rfl)) ?_
                          refine WL.quiet (Runs.free rfl) rfl rfl (OV.quiet (ov_move rfl rfl)) ?_
                          refine WL.quiet (Runs.free rfl) rfl rfl (OV.quiet (ov_nilCheckB rfl rfl)) ?_
                          refine WL.quiet (Runs.free rfl) rfl rfl (OV.quiet (ov_fieldAddr Tryd.underlying24 rfl rfl rfl Tryd.sizeOf22 rfl rfl)) ?_
                          refine WL.quiet (Runs.free rfl) rfl rfl (OV.quiet (ov_load_box (i := 2) Tryd.isAgg22 rfl rfl rfl rfl)) ?_
                          refine WL.quiet (Runs.free rfl) rfl rfl (OV.quiet (ov_move rfl rfl)) ?_
                          refine WL.quiet (Runs.free rfl) rfl rfl (OV.quiet (ov_move rfl rfl)) ?_
                          refine WL.quiet (Runs.free rfl) rfl rfl (OV.quiet (ov_add rfl rfl rfl)) ?_
                          obtain ⟨l9, e19, hm⟩ := bind_some hm
                          refine WL.step (Runs.free rfl) rfl rfl (os_delete (i := 3) rfl rfl rfl rfl rfl rl3 e19 (fun ao11 cap11 ys4 rl19 => ?_))
                          refine WL.quiet (Runs.free rfl) rfl rfl (OV.quiet (ov_nilCheckB rfl rfl)) ?_
                          refine WL.quiet (Runs.free rfl) rfl rfl (OV.quiet (ov_fieldAddr Tryd.underlying24 rfl rfl rfl Tryd.sizeOf22 rfl rfl)) ?_
                          refine WL.step0 (Runs.free rfl) rfl (os_store (i := 2) (vs := [(.slice ao11 l9.length cap11)]) (cs' := [(.slice ao11 l9.length cap11), (.int .i64 p_m.cycles)]) Tryd.sizeOf22 rfl rfl rfl rfl rfl rfl rfl rfl rfl ?_)
                          refine WL.nil ?_
                          refine then_normal ?_
                          refine WP.seq ?_
                          refine WP.region ?_
                          refine WL.quiet (Runs.free rfl) rfl rfl (OV.quiet (ov_assign rfl rfl)) ?_
                          refine WL.nil ?_
                          refine then_normal ?_
                          refine WP.ret ?_
                          refine retQ_ret (v := (.int .i64 0)) Tryd.results66 (Res.tmp rfl Res.nil) rfl (fun w' s => ⟨_, ?_, s⟩)
                          refine ⟨fun w' s => (s.select [4, 5] (by decide) rfl), ?_⟩
                          refine AL.take (i := 8) rfl (by kernel_rfl) (by kernel_rfl) (by kernel_rfl) (Runs.free rfl) rfl rfl (ov_assign rfl rfl) ?_
                          refine AL.done (by kernel_rfl) ?_
                          refine then_normal ?_
                          exact ⟨0, p_m.cycles, l9, ao11, cap11, ys4, rl19, (Sub.cons rfl (Sub.cons rfl (Sub.cons rfl (Sub.nil _)))), fun w' s => (s.select [2, 3, 4] (by decide) rfl), hm⟩
                        exact ALs.nil
                      · replace hm := ite_f hc19 hm
                        exact (none_some hm).elim
          exact ALs.nil
        · rintro g' S' ⟨i1, i2, l10, ao12, cap12, xs6, rl20, hsub4, hS4, hm⟩
          refine WP.sub hsub4 (WP.weaken hS4 ?_)
          replace hm := (congrFun (congrFun (congrFun hk2 i1) i2) l10).symm.trans hm
          refine WP.seq ?_
          refine WP.region ?_
          refine WL.quiet (Runs.free rfl) rfl rfl (OV.quiet (ov_move rfl rfl)) ?_
          refine WL.quiet (Runs.free rfl) rfl rfl (OV.quiet (ov_neq rfl rfl rfl)) ?_
          refine WL.nil ?_
          refine then_normal ?_
          refine WP.cond rfl (fun hc20 => ?_) (fun hc20 => ?_)
          · replace hm := ite_t hc20 hm
            refine WP.seq ?_
            refine WP.region ?_
            refine WL.quiet (Runs.free rfl) rfl rfl (OV.quiet (ov_build (r := (.agg #[(.slice none 0 0), (.int .i64 0)])) rfl rfl (fun _ => by kernel_rfl))) ?_
            refine WL.quiet (Runs.free rfl) rfl rfl (OV.quiet (ov_move rfl rfl)) ?_
            refine WL.step0 (Runs.free rfl) rfl (os_store (i := 2) (vs := [(.slice none 0 0), (.int .i64 0)]) (cs' := [(.slice none 0 0), (.int .i64 0)]) Tryd.sizeOf24 rfl rfl rfl rfl rfl rfl rfl rfl rfl ?_)
            refine WL.quiet (Runs.free rfl) rfl rfl (OV.quiet (ov_assign rfl rfl)) ?_
            refine WL.nil ?_
            refine then_normal ?_
            refine WP.ret ?_
            refine then_ret ?_
            obtain rfl := Option.some.inj hm
            refine retQ_ret Tryd.results36 (Res.cell rfl (box_loads (i := 2) Tryd.isAgg24 Tryd.sizeOf24 rfl rfl) (Res.tmp rfl Res.nil)) rfl (fun w' s => ⟨s.below, ?_⟩)
            exact ⟨none, 0, rfl, SL.nil _ _ _, Nat.le_refl _⟩
          · replace hm := ite_f hc20 hm
            refine WP.skip ?_
            refine then_normal ?_
            refine WP.seq ?_
            refine WP.region ?_
            refine WL.quiet (Runs.free rfl) rfl rfl (OV.quiet (ov_load_whole (i := 0) Tryd.isAgg24 Tryd.sizeOf24 rfl rfl rfl rfl)) ?_
            refine WL.step0 (Runs.free rfl) rfl (os_store (i := 2) (vs := [(.slice ao12 l10.length cap12), (.int .i64 i2)]) (cs' := [(.slice ao12 l10.length cap12), (.int .i64 i2)]) Tryd.sizeOf24 rfl rfl rfl rfl rfl rfl rfl rfl rfl ?_)
            refine WL.quiet (Runs.free rfl) rfl rfl (OV.quiet (ov_assign rfl rfl)) ?_
            refine WL.nil ?_
            refine then_normal ?_
            refine WP.ret ?_
            obtain rfl := Option.some.inj hm
            refine retQ_ret Tryd.results36 (Res.cell rfl (box_loads (i := 2) Tryd.isAgg24 Tryd.sizeOf24 rfl rfl) (Res.tmp rfl Res.nil)) rfl (fun w' s => ⟨s.below, ?_⟩)
            obtain ⟨h63, hc21⟩ := s.ret_row (i := 1) rfl rl20
            exact ⟨ao12, cap12, rfl, h63, hc21⟩

theorem journal_Do_con (p_m : Machine) (p_x : Entry) (ao1 : Option Addr) (cap1 : Nat) (w : World) (H : Heap) (hH : Le H (hp w)) (h1 : SL H encItem ao1 p_m.items) (hc1 : p_m.items.length ≤ cap1) (hG : Glob H) (r : (Machine × Int)) (hm : journal_Do p_m p_x = some r) :
    Con Tryd.prog 10 [(.agg #[(.slice ao1 p_m.items.length cap1), (.int .i64 p_m.cycles)]), (.agg #[(.int .i64 p_x.kind), (mkS p_x.name), (.int .i64 p_x.count), (.int .i64 p_x.strokes)])] w H (fun v H' => ∃ (ao2 : Option Addr) (cap2 : Nat), v = (.tuple #[(.agg #[(.slice ao2 r.1.items.length cap2), (.int .i64 r.1.cycles)]), (.int .i64 r.2)]) ∧ SL H' encItem ao2 r.1.items ∧ r.1.items.length ≤ cap2) := by
  unfold journal_Do at hm
  refine con_of hH Tryd.func10 rfl 25 Tryd.ntmps10 rfl ?_
  refine WP.seq ?_
  refine WP.region ?_
  refine WL.step (Runs.free rfl) rfl rfl (os_box (cs := [(.slice ao1 p_m.items.length cap1), (.int .i64 p_m.cycles)]) rfl rfl rfl (fun b1 => ?_))
  refine WL.step (Runs.free rfl) rfl rfl (os_box (cs := [(.int .i64 p_x.kind), (mkS p_x.name), (.int .i64 p_x.count), (.int .i64 p_x.strokes)]) rfl rfl rfl (fun b2 => ?_))
  refine WL.step (Runs.free rfl) rfl rfl (os_alloc (cs := [(.slice none 0 0), (.int .i64 0)]) Tryd.zeroValue24 rfl rfl (fun b3 => ?_))
  refine WL.quiet (Runs.free rfl) rfl rfl (OV.quiet (ov_assign rfl rfl)) ?_
  refine WL.nil ?_
  refine then_normal ?_
  refine WP.seq ?_
  refine WP.seq ?_
  refine WP.region ?_
  refine WL.quiet (Runs.free rfl) rfl rfl (OV.quiet (ov_load_whole (i := 2) Tryd.isAgg24 Tryd.sizeOf24 rfl rfl rfl rfl)) ?_
  obtain ⟨r1, e1, hm⟩ := bind_some hm
  refine WL.quiet (Runs.free rfl) rfl rfl (oq_con (r := (.int .i64 r1)) Tryd.call13 rfl rfl (fun w' s => ⟨_, (journal_Check_con p_m ao1 cap1  w' H s.hold h1 hc1 hG r1 e1)⟩)) ?_
  refine WL.quiet (Runs.free rfl) rfl rfl (OV.quiet (ov_assign rfl rfl)) ?_
  refine WL.nil ?_
  refine then_normal ?_
  refine WP.seq ?_
  refine WP.region ?_
  refine WL.quiet (Runs.free rfl) rfl rfl (OV.quiet (ov_move rfl rfl)) ?_
  refine WL.quiet (Runs.free rfl) rfl rfl (OV.quiet (ov_neq rfl rfl rfl)) ?_
  refine WL.nil ?_
  refine then_normal ?_
  refine WP.cond rfl (fun hc3 => ?_) (fun hc3 => ?_)
  · replace hm := ite_t hc3 hm
    refine WP.seq ?_
    refine WP.region ?_
    refine WL.quiet (Runs.free rfl) rfl rfl (OV.quiet (ov_build (r := (.agg #[(.slice none 0 0), (.int .i64 0)])) rfl rfl (fun _ => by kernel_rfl))) ?_
    refine WL.quiet (Runs.free rfl) rfl rfl (OV.quiet (ov_move rfl rfl)) ?_
    refine WL.step0 (Runs.free rfl) rfl (os_store (i := 0) (vs := [(.slice none 0 0), (.int .i64 0)]) (cs' := [(.slice none 0 0), (.int .i64 0)]) Tryd.sizeOf24 rfl rfl rfl rfl rfl rfl rfl rfl rfl ?_)
    refine WL.quiet (Runs.free rfl) rfl rfl (OV.quiet (ov_assign rfl rfl)) ?_
    refine WL.nil ?_
    refine then_normal ?_
    refine WP.ret ?_
    refine then_ret ?_
    obtain rfl := Option.some.inj hm
    refine retQ_ret Tryd.results10 (Res.cell rfl (box_loads (i := 0) Tryd.isAgg24 Tryd.sizeOf24 rfl rfl) (Res.tmp rfl Res.nil)) rfl (fun w' s => ⟨s.below, ?_⟩)
    exact ⟨none, 0, rfl, SL.nil _ _ _, Nat.le_refl _⟩
  · replace hm := ite_f hc3 hm
    refine WP.skip ?_
    refine then_normal ?_
    refine WP.seq ?_
    refine WP.seq ?_
    refine WP.region ?_
    refine WL.quiet (Runs.free rfl) rfl rfl (OV.quiet (ov_load_whole (i := 1) Tryd.isAgg26 Tryd.sizeOf26 rfl rfl rfl rfl)) ?_
    obtain ⟨r2, e2, hm⟩ := bind_some hm
    refine WL.quiet (Runs.free rfl) rfl rfl (oq_con (r := (.int .i64 r2)) Tryd.call15 rfl rfl (fun w' s => ⟨_, (journal_Right_con p_x  w' H s.hold hG r2 e2)⟩)) ?_
    refine WL.quiet (Runs.free rfl) rfl rfl (OV.quiet (ov_assign rfl rfl)) ?_
    refine WL.nil ?_
    refine then_normal ?_
    refine WP.seq ?_
    refine WP.region ?_
    refine WL.quiet (Runs.free rfl) rfl rfl (OV.quiet (ov_move rfl rfl)) ?_
    refine WL.quiet (Runs.free rfl) rfl rfl (OV.quiet (ov_neq rfl rfl rfl)) ?_
    refine WL.nil ?_
    refine then_normal ?_
    refine WP.cond rfl (fun hc4 => ?_) (fun hc4 => ?_)
    · replace hm := ite_t hc4 hm
      refine WP.seq ?_
      refine WP.region ?_
      refine WL.quiet (Runs.free rfl) rfl rfl (OV.quiet (ov_build (r := (.agg #[(.slice none 0 0), (.int .i64 0)])) rfl rfl (fun _ => by kernel_rfl))) ?_
      refine WL.quiet (Runs.free rfl) rfl rfl (OV.quiet (ov_move rfl rfl)) ?_
      refine WL.step0 (Runs.free rfl) rfl (os_store (i := 0) (vs := [(.slice none 0 0), (.int .i64 0)]) (cs' := [(.slice none 0 0), (.int .i64 0)]) Tryd.sizeOf24 rfl rfl rfl rfl rfl rfl rfl rfl rfl ?_)
      refine WL.quiet (Runs.free rfl) rfl rfl (OV.quiet (ov_assign rfl rfl)) ?_
      refine WL.nil ?_
      refine then_normal ?_
      refine WP.ret ?_
      refine then_ret ?_
      obtain rfl := Option.some.inj hm
      refine retQ_ret Tryd.results10 (Res.cell rfl (box_loads (i := 0) Tryd.isAgg24 Tryd.sizeOf24 rfl rfl) (Res.tmp rfl Res.nil)) rfl (fun w' s => ⟨s.below, ?_⟩)
      exact ⟨none, 0, rfl, SL.nil _ _ _, Nat.le_refl _⟩
    · replace hm := ite_f hc4 hm
      refine WP.skip ?_
      refine then_normal ?_
      refine WP.seq ?_
      refine WP.region ?_
      refine WL.quiet (Runs.free rfl) rfl rfl (OV.quiet (ov_load_whole (i := 2) Tryd.isAgg24 Tryd.sizeOf24 rfl rfl rfl rfl)) ?_
      refine WL.quiet (Runs.free rfl) rfl rfl (OV.quiet (ov_load_whole (i := 1) Tryd.isAgg26 Tryd.sizeOf26 rfl rfl rfl rfl)) ?_
      obtain ⟨r3, e3, hm⟩ := bind_some hm
      refine WL.step (Runs.free rfl) rfl rfl (os_con Tryd.call36 rfl rfl (fun w' s => (journal_done_con p_m p_x ao1 cap1  w' H s.hold h1 hc1 hG r3 e3)) (fun rr1 H1 hle1 hR1 => ?_))
      replace h1 := h1.mono hle1
      replace hG := hG.mono hle1
      obtain ⟨ao3, cap3, rfl, h3, hc5⟩ := hR1
      refine WL.quiet (Runs.free rfl) rfl rfl (OV.quiet (ov_extract rfl rfl rfl)) ?_
      refine WL.quiet (Runs.free rfl) rfl rfl (OV.quiet (ov_extract rfl rfl rfl)) ?_
      refine WL.step0 (Runs.free rfl) rfl (os_store (i := 0) (vs := [(.slice ao3 r3.1.items.length cap3), (.int .i64 r3.1.cycles)]) (cs' := [(.slice ao3 r3.1.items.length cap3), (.int .i64 r3.1.cycles)]) Tryd.sizeOf24 rfl rfl rfl rfl rfl rfl rfl rfl rfl ?_)
      refine WL.quiet (Runs.free rfl) rfl rfl (OV.quiet (ov_assign rfl rfl)) ?_
      refine WL.nil ?_
      refine then_normal ?_
      refine WP.ret ?_
      obtain rfl := Option.some.inj hm
      refine retQ_ret Tryd.results10 (Res.cell rfl (box_loads (i := 0) Tryd.isAgg24 Tryd.sizeOf24 rfl rfl) (Res.tmp rfl Res.nil)) rfl (fun w' s => ⟨s.below, ?_⟩)
      exact ⟨ao3, cap3, rfl, h3.mono s.le_newer, hc5⟩

theorem journal_Due_con (p_m : Machine) (ao1 : Option Addr) (cap1 : Nat) (w : World) (H : Heap) (hH : Le H (hp w)) (h1 : SL H encItem ao1 p_m.items) (hc1 : p_m.items.length ≤ cap1) (hG : Glob H) (r : ((List (List UInt8)) × Int)) (hm : journal_Due p_m = some r) :
    Con Tryd.prog 18 [(.agg #[(.slice ao1 p_m.items.length cap1), (.int .i64 p_m.cycles)])] w H (fun v H' => ∃ (ao2 : Option Addr) (cap2 : Nat), v = (.tuple #[(.slice ao2 r.1.length cap2), (.int .i64 r.2)]) ∧ SL H' encStr ao2 r.1 ∧ r.1.length ≤ cap2) := by
  unfold journal_Due at hm
  refine con_of hH Tryd.func18 rfl 36 Tryd.ntmps18 rfl ?_
  refine WP.seq ?_
  refine WP.region ?_
  refine WL.step (Runs.free rfl) rfl rfl (os_box (cs := [(.slice ao1 p_m.items.length cap1), (.int .i64 p_m.cycles)]) rfl rfl rfl (fun b1 => ?_))
  refine WL.quiet (Runs.free rfl) rfl rfl (OV.quiet (ov_assign rfl rfl)) ?_
  refine WL.quiet (Runs.free rfl) rfl rfl (OV.quiet (ov_assign rfl rfl)) ?_
  refine WL.nil ?_
  refine then_normal ?_
  refine WP.seq ?_
  refine WP.seq ?_
  refine WP.region ?_
  refine WL.quiet (Runs.free rfl) rfl rfl (OV.quiet (ov_load_whole (i := 0) Tryd.isAgg24 Tryd.sizeOf24 rfl rfl rfl rfl)) ?_
  obtain ⟨r1, e1, hm⟩ := bind_some hm
  refine WL.quiet (Runs.free rfl) rfl rfl (oq_con (r := (.int .i64 r1)) Tryd.call13 rfl rfl (fun w' s => ⟨_, (journal_Check_con p_m ao1 cap1  w' H s.hold h1 hc1 hG r1 e1)⟩)) ?_
  refine WL.quiet (Runs.free rfl) rfl rfl (OV.quiet (ov_assign rfl rfl)) ?_
  refine WL.nil ?_
  refine then_normal ?_
  refine WP.seq ?_
  refine WP.region ?_
  refine WL.quiet (Runs.free rfl) rfl rfl (OV.quiet (ov_move rfl rfl)) ?_
  refine WL.quiet (Runs.free rfl) rfl rfl (OV.quiet (ov_neq rfl rfl rfl)) ?_
  refine WL.nil ?_
  refine then_normal ?_
  refine WP.cond rfl (fun hc3 => ?_) (fun hc3 => ?_)
  · replace hm := ite_t hc3 hm
    refine WP.seq ?_
    refine WP.region ?_
    refine WL.quiet (Runs.free rfl) rfl rfl (OV.quiet (ov_move rfl rfl)) ?_
    refine WL.quiet (Runs.free rfl) rfl rfl (OV.quiet (ov_assign rfl rfl)) ?_
    refine WL.quiet (Runs.free rfl) rfl rfl (OV.quiet (ov_assign rfl rfl)) ?_
    refine WL.nil ?_
    refine then_normal ?_
    refine WP.ret ?_
    refine then_ret ?_
    obtain rfl := Option.some.inj hm
    refine retQ_ret Tryd.results18 (Res.tmp rfl (Res.tmp rfl Res.nil)) rfl (fun w' s => ⟨s.below, ?_⟩)
    exact ⟨none, 0, rfl, SL.nil _ _ _, Nat.le_refl _⟩
  · replace hm := ite_f hc3 hm
    refine WP.skip ?_
    refine then_normal ?_
    refine WP.seq ?_
    refine WP.region ?_
    refine WL.quiet (Runs.free rfl) rfl rfl (OV.quiet (ov_assign rfl rfl)) ?_
    refine WL.nil ?_
    refine then_normal ?_
    obtain ⟨k1, hk1, hm⟩ := joinK_some hm
    refine WP.seq_join (fun g' S' => ∃ (l4 : (List (List UInt8))) (ao6 : Option Addr) (cap6 : Nat) (xs3 : List Value), RL H encStr l4 xs3 ∧ Sub [(5, (.slice ao6 l4.length cap6))] g' ∧ (∀ w', S' w' → St w H [.row 9 (encStr).size l4.length (.slice ao6 l4.length cap6) xs3] H w') ∧ k1 l4 = some r) ?_ ?_
    · skip
      refine WP.seq ?_
      refine WP.region ?_
      refine WL.quiet (Runs.free rfl) rfl rfl (OV.quiet (ov_fieldAddr Tryd.underlying24 rfl rfl rfl Tryd.sizeOf22 rfl rfl)) ?_
      refine WL.quiet (Runs.free rfl) rfl rfl (OV.quiet (ov_load_box (i := 0) Tryd.isAgg22 rfl rfl rfl rfl)) ?_
      refine WL.quiet (Runs.free rfl) rfl rfl (OV.quiet (ov_len_slice Tryd.underlying22 rfl rfl)) ?_
      refine WL.quiet (Runs.free rfl) rfl rfl (OV.quiet (ov_move rfl rfl)) ?_
      refine WL.nil ?_
      refine then_normal ?_
      refine WP.block ?_
      have rl1 := RL.nil (α := (List UInt8)) H encStr
      refine WP.weaken (fun _ s => s.nilrow 9 (encStr).size) ?_
      refine WP.loop (fun m1 g' S' => ∃ (i1 : Int) (l1 : (List (List UInt8))) (ao3 : Option Addr) (cap3 : Nat) (xs1 : List Value), RL H encStr l1 xs1 ∧ Sub [(5, (.slice ao3 l1.length cap3)), (14, (.slice ao1 p_m.items.length cap1)), (15, (.int .i64 (p_m.items.length : Int))), (16, (.int .i64 i1))] g' ∧ (∀ w', S' w' → St w H [.row 9 (encStr).size l1.length (.slice ao3 l1.length cap3) xs1] H w') ∧ journal_Due_loop1 p_m k1 m1 i1 l1 = some r) ((Int.toNat ((p_m.items.length : Int) - 0) + 1)) ⟨0, ([] : List (List UInt8)), none, 0, [], rl1, (Sub.cons rfl (Sub.cons rfl (Sub.cons rfl (Sub.cons rfl (Sub.nil _))))), fun w' s => (s.select [0] (by decide) rfl), hm⟩ ?_ ?_
      · rintro g' S' ⟨_, _, _, _, _, _, _, _, hm⟩
        exact none_some hm
      · rintro m1 g' S' ⟨i1, l1, ao3, cap3, xs1, rl2, hsub1, hS1, hm⟩
        refine WP.sub hsub1 (WP.weaken hS1 ?_)
        rw [journal_Due_loop1] at hm
        refine WP.seq ?_
        refine WP.region ?_
        refine WL.quiet (Runs.free rfl) rfl rfl (OV.quiet (ov_lss rfl rfl rfl)) ?_
        refine WL.nil ?_
        refine then_normal ?_
        refine WP.seq ?_
        refine WP.cond rfl (fun hc4 => ?_) (fun hc4 => ?_)
        · replace hm := ite_t hc4 hm
          refine WP.skip ?_
          refine then_normal ?_
          obtain ⟨k2, hk2, hm⟩ := joinK_some hm
          refine WP.seq_join (fun g' S' => ∃ (l3 : (List (List UInt8))) (ao5 : Option Addr) (cap5 : Nat) (xs2 : List Value), RL H encStr l3 xs2 ∧ Sub [(5, (.slice ao5 l3.length cap5)), (14, (.slice ao1 p_m.items.length cap1)), (15, (.int .i64 (p_m.items.length : Int))), (16, (.int .i64 i1))] g' ∧ (∀ w', S' w' → St w H [.row 9 (encStr).size l3.length (.slice ao5 l3.length cap5) xs2] H w') ∧ k2 l3 = some r) ?_ ?_
          · skip
            refine WP.block ?_
            refine WP.seq ?_
            refine WP.region ?_
            obtain ⟨x1, e2, hm⟩ := bind_some hm
            obtain ⟨h3, h4, h5, cs1, h6, h7⟩ := h1.get e2 (by decide)
            obtain rfl : cs1 = [(mkS x1.name), (.int .i64 x1.life), (.int .i64 x1.used), (.int .i64 x1.faults), (.bool x1.faulty), (.int .i64 x1.since), (.int .i64 x1.cycles)] := h6
            refine WL.quiet (Runs.free rfl) rfl rfl (OV.quiet (ov_indexAddr Tryd.underlying22 Tryd.sizeOf79 rfl rfl rfl h3 h4 h5)) ?_
            refine WL.quiet (Runs.free rfl) rfl rfl (OV.quiet (ov_load_elems (vs := [(mkS x1.name), (.int .i64 x1.life), (.int .i64 x1.used), (.int .i64 x1.faults), (.bool x1.faulty), (.int .i64 x1.since), (.int .i64 x1.cycles)]) Tryd.isAgg79 Tryd.sizeOf79 rfl rfl rfl h7 h5)) ?_
            refine WL.step (Runs.free rfl) rfl rfl (os_alloc (cs := [(mkS []), (.int .i64 0), (.int .i64 0), (.int .i64 0), (.bool false), (.int .i64 0), (.int .i64 0)]) Tryd.zeroValue79 rfl rfl (fun b2 => ?_))
            refine WL.step0 (Runs.free rfl) rfl (os_store (i := 0) (vs := [(mkS x1.name), (.int .i64 x1.life), (.int .i64 x1.used), (.int .i64 x1.faults), (.bool x1.faulty), (.int .i64 x1.since), (.int .i64 x1.cycles)]) (cs' := [(mkS x1.name), (.int .i64 x1.life), (.int .i64 x1.used), (.int .i64 x1.faults), (.bool x1.faulty), (.int .i64 x1.since), (.int .i64 x1.cycles)]) Tryd.sizeOf79 rfl rfl rfl rfl rfl rfl rfl rfl rfl ?_)
            refine WL.nil ?_
            refine then_normal ?_
            refine WP.seq ?_
            refine WP.region ?_
            refine WL.quiet (Runs.free rfl) rfl rfl (OV.quiet (ov_fieldAddr Tryd.underlying79 rfl rfl rfl Tryd.sizeOf4 rfl rfl)) ?_
            refine WL.quiet (Runs.free rfl) rfl rfl (OV.quiet (ov_load_box (i := 0) Tryd.isAgg4 rfl rfl rfl rfl)) ?_
            refine WL.quiet (Runs.free rfl) rfl rfl (OV.quiet (ov_move rfl rfl)) ?_
            refine WL.cut_bool 6 28 (x := (x1.faulty || (decide (x1.used ≥ x1.life)))) ?_ ?_
            · rcases Bool.eq_false_or_eq_true x1.faulty with hc5 | hc5
              · skip
                refine WL.idle (Idle.no rfl rfl rfl hc5) rfl rfl ?_
                refine WL.idle (Idle.no rfl rfl rfl hc5) rfl rfl ?_
                refine WL.idle (Idle.no rfl rfl rfl hc5) rfl rfl ?_
                refine WL.idle (Idle.no rfl rfl rfl hc5) rfl rfl ?_
                refine WL.idle (Idle.no rfl rfl rfl hc5) rfl rfl ?_
                refine WL.quiet (Runs.free rfl) rfl rfl (OV.quiet (ov_pick_true rfl (guard_eq rfl hc5) rfl)) ?_
                exact WL.nil ⟨Sub.cons' rfl (congrArg Value.bool (by rw [hc5]; rfl)) (Sub.skip rfl (Sub.skip rfl (Sub.skip rfl (Sub.skip rfl (Sub.skip rfl (Sub.skip rfl (Sub.refl _))))))), fun _ s => s⟩
              · skip
                refine WL.quiet (Runs.yes rfl rfl rfl hc5) rfl rfl (OV.quiet (ov_fieldAddr Tryd.underlying79 rfl rfl rfl Tryd.sizeOf3 rfl rfl)) ?_
                refine WL.quiet (Runs.yes rfl rfl rfl hc5) rfl rfl (OV.quiet (ov_load_box (i := 0) Tryd.isAgg3 rfl rfl rfl rfl)) ?_
                refine WL.quiet (Runs.yes rfl rfl rfl hc5) rfl rfl (OV.quiet (ov_fieldAddr Tryd.underlying79 rfl rfl rfl Tryd.sizeOf3 rfl rfl)) ?_
                refine WL.quiet (Runs.yes rfl rfl rfl hc5) rfl rfl (OV.quiet (ov_load_box (i := 0) Tryd.isAgg3 rfl rfl rfl rfl)) ?_
                refine WL.quiet (Runs.yes rfl rfl rfl hc5) rfl rfl (OV.quiet (ov_geq rfl rfl rfl)) ?_
                refine WL.quiet (Runs.free rfl) rfl rfl (OV.quiet (ov_pick_false rfl (guard_eq rfl hc5) rfl)) ?_
                exact WL.nil ⟨Sub.cons' rfl (congrArg Value.bool (by rw [hc5]; rfl)) (Sub.skip rfl (Sub.skip rfl (Sub.skip rfl (Sub.skip rfl (Sub.skip rfl (Sub.skip rfl (Sub.refl _))))))), fun _ s => s⟩
            refine WL.nil ?_
            refine then_normal ?_
            refine WP.cond rfl (fun hc6 => ?_) (fun hc6 => ?_)
            · replace hm := ite_t hc6 hm
              refine WP.region ?_
              refine WL.quiet (Runs.free rfl) rfl rfl (OV.quiet (ov_move rfl rfl)) ?_
              refine WL.quiet (Runs.free rfl) rfl rfl (OV.quiet (ov_fieldAddr Tryd.underlying79 rfl rfl rfl Tryd.sizeOf9 rfl rfl)) ?_
              refine WL.quiet (Runs.free rfl) rfl rfl (OV.quiet (ov_load_box (i := 0) Tryd.isAgg9 rfl rfl rfl rfl)) ?_
              have rl3 : RL H encStr ([x1.name] : List (List UInt8)) [(mkS x1.name)] := RL.cons (cs := [(mkS x1.name)]) (xs := []) rfl (RL.nil _ _)
              refine WL.step (Runs.free rfl) rfl rfl (os_buildSlice (cs := [(mkS x1.name)]) (E := 9) (sz := 1) rfl rfl (fun _ => by kernel_rfl) rfl (by decide) (fun b3 => ?_))
              obtain ⟨l2, e3, hm⟩ := bind_some hm
              refine WL.step (Runs.free rfl) rfl rfl (os_app (i := 2) (j := 0) (En := encStr) (xs := xs1) (ys := [(mkS x1.name)]) Tryd.underlying45 (by kernel_rfl : (Tryd.prog.info? 9).map (fun i => (i.zero, i.size, i.bytes)) = some (some (mkS []), (encStr).size, 16)) rfl (by decide) rfl rfl rfl rfl rfl rfl rl2 rl3 e3 (fun ao4 cap4 rl4 => ?_))
              refine WL.quiet (Runs.free rfl) rfl rfl (OV.quiet (ov_assign rfl rfl)) ?_
              refine WL.nil ?_
              refine block_normal ?_
              refine then_normal ?_
              exact ⟨(l1 ++ ([x1.name] : List (List UInt8))), ao4, cap4, (xs1 ++ [(mkS x1.name)]), rl4, (Sub.cons rfl (Sub.cons rfl (Sub.cons rfl (Sub.cons rfl (Sub.nil _))))), fun w' s => (s.select [2] (by decide) rfl), hm⟩
            · replace hm := ite_f hc6 hm
              refine WP.skip ?_
              refine block_normal ?_
              refine then_normal ?_
              exact ⟨l1, ao3, cap3, xs1, rl2, (Sub.cons rfl (Sub.cons rfl (Sub.cons rfl (Sub.cons rfl (Sub.nil _))))), fun w' s => (s.select [1] (by decide) rfl), hm⟩
          · rintro g' S' ⟨l3, ao5, cap5, xs2, rl5, hsub2, hS2, hm⟩
            refine WP.sub hsub2 (WP.weaken hS2 ?_)
            replace hm := (congrFun hk2 l3).symm.trans hm
            refine WP.region ?_
            refine WL.quiet (Runs.free rfl) rfl rfl (OV.quiet (ov_add rfl rfl rfl)) ?_
            refine WL.quiet (Runs.free rfl) rfl rfl (OV.quiet (ov_move rfl rfl)) ?_
            refine WL.nil ?_
            refine then_normal ?_
            exact ⟨(IntKind.wrap .i64 (i1 + 1)), l3, ao5, cap5, xs2, rl5, (Sub.cons rfl (Sub.cons rfl (Sub.cons rfl (Sub.cons rfl (Sub.nil _))))), fun w' s => s, hm⟩
        · replace hm := ite_f hc4 hm
          refine WP.exit ?_
          refine then_exit ?_
          refine then_exit ?_
          refine block_here ?_
          refine then_normal ?_
          exact ⟨l1, ao3, cap3, xs1, rl2, (Sub.cons rfl (Sub.nil _)), fun w' s => s, hm⟩
    · rintro g' S' ⟨l4, ao6, cap6, xs3, rl6, hsub3, hS3, hm⟩
      refine WP.sub hsub3 (WP.weaken hS3 ?_)
      replace hm := (congrFun hk1 l4).symm.trans hm
      refine WP.seq ?_
      refine WP.region ?_
      refine WL.quiet (Runs.free rfl) rfl rfl (OV.quiet (ov_move rfl rfl)) ?_
      refine WL.quiet (Runs.free rfl) rfl rfl (OV.quiet (ov_assign rfl rfl)) ?_
      refine WL.quiet (Runs.free rfl) rfl rfl (OV.quiet (ov_assign rfl rfl)) ?_
      refine WL.nil ?_
      refine then_normal ?_
      refine WP.ret ?_
      obtain rfl := Option.some.inj hm
      refine retQ_ret Tryd.results18 (Res.tmp rfl (Res.tmp rfl Res.nil)) rfl (fun w' s => ⟨s.below, ?_⟩)
      obtain ⟨h8, hc7⟩ := s.ret_row (i := 0) rfl rl6
      exact ⟨ao6, cap6, rfl, h8, hc7⟩

theorem journal_Left_con (p_m : Machine) (p_name : (List UInt8)) (p_strokes : Int) (ao1 : Option Addr) (cap1 : Nat) (w : World) (H : Heap) (hH : Le H (hp w)) (h1 : SL H encItem ao1 p_m.items) (hc1 : p_m.items.length ≤ cap1) (hG : Glob H) (r : (Int × Int)) (hm : journal_Left p_m p_name p_strokes = some r) :
    Con Tryd.prog 20 [(.agg #[(.slice ao1 p_m.items.length cap1), (.int .i64 p_m.cycles)]), (mkS p_name), (.int .i64 p_strokes)] w H (fun v _ => v = (.tuple #[(.int .i64 r.1), (.int .i64 r.2)])) := by
  unfold journal_Left at hm
  refine con_of hH Tryd.func20 rfl 50 Tryd.ntmps20 rfl ?_
  refine WP.seq ?_
  refine WP.region ?_
  refine WL.step (Runs.free rfl) rfl rfl (os_box (cs := [(.slice ao1 p_m.items.length cap1), (.int .i64 p_m.cycles)]) rfl rfl rfl (fun b1 => ?_))
  refine WL.quiet (Runs.free rfl) rfl rfl (OV.quiet (ov_assign rfl rfl)) ?_
  refine WL.quiet (Runs.free rfl) rfl rfl (OV.quiet (ov_assign rfl rfl)) ?_
  refine WL.nil ?_
  refine then_normal ?_
  refine WP.seq ?_
  refine WP.seq ?_
  refine WP.region ?_
  refine WL.quiet (Runs.free rfl) rfl rfl (OV.quiet (ov_load_whole (i := 0) Tryd.isAgg24 Tryd.sizeOf24 rfl rfl rfl rfl)) ?_
  obtain ⟨r1, e1, hm⟩ := bind_some hm
  refine WL.quiet (Runs.free rfl) rfl rfl (oq_con (r := (.int .i64 r1)) Tryd.call13 rfl rfl (fun w' s => ⟨_, (journal_Check_con p_m ao1 cap1  w' H s.hold h1 hc1 hG r1 e1)⟩)) ?_
  refine WL.quiet (Runs.free rfl) rfl rfl (OV.quiet (ov_assign rfl rfl)) ?_
  refine WL.nil ?_
  refine then_normal ?_
  refine WP.seq ?_
  refine WP.region ?_
  refine WL.quiet (Runs.free rfl) rfl rfl (OV.quiet (ov_move rfl rfl)) ?_
  refine WL.quiet (Runs.free rfl) rfl rfl (OV.quiet (ov_neq rfl rfl rfl)) ?_
  refine WL.nil ?_
  refine then_normal ?_
  refine WP.cond rfl (fun hc2 => ?_) (fun hc2 => ?_)
  · replace hm := ite_t hc2 hm
    refine WP.seq ?_
    refine WP.region ?_
    refine WL.quiet (Runs.free rfl) rfl rfl (OV.quiet (ov_move rfl rfl)) ?_
    refine WL.quiet (Runs.free rfl) rfl rfl (OV.quiet (ov_assign rfl rfl)) ?_
    refine WL.quiet (Runs.free rfl) rfl rfl (OV.quiet (ov_assign rfl rfl)) ?_
    refine WL.nil ?_
    refine then_normal ?_
    refine WP.ret ?_
    refine then_ret ?_
    obtain rfl := Option.some.inj hm
    refine retQ_ret Tryd.results20 (Res.tmp rfl (Res.tmp rfl Res.nil)) rfl (fun w' s => ⟨s.below, ?_⟩)
    exact rfl
  · replace hm := ite_f hc2 hm
    refine WP.skip ?_
    refine then_normal ?_
    refine WP.seq ?_
    refine WP.region ?_
    refine WL.quiet (Runs.free rfl) rfl rfl (OV.quiet (ov_load_whole (i := 0) Tryd.isAgg24 Tryd.sizeOf24 rfl rfl rfl rfl)) ?_
    refine WL.quiet (Runs.free rfl) rfl rfl (OV.quiet (ov_move rfl rfl)) ?_
    obtain ⟨r2, e2, hm⟩ := bind_some hm
    refine WL.quiet (Runs.free rfl) rfl rfl (oq_con (r := (.tuple #[(.int .i64 r2.1), (.bool r2.2)])) Tryd.call45 rfl rfl (fun w' s => ⟨_, (journal_find_con p_m p_name ao1 cap1  w' H s.hold h1 hc1 hG r2 e2)⟩)) ?_
    refine WL.quiet (Runs.free rfl) rfl rfl (OV.quiet (ov_move rfl rfl)) ?_
    refine WL.quiet (Runs.free rfl) rfl rfl (OV.quiet (ov_extract rfl rfl rfl)) ?_
    refine WL.quiet (Runs.free rfl) rfl rfl (OV.quiet (ov_extract rfl rfl rfl)) ?_
    refine WL.quiet (Runs.free rfl) rfl rfl (OV.quiet (ov_assign rfl rfl)) ?_
    refine WL.quiet (Runs.free rfl) rfl rfl (OV.quiet (ov_assign rfl rfl)) ?_
    refine WL.nil ?_
    refine then_normal ?_
    refine WP.seq ?_
    refine WP.block ?_
    refine WP.seq ?_
    refine WP.region ?_
    refine WL.quiet (Runs.free rfl) rfl rfl (OV.quiet (ov_move rfl rfl)) ?_
    refine WL.quiet (Runs.free rfl) rfl rfl (OV.quiet (ov_not rfl rfl)) ?_
    refine WL.quiet (Runs.free rfl) rfl rfl (OV.quiet (ov_assign rfl rfl)) ?_
    refine WL.nil ?_
    refine then_normal ?_
    refine WP.cond rfl (fun hc3 => ?_) (fun hc3 => ?_)
    · replace hm := ite_t hc3 hm
      refine WP.seq ?_
      refine WP.region ?_
      refine WL.quiet (Runs.free rfl) rfl rfl (OV.quiet (ov_assign rfl rfl)) ?_
      refine WL.quiet (Runs.free rfl) rfl rfl (OV.quiet (ov_assign rfl rfl)) ?_
      refine WL.nil ?_
      refine then_normal ?_
      refine WP.ret ?_
      refine block_ret ?_
      refine then_ret ?_
      obtain rfl := Option.some.inj hm
      refine retQ_ret Tryd.results20 (Res.tmp rfl (Res.tmp rfl Res.nil)) rfl (fun w' s => ⟨s.below, ?_⟩)
      exact rfl
    · replace hm := ite_f hc3 hm
      refine WP.seq ?_
      refine WP.region ?_
      refine WL.quiet (Runs.free rfl) rfl rfl (OV.quiet (ov_move rfl rfl)) ?_
      obtain ⟨r3, e3, hm⟩ := bind_some hm
      refine WL.quiet (Runs.free rfl) rfl rfl (oq_con (r := (.bool r3)) Tryd.call38 rfl rfl (fun w' s => ⟨_, (journal_in_con p_strokes 1 1048576  w' H s.hold hG r3 e3)⟩)) ?_
      refine WL.quiet (Runs.free rfl) rfl rfl (OV.quiet (ov_not rfl rfl)) ?_
      refine WL.quiet (Runs.free rfl) rfl rfl (OV.quiet (ov_assign rfl rfl)) ?_
      refine WL.nil ?_
      refine then_normal ?_
      refine WP.cond rfl (fun hc4 => ?_) (fun hc4 => ?_)
      · replace hm := ite_t hc4 hm
        refine WP.seq ?_
        refine WP.region ?_
        refine WL.quiet (Runs.free rfl) rfl rfl (OV.quiet (ov_assign rfl rfl)) ?_
        refine WL.quiet (Runs.free rfl) rfl rfl (OV.quiet (ov_assign rfl rfl)) ?_
        refine WL.nil ?_
        refine then_normal ?_
        refine WP.ret ?_
        refine block_ret ?_
        refine then_ret ?_
        obtain rfl := Option.some.inj hm
        refine retQ_ret Tryd.results20 (Res.tmp rfl (Res.tmp rfl Res.nil)) rfl (fun w' s => ⟨s.below, ?_⟩)
        exact rfl
      · replace hm := ite_f hc4 hm
        refine WP.skip ?_
        refine block_normal ?_
        refine then_normal ?_
        refine WP.seq ?_
        refine WP.region_draws (by kernel_rfl) (by kernel_rfl) (fun _ s => s.drew) ?_
        refine QL.quiet (Runs.free rfl) rfl rfl (OV.quiet (ov_fieldAddr Tryd.underlying24 rfl rfl rfl Tryd.sizeOf22 rfl rfl)) ?_
        refine QL.quiet (Runs.free rfl) rfl rfl (OV.quiet (ov_load_box (i := 0) Tryd.isAgg22 rfl rfl rfl rfl)) ?_
        refine QL.quiet (Runs.free rfl) rfl rfl (OV.quiet (ov_move rfl rfl)) ?_
        obtain ⟨x1, e4, hm⟩ := bind_some hm
        obtain ⟨h2, h3, h4, cs1, h5, h6⟩ := h1.get e4 (by decide)
        obtain rfl : cs1 = [(mkS x1.name), (.int .i64 x1.life), (.int .i64 x1.used), (.int .i64 x1.faults), (.bool x1.faulty), (.int .i64 x1.since), (.int .i64 x1.cycles)] := h5
        refine QL.quiet (Runs.free rfl) rfl rfl (OV.quiet (ov_indexAddr Tryd.underlying22 Tryd.sizeOf79 rfl rfl rfl h2 h3 h4)) ?_
        refine QL.quiet (Runs.free rfl) rfl rfl (OV.quiet (ov_fieldAddrE Tryd.underlying79 rfl rfl rfl Tryd.sizeOf3 rfl rfl)) ?_
        refine QL.quiet (Runs.free rfl) rfl rfl (OV.quiet (ov_load_elem (v := (.int .i64 x1.life)) Tryd.isAgg3 rfl rfl (h6.one (off := 1) rfl))) ?_
        refine QL.quiet (Runs.free rfl) rfl rfl (OV.quiet (ov_fieldAddr Tryd.underlying24 rfl rfl rfl Tryd.sizeOf22 rfl rfl)) ?_
        refine QL.quiet (Runs.free rfl) rfl rfl (OV.quiet (ov_load_box (i := 0) Tryd.isAgg22 rfl rfl rfl rfl)) ?_
        refine QL.quiet (Runs.free rfl) rfl rfl (OV.quiet (ov_move rfl rfl)) ?_
        obtain ⟨x2, e5, hm⟩ := bind_some hm
        obtain ⟨h7, h8, h9, cs2, h10, h11⟩ := h1.get e5 (by decide)
        obtain rfl : cs2 = [(mkS x2.name), (.int .i64 x2.life), (.int .i64 x2.used), (.int .i64 x2.faults), (.bool x2.faulty), (.int .i64 x2.since), (.int .i64 x2.cycles)] := h10
        refine QL.quiet (Runs.free rfl) rfl rfl (OV.quiet (ov_indexAddr Tryd.underlying22 Tryd.sizeOf79 rfl rfl rfl h7 h8 h9)) ?_
        refine QL.quiet (Runs.free rfl) rfl rfl (OV.quiet (ov_fieldAddrE Tryd.underlying79 rfl rfl rfl Tryd.sizeOf3 rfl rfl)) ?_
        refine QL.quiet (Runs.free rfl) rfl rfl (OV.quiet (ov_load_elem (v := (.int .i64 x2.used)) Tryd.isAgg3 rfl rfl (h11.one (off := 2) rfl))) ?_
        refine QL.quiet (Runs.free rfl) rfl rfl (OV.quiet (ov_sub rfl rfl rfl)) ?_
        refine QL.quiet (Runs.free rfl) rfl rfl (OV.quiet (ov_max rfl rfl rfl)) ?_
        refine QL.quiet (Runs.free rfl) rfl rfl (OV.quiet (ov_assign rfl rfl)) ?_
        refine QL.nil ?_
        refine then_normal ?_
        refine WP.seq ?_
        refine WP.region ?_
        refine WL.quiet (Runs.free rfl) rfl rfl (OV.quiet (ov_move rfl rfl)) ?_
        refine WL.quiet (Runs.free rfl) rfl rfl (OV.quiet (ov_move rfl rfl)) ?_
        refine WL.quiet (Runs.free rfl) rfl rfl (OV.quiet (ov_add rfl rfl rfl)) ?_
        refine WL.quiet (Runs.free rfl) rfl rfl (OV.quiet (ov_sub rfl rfl rfl)) ?_
        refine WL.quiet (Runs.free rfl) rfl rfl (OV.quiet (ov_move rfl rfl)) ?_
        obtain ⟨u1, e6, hm⟩ := bind_some hm
        replace e6 := guardO_some e6
        refine WL.quiet (Runs.free rfl) rfl rfl (OV.quiet (ov_quo rfl rfl rfl (by simpa using e6))) ?_
        refine WL.quiet (Runs.free rfl) rfl rfl (OV.quiet (ov_assign rfl rfl)) ?_
        refine WL.quiet (Runs.free rfl) rfl rfl (OV.quiet (ov_assign rfl rfl)) ?_
        refine WL.nil ?_
        refine then_normal ?_
        refine WP.ret ?_
        obtain rfl := Option.some.inj hm
        refine retQ_ret Tryd.results20 (Res.tmp rfl (Res.tmp rfl Res.nil)) rfl (fun w' s => ⟨s.below, ?_⟩)
        exact rfl

theorem journal_Run_con (p_l : (List Entry)) (ao1 : Option Addr) (cap1 : Nat) (w : World) (H : Heap) (hH : Le H (hp w)) (h1 : SL H encEntry ao1 p_l) (hc1 : p_l.length ≤ cap1) (hG : Glob H) (r : (Machine × Int × Int)) (hm : journal_Run p_l = some r) :
    Con Tryd.prog 25 [(.slice ao1 p_l.length cap1)] w H (fun v H' => ∃ (ao2 : Option Addr) (cap2 : Nat), v = (.tuple #[(.agg #[(.slice ao2 r.1.items.length cap2), (.int .i64 r.1.cycles)]), (.int .i64 r.2.1), (.int .i64 r.2.2)]) ∧ SL H' encItem ao2 r.1.items ∧ r.1.items.length ≤ cap2) := by
  unfold journal_Run at hm
  refine con_of hH Tryd.func25 rfl 37 Tryd.ntmps25 rfl ?_
  refine WP.seq ?_
  refine WP.region ?_
  refine WL.step (Runs.free rfl) rfl rfl (os_alloc (cs := [(.slice none 0 0), (.int .i64 0)]) Tryd.zeroValue24 rfl rfl (fun b1 => ?_))
  refine WL.quiet (Runs.free rfl) rfl rfl (OV.quiet (ov_assign rfl rfl)) ?_
  refine WL.quiet (Runs.free rfl) rfl rfl (OV.quiet (ov_assign rfl rfl)) ?_
  refine WL.nil ?_
  refine then_normal ?_
  refine WP.seq ?_
  refine WP.seq ?_
  refine WP.region ?_
  refine WL.quiet (Runs.free rfl) rfl rfl (OV.quiet (ov_move rfl rfl)) ?_
  refine WL.quiet (Runs.free rfl) rfl rfl (OV.quiet (ov_len_slice Tryd.underlying56 rfl rfl)) ?_
  refine WL.quiet (Runs.free rfl) rfl rfl (OV.quiet (ov_gtr rfl rfl rfl)) ?_
  refine WL.nil ?_
  refine then_normal ?_
  refine WP.cond rfl (fun hc3 => ?_) (fun hc3 => ?_)
  · replace hm := ite_t hc3 hm
    refine WP.seq ?_
    refine WP.region ?_
    refine WL.quiet (Runs.free rfl) rfl rfl (OV.quiet (ov_build (r := (.agg #[(.slice none 0 0), (.int .i64 0)])) rfl rfl (fun _ => by kernel_rfl))) ?_
    refine WL.step0 (Runs.free rfl) rfl (os_store (i := 0) (vs := [(.slice none 0 0), (.int .i64 0)]) (cs' := [(.slice none 0 0), (.int .i64 0)]) Tryd.sizeOf24 rfl rfl rfl rfl rfl rfl rfl rfl rfl ?_)
    refine WL.quiet (Runs.free rfl) rfl rfl (OV.quiet (ov_assign rfl rfl)) ?_
    refine WL.quiet (Runs.free rfl) rfl rfl (OV.quiet (ov_assign rfl rfl)) ?_
    refine WL.nil ?_
    refine then_normal ?_
    refine WP.ret ?_
    refine then_ret ?_
    obtain rfl := Option.some.inj hm
    refine retQ_ret Tryd.results25 (Res.cell rfl (box_loads (i := 0) Tryd.isAgg24 Tryd.sizeOf24 rfl rfl) (Res.tmp rfl (Res.tmp rfl Res.nil))) rfl (fun w' s => ⟨s.below, ?_⟩)
    exact ⟨none, 0, rfl, SL.nil _ _ _, Nat.le_refl _⟩
  · replace hm := ite_f hc3 hm
    refine WP.skip ?_
    refine then_normal ?_
    refine WP.seq ?_
    refine WP.region ?_
    refine WL.step (Runs.free rfl) rfl rfl (os_alloc (cs := [(.slice none 0 0), (.int .i64 0)]) Tryd.zeroValue24 rfl rfl (fun b2 => ?_))
    refine WL.nil ?_
    refine then_normal ?_
    obtain ⟨k1, hk1, hm⟩ := joinK_some hm
    refine WP.seq_join (fun g' S' => ∃ (H4 : Heap) (l3 : (List Item)) (ao6 : Option Addr) (cap6 : Nat) (i5 : Int), Le H H4 ∧ SL H4 encItem ao6 l3 ∧ l3.length ≤ cap6 ∧ Sub [(2, (pB b1 0)), (5, (pB b2 0))] g' ∧ (∀ w', S' w' → St w H [.blk b2 24 [(.slice ao6 l3.length cap6), (.int .i64 i5)], .blk b1 24 [(.slice none 0 0), (.int .i64 0)]] H4 w') ∧ k1 l3 i5 = some r) ?_ ?_
    · skip
      refine WP.seq ?_
      refine WP.region ?_
      refine WL.quiet (Runs.free rfl) rfl rfl (OV.quiet (ov_move rfl rfl)) ?_
      refine WL.quiet (Runs.free rfl) rfl rfl (OV.quiet (ov_len_slice Tryd.underlying56 rfl rfl)) ?_
      refine WL.quiet (Runs.free rfl) rfl rfl (OV.quiet (ov_move rfl rfl)) ?_
      refine WL.nil ?_
      refine then_normal ?_
      refine WP.block ?_
      refine WP.loop (fun m1 g' S' => ∃ (H1 : Heap) (i1 : Int) (l1 : (List Item)) (ao3 : Option Addr) (cap3 : Nat) (i2 : Int), Le H H1 ∧ SL H1 encItem ao3 l1 ∧ l1.length ≤ cap3 ∧ Sub [(2, (pB b1 0)), (5, (pB b2 0)), (13, (.slice ao1 p_l.length cap1)), (14, (.int .i64 (p_l.length : Int))), (15, (.int .i64 i1))] g' ∧ (∀ w', S' w' → St w H [.blk b2 24 [(.slice ao3 l1.length cap3), (.int .i64 i2)], .blk b1 24 [(.slice none 0 0), (.int .i64 0)]] H1 w') ∧ journal_Run_loop1 p_l k1 m1 i1 l1 i2 = some r) ((Int.toNat ((p_l.length : Int) - 0) + 1)) ⟨H, 0, [], none, 0, 0, (Le.refl _), (SL.nil _ _ _), (Nat.le_refl _), (Sub.cons rfl (Sub.cons rfl (Sub.cons rfl (Sub.cons rfl (Sub.cons rfl (Sub.nil _)))))), fun w' s => s, hm⟩ ?_ ?_
      · rintro g' S' ⟨_, _, _, _, _, _, _, _, _, _, _, hm⟩
        exact none_some hm
      · rintro m1 g' S' ⟨H1, i1, l1, ao3, cap3, i2, hle1, h3, hc4, hsub1, hS1, hm⟩
        refine WP.sub hsub1 (WP.weaken hS1 ?_)
        rw [journal_Run_loop1] at hm
        replace h1 := h1.mono hle1
        replace hG := hG.mono hle1
        refine WP.seq ?_
        refine WP.region ?_
        refine WL.quiet (Runs.free rfl) rfl rfl (OV.quiet (ov_lss rfl rfl rfl)) ?_
        refine WL.nil ?_
        refine then_normal ?_
        refine WP.seq ?_
        refine WP.cond rfl (fun hc5 => ?_) (fun hc5 => ?_)
        · replace hm := ite_t hc5 hm
          refine WP.skip ?_
          refine then_normal ?_
          refine WP.seq ?_
          refine WP.block ?_
          refine WP.seq ?_
          refine WP.region ?_
          refine WL.quiet (Runs.free rfl) rfl rfl (OV.quiet (ov_move rfl rfl)) ?_
          obtain ⟨x1, e1, hm⟩ := bind_some hm
          obtain ⟨h4, h5, h6, cs1, h7, h8⟩ := h1.get e1 (by decide)
          obtain rfl : cs1 = [(.int .i64 x1.kind), (mkS x1.name), (.int .i64 x1.count), (.int .i64 x1.strokes)] := h7
          refine WL.quiet (Runs.free rfl) rfl rfl (OV.quiet (ov_indexAddr Tryd.underlying56 Tryd.sizeOf26 rfl rfl rfl h4 h5 h6)) ?_
          refine WL.quiet (Runs.free rfl) rfl rfl (OV.quiet (ov_load_elems (vs := [(.int .i64 x1.kind), (mkS x1.name), (.int .i64 x1.count), (.int .i64 x1.strokes)]) Tryd.isAgg26 Tryd.sizeOf26 rfl rfl rfl h8 h6)) ?_
          refine WL.step (Runs.free rfl) rfl rfl (os_alloc (cs := [(.int .i64 0), (mkS []), (.int .i64 0), (.int .i64 0)]) Tryd.zeroValue26 rfl rfl (fun b3 => ?_))
          refine WL.quiet (Runs.free rfl) rfl rfl (OV.quiet (ov_assign rfl rfl)) ?_
          refine WL.step0 (Runs.free rfl) rfl (os_store (i := 0) (vs := [(.int .i64 x1.kind), (mkS x1.name), (.int .i64 x1.count), (.int .i64 x1.strokes)]) (cs' := [(.int .i64 x1.kind), (mkS x1.name), (.int .i64 x1.count), (.int .i64 x1.strokes)]) Tryd.sizeOf26 rfl rfl rfl rfl rfl rfl rfl rfl rfl ?_)
          refine WL.nil ?_
          refine then_normal ?_
          refine WP.seq ?_
          refine WP.region ?_
          refine WL.quiet (Runs.free rfl) rfl rfl (OV.quiet (ov_load_whole (i := 0) Tryd.isAgg26 Tryd.sizeOf26 rfl rfl rfl rfl)) ?_
          obtain ⟨r1, e2, hm⟩ := bind_some hm
          refine WL.quiet (Runs.free rfl) rfl rfl (oq_con (r := (.int .i64 r1)) Tryd.call15 rfl rfl (fun w' s => ⟨_, (journal_Right_con x1  w' H1 s.hold hG r1 e2)⟩)) ?_
          refine WL.quiet (Runs.free rfl) rfl rfl (OV.quiet (ov_assign rfl rfl)) ?_
          refine WL.nil ?_
          refine then_normal ?_
          obtain ⟨k2, hk2, hm⟩ := joinK_some hm
          refine WP.seq_join (fun g' S' => ∃ (H3 : Heap) (i3 : Int) (l2 : (List Item)) (ao5 : Option Addr) (cap5 : Nat) (i4 : Int), Le H1 H3 ∧ SL H3 encItem ao5 l2 ∧ l2.length ≤ cap5 ∧ Sub [(2, (pB b1 0)), (5, (pB b2 0)), (6, (.int .i64 i1)), (8, (.int .i64 i3)), (13, (.slice ao1 p_l.length cap1)), (14, (.int .i64 (p_l.length : Int))), (15, (.int .i64 i1))] g' ∧ (∀ w', S' w' → St w H [.blk b2 24 [(.slice ao5 l2.length cap5), (.int .i64 i4)], .blk b1 24 [(.slice none 0 0), (.int .i64 0)]] H3 w') ∧ k2 i3 l2 i4 = some r) ?_ ?_
          · skip
            refine WP.seq ?_
            refine WP.region ?_
            refine WL.quiet (Runs.free rfl) rfl rfl (OV.quiet (ov_move rfl rfl)) ?_
            refine WL.quiet (Runs.free rfl) rfl rfl (OV.quiet (ov_eql rfl rfl rfl)) ?_
            refine WL.nil ?_
            refine then_normal ?_
            refine WP.cond rfl (fun hc6 => ?_) (fun hc6 => ?_)
            · replace hm := ite_t hc6 hm
              refine WP.region ?_
              refine WL.quiet (Runs.free rfl) rfl rfl (OV.quiet (ov_load_whole (i := 1) Tryd.isAgg24 Tryd.sizeOf24 rfl rfl rfl rfl)) ?_
              refine WL.quiet (Runs.free rfl) rfl rfl (OV.quiet (ov_load_whole (i := 0) Tryd.isAgg26 Tryd.sizeOf26 rfl rfl rfl rfl)) ?_
              obtain ⟨r2, e3, hm⟩ := bind_some hm
              refine WL.step (Runs.free rfl) rfl rfl (os_con Tryd.call36 rfl rfl (fun w' s => (journal_done_con (Machine.mk l1 i2) x1 ao3 cap3  w' H1 s.hold h3 hc4 hG r2 e3)) (fun rr1 H2 hle2 hR1 => ?_))
              replace h1 := h1.mono hle2
              replace h8 := h8.mono hle2
              replace h3 := h3.mono hle2
              replace hG := hG.mono hle2
              obtain ⟨ao4, cap4, rfl, h9, hc7⟩ := hR1
              refine WL.quiet (Runs.free rfl) rfl rfl (OV.quiet (ov_move rfl rfl)) ?_
              refine WL.quiet (Runs.free rfl) rfl rfl (OV.quiet (ov_extract rfl rfl rfl)) ?_
              refine WL.quiet (Runs.free rfl) rfl rfl (OV.quiet (ov_extract rfl rfl rfl)) ?_
              refine WL.step0 (Runs.free rfl) rfl (os_store (i := 1) (vs := [(.slice ao4 r2.1.items.length cap4), (.int .i64 r2.1.cycles)]) (cs' := [(.slice ao4 r2.1.items.length cap4), (.int .i64 r2.1.cycles)]) Tryd.sizeOf24 rfl rfl rfl rfl rfl rfl rfl rfl rfl ?_)
              refine WL.quiet (Runs.free rfl) rfl rfl (OV.quiet (ov_assign rfl rfl)) ?_
              refine WL.nil ?_
              refine then_normal ?_
              exact ⟨H2, r2.2, r2.1.items, ao4, cap4, r2.1.cycles, hle2, h9, hc7, (Sub.cons rfl (Sub.cons rfl (Sub.cons rfl (Sub.cons rfl (Sub.cons rfl (Sub.cons rfl (Sub.cons rfl (Sub.nil _)))))))), fun w' s => (s.select [1, 2] (by decide) rfl), hm⟩
            · replace hm := ite_f hc6 hm
              refine WP.skip ?_
              refine then_normal ?_
              exact ⟨H1, r1, l1, ao3, cap3, i2, (Le.refl _), h3, hc4, (Sub.cons rfl (Sub.cons rfl (Sub.cons rfl (Sub.cons rfl (Sub.cons rfl (Sub.cons rfl (Sub.cons rfl (Sub.nil _)))))))), fun w' s => (s.select [1, 2] (by decide) rfl), hm⟩
          · rintro g' S' ⟨H3, i3, l2, ao5, cap5, i4, hle3, h10, hc8, hsub2, hS2, hm⟩
            refine WP.sub hsub2 (WP.weaken hS2 ?_)
            replace hm := (congrFun (congrFun (congrFun hk2 i3) l2) i4).symm.trans hm
            replace h1 := h1.mono hle3
            replace hG := hG.mono hle3
            refine WP.seq ?_
            refine WP.region ?_
            refine WL.quiet (Runs.free rfl) rfl rfl (OV.quiet (ov_move rfl rfl)) ?_
            refine WL.quiet (Runs.free rfl) rfl rfl (OV.quiet (ov_neq rfl rfl rfl)) ?_
            refine WL.nil ?_
            refine then_normal ?_
            refine WP.cond rfl (fun hc9 => ?_) (fun hc9 => ?_)
            · replace hm := ite_t hc9 hm
              refine WP.seq ?_
              refine WP.region ?_
              refine WL.quiet (Runs.free rfl) rfl rfl (OV.quiet (ov_build (r := (.agg #[(.slice none 0 0), (.int .i64 0)])) rfl rfl (fun _ => by kernel_rfl))) ?_
              refine WL.quiet (Runs.free rfl) rfl rfl (OV.quiet (ov_move rfl rfl)) ?_
              refine WL.quiet (Runs.free rfl) rfl rfl (OV.quiet (ov_move rfl rfl)) ?_
              refine WL.step0 (Runs.free rfl) rfl (os_store (i := 1) (vs := [(.slice none 0 0), (.int .i64 0)]) (cs' := [(.slice none 0 0), (.int .i64 0)]) Tryd.sizeOf24 rfl rfl rfl rfl rfl rfl rfl rfl rfl ?_)
              refine WL.quiet (Runs.free rfl) rfl rfl (OV.quiet (ov_assign rfl rfl)) ?_
              refine WL.quiet (Runs.free rfl) rfl rfl (OV.quiet (ov_assign rfl rfl)) ?_
              refine WL.nil ?_
              refine then_normal ?_
              refine WP.ret ?_
              refine block_ret ?_
              refine then_ret ?_
              refine then_ret ?_
              refine block_ret ?_
              refine then_ret ?_
              obtain rfl := Option.some.inj hm
              refine retQ_ret Tryd.results25 (Res.cell rfl (box_loads (i := 1) Tryd.isAgg24 Tryd.sizeOf24 rfl rfl) (Res.tmp rfl (Res.tmp rfl Res.nil))) rfl (fun w' s => ⟨s.below, ?_⟩)
              exact ⟨none, 0, rfl, SL.nil _ _ _, Nat.le_refl _⟩
            · replace hm := ite_f hc9 hm
              refine WP.skip ?_
              refine block_normal ?_
              refine then_normal ?_
              refine WP.region ?_
              refine WL.quiet (Runs.free rfl) rfl rfl (OV.quiet (ov_add rfl rfl rfl)) ?_
              refine WL.quiet (Runs.free rfl) rfl rfl (OV.quiet (ov_move rfl rfl)) ?_
              refine WL.nil ?_
              refine then_normal ?_
              exact ⟨H3, (IntKind.wrap .i64 (i1 + 1)), l2, ao5, cap5, i4, (hle1.trans hle3), h10, hc8, (Sub.cons rfl (Sub.cons rfl (Sub.cons rfl (Sub.cons rfl (Sub.cons rfl (Sub.nil _)))))), fun w' s => s, hm⟩
        · replace hm := ite_f hc5 hm
          refine WP.exit ?_
          refine then_exit ?_
          refine then_exit ?_
          refine block_here ?_
          refine then_normal ?_
          exact ⟨H1, l1, ao3, cap3, i2, hle1, h3, hc4, (Sub.cons rfl (Sub.cons rfl (Sub.nil _))), fun w' s => s, hm⟩
    · rintro g' S' ⟨H4, l3, ao6, cap6, i5, hle4, h11, hc10, hsub3, hS3, hm⟩
      refine WP.sub hsub3 (WP.weaken hS3 ?_)
      replace hm := (congrFun (congrFun hk1 l3) i5).symm.trans hm
      replace hG := hG.mono hle4
      refine WP.seq ?_
      refine WP.region ?_
      refine WL.quiet (Runs.free rfl) rfl rfl (OV.quiet (ov_load_whole (i := 0) Tryd.isAgg24 Tryd.sizeOf24 rfl rfl rfl rfl)) ?_
      refine WL.step0 (Runs.free rfl) rfl (os_store (i := 1) (vs := [(.slice ao6 l3.length cap6), (.int .i64 i5)]) (cs' := [(.slice ao6 l3.length cap6), (.int .i64 i5)]) Tryd.sizeOf24 rfl rfl rfl rfl rfl rfl rfl rfl rfl ?_)
      refine WL.quiet (Runs.free rfl) rfl rfl (OV.quiet (ov_assign rfl rfl)) ?_
      refine WL.quiet (Runs.free rfl) rfl rfl (OV.quiet (ov_assign rfl rfl)) ?_
      refine WL.nil ?_
      refine then_normal ?_
      refine WP.ret ?_
      obtain rfl := Option.some.inj hm
      refine retQ_ret Tryd.results25 (Res.cell rfl (box_loads (i := 1) Tryd.isAgg24 Tryd.sizeOf24 rfl rfl) (Res.tmp rfl (Res.tmp rfl Res.nil))) rfl (fun w' s => ⟨s.below, ?_⟩)
      exact ⟨ao6, cap6, rfl, h11.mono s.le_newer, hc10⟩

theorem journal_text_con (p_x : Entry) (w : World) (H : Heap) (hH : Le H (hp w)) (hG : Glob H) (r : (List UInt8)) (hm : journal_text p_x = some r) :
    Con Tryd.prog 47 [(.agg #[(.int .i64 p_x.kind), (mkS p_x.name), (.int .i64 p_x.count), (.int .i64 p_x.strokes)])] w H (fun v _ => v = (mkS r)) := by
  unfold journal_text at hm
  refine con_of hH Tryd.func47 rfl 32 Tryd.ntmps47 rfl ?_
  refine WP.seq ?_
  refine WP.region ?_
  refine WL.step (Runs.free rfl) rfl rfl (os_box (cs := [(.int .i64 p_x.kind), (mkS p_x.name), (.int .i64 p_x.count), (.int .i64 p_x.strokes)]) rfl rfl rfl (fun b1 => ?_))
  refine WL.quiet (Runs.free rfl) rfl rfl (OV.quiet (ov_assign rfl rfl)) ?_
  refine WL.nil ?_
  refine then_normal ?_
  obtain ⟨k1, hk1, hm⟩ := joinK_some hm
  refine WP.seq_join (fun g' S' => ∃ (b11 : Nat) (s1 : (List UInt8)) (c1 : Bool) (c2 : Bool) (v1 : Value), Sub [(1, (pB b1 0)), (3, (pB b11 0))] g' ∧ (∀ w', S' w' → St w H [.blk b11 87 [(mkS s1), (.bool c1), (.bool c2), v1], .blk b1 26 [(.int .i64 p_x.kind), (mkS p_x.name), (.int .i64 p_x.count), (.int .i64 p_x.strokes)]] H w') ∧ k1 s1 c1 c2 = some r) ?_ ?_
  · skip
    refine WP.region_any (S₀ := St w H [.blk b1 26 [(.int .i64 p_x.kind), (mkS p_x.name), (.int .i64 p_x.count), (.int .i64 p_x.strokes)]] H) 6 rfl (by kernel_rfl) (fun w' s => s) (fun _ s => s.drew) ?_
    refine AL.take (i := 1) rfl (by kernel_rfl) (by kernel_rfl) (by kernel_rfl) (Runs.free rfl) rfl rfl (ov_fieldAddr Tryd.underlying26 rfl rfl rfl Tryd.sizeOf3 rfl rfl) ?_
    refine AL.take (i := 2) rfl (by kernel_rfl) (by kernel_rfl) (by kernel_rfl) (Runs.free rfl) rfl rfl (ov_load_box (i := 0) Tryd.isAgg3 rfl rfl rfl rfl) ?_
    refine AL.any (rs := [0, 4]) (by kernel_rfl) (by decide) ?_
    refine ALs.cons (i := 0) rfl (Runs.free rfl) rfl rfl ?_ ?_
    · skip
      refine os_inline (cap := []) (vs := []) Tryd.call43 rfl rfl rfl Tryd.func43 rfl 8 Tryd.ntmps43 rfl (fun w' s => ?_)
      refine WP.seq ?_
      refine WP.region ?_
      refine WL.step (Runs.free rfl) rfl rfl (os_alloc (cs := [(mkS []), (.bool false), (.bool false), .nilFunc, (mkS []), (.bool false), (.bool false), .nilFunc, (mkS []), (.bool false), (.bool false), .nilFunc, (mkS []), (.bool false), (.bool false), .nilFunc, (mkS []), (.bool false), (.bool false), .nilFunc, (mkS []), (.bool false), (.bool false), .nilFunc]) Tryd.zeroValue88 rfl rfl (fun b2 => ?_))
      refine WL.nil ?_
      refine then_normal ?_
      refine WP.seq ?_
      refine WP.region ?_
      refine WL.quiet (Runs.free rfl) rfl rfl (OV.quiet (ov_build (r := (.agg #[(mkS [112, 97, 114, 116]), (.bool true), (.bool false), (.func (.func 61) #[] #[])])) rfl rfl (fun _ => by kernel_rfl))) ?_
      refine WL.quiet (Runs.free rfl) rfl rfl (OV.quiet (ov_build (r := (.agg #[(mkS [99, 121, 99, 108, 101, 115]), (.bool true), (.bool true), (.func (.func 62) #[] #[])])) rfl rfl (fun _ => by kernel_rfl))) ?_
      refine WL.quiet (Runs.free rfl) rfl rfl (OV.quiet (ov_build (r := (.agg #[(mkS [102, 97, 117, 108, 116]), (.bool false), (.bool false), (.func (.func 63) #[] #[])])) rfl rfl (fun _ => by kernel_rfl))) ?_
      refine WL.quiet (Runs.free rfl) rfl rfl (OV.quiet (ov_build (r := (.agg #[(mkS [114, 101, 112, 97, 105, 114]), (.bool false), (.bool false), (.func (.func 64) #[] #[])])) rfl rfl (fun _ => by kernel_rfl))) ?_
      refine WL.quiet (Runs.free rfl) rfl rfl (OV.quiet (ov_build (r := (.agg #[(mkS [114, 101, 112, 108, 97, 99, 101]), (.bool true), (.bool false), (.func (.func 65) #[] #[])])) rfl rfl (fun _ => by kernel_rfl))) ?_
      refine WL.quiet (Runs.free rfl) rfl rfl (OV.quiet (ov_build (r := (.agg #[(mkS [114, 101, 109, 111, 118, 101]), (.bool false), (.bool false), (.func (.func 66) #[] #[])])) rfl rfl (fun _ => by kernel_rfl))) ?_
      refine WL.quiet (Runs.free rfl) rfl rfl (OV.quiet (ov_build (r := (.agg #[(mkS [112, 97, 114, 116]), (.bool true), (.bool false), (.func (.func 61) #[] #[]), (mkS [99, 121, 99, 108, 101, 115]), (.bool true), (.bool true), (.func (.func 62) #[] #[]), (mkS [102, 97, 117, 108, 116]), (.bool false), (.bool false), (.func (.func 63) #[] #[]), (mkS [114, 101, 112, 97, 105, 114]), (.bool false), (.bool false), (.func (.func 64) #[] #[]), (mkS [114, 101, 112, 108, 97, 99, 101]), (.bool true), (.bool false), (.func (.func 65) #[] #[]), (mkS [114, 101, 109, 111, 118, 101]), (.bool false), (.bool false), (.func (.func 66) #[] #[])])) rfl rfl (fun _ => by kernel_rfl))) ?_
      refine WL.step0 (Runs.free rfl) rfl (os_store (i := 0) (vs := [(mkS [112, 97, 114, 116]), (.bool true), (.bool false), (.func (.func 61) #[] #[]), (mkS [99, 121, 99, 108, 101, 115]), (.bool true), (.bool true), (.func (.func 62) #[] #[]), (mkS [102, 97, 117, 108, 116]), (.bool false), (.bool false), (.func (.func 63) #[] #[]), (mkS [114, 101, 112, 97, 105, 114]), (.bool false), (.bool false), (.func (.func 64) #[] #[]), (mkS [114, 101, 112, 108, 97, 99, 101]), (.bool true), (.bool false), (.func (.func 65) #[] #[]), (mkS [114, 101, 109, 111, 118, 101]), (.bool false), (.bool false), (.func (.func 66) #[] #[])]) (cs' := [(mkS [112, 97, 114, 116]), (.bool true), (.bool false), (.func (.func 61) #[] #[]), (mkS [99, 121, 99, 108, 101, 115]), (.bool true), (.bool true), (.func (.func 62) #[] #[]), (mkS [102, 97, 117, 108, 116]), (.bool false), (.bool false), (.func (.func 63) #[] #[]), (mkS [114, 101, 112, 97, 105, 114]), (.bool false), (.bool false), (.func (.func 64) #[] #[]), (mkS [114, 101, 112, 108, 97, 99, 101]), (.bool true), (.bool false), (.func (.func 65) #[] #[]), (mkS [114, 101, 109, 111, 118, 101]), (.bool false), (.bool false), (.func (.func 66) #[] #[])]) Tryd.sizeOf88 rfl rfl rfl rfl rfl rfl rfl rfl rfl ?_)
      refine WL.nil ?_
      refine then_normal ?_
      refine WP.ret ?_
      refine retQ_ret (v := (.agg #[(mkS [112, 97, 114, 116]), (.bool true), (.bool false), (.func (.func 61) #[] #[]), (mkS [99, 121, 99, 108, 101, 115]), (.bool true), (.bool true), (.func (.func 62) #[] #[]), (mkS [102, 97, 117, 108, 116]), (.bool false), (.bool false), (.func (.func 63) #[] #[]), (mkS [114, 101, 112, 97, 105, 114]), (.bool false), (.bool false), (.func (.func 64) #[] #[]), (mkS [114, 101, 112, 108, 97, 99, 101]), (.bool true), (.bool false), (.func (.func 65) #[] #[]), (mkS [114, 101, 109, 111, 118, 101]), (.bool false), (.bool false), (.func (.func 66) #[] #[])])) Tryd.results43 (Res.cell rfl (box_loads (i := 0) Tryd.isAgg88 Tryd.sizeOf88 rfl rfl) Res.nil) rfl (fun w' s => ⟨_, ?_, s⟩)
      refine ⟨fun w' s => (s.select [1] (by decide) rfl), ?_⟩
      rcases Bool.eq_false_or_eq_true (p_x.kind == 0) with hc1 | hc1
      · replace hm := ite_t hc1 hm
        refine AL.take (i := 3) rfl (by kernel_rfl) (by kernel_rfl) (by kernel_rfl) (Runs.free rfl) rfl rfl (ov_index_at (j := 0) (cs := [(mkS [112, 97, 114, 116]), (.bool true), (.bool false), (.func (.func 61) #[] #[]), (mkS [99, 121, 99, 108, 101, 115]), (.bool true), (.bool true), (.func (.func 62) #[] #[]), (mkS [102, 97, 117, 108, 116]), (.bool false), (.bool false), (.func (.func 63) #[] #[]), (mkS [114, 101, 112, 97, 105, 114]), (.bool false), (.bool false), (.func (.func 64) #[] #[]), (mkS [114, 101, 112, 108, 97, 99, 101]), (.bool true), (.bool false), (.func (.func 65) #[] #[]), (mkS [114, 101, 109, 111, 118, 101]), (.bool false), (.bool false), (.func (.func 66) #[] #[])]) (r := (.agg #[(mkS [112, 97, 114, 116]), (.bool true), (.bool false), (.func (.func 61) #[] #[])])) (eq_of_beq hc1) rfl rfl rfl (fun _ => by kernel_rfl)) ?_
        refine AL.any (rs := [4]) (by kernel_rfl) (by decide) ?_
        refine ALs.cons (i := 4) rfl (Runs.free rfl) rfl rfl ?_ ?_
        · skip
          refine os_alloc (cs := [(mkS []), (.bool false), (.bool false), .nilFunc]) Tryd.zeroValue87 rfl rfl (fun b3 => ?_)
          refine ⟨fun w' s => (s.select [2] (by decide) rfl), ?_⟩
          refine AL.any (rs := [5]) (by kernel_rfl) (by decide) ?_
          refine ALs.cons0 (i := 5) rfl (Runs.free rfl) rfl ?_ ?_
          · skip
            refine os_store (i := 0) (vs := [(mkS [112, 97, 114, 116]), (.bool true), (.bool false), (.func (.func 61) #[] #[])]) (cs' := [(mkS [112, 97, 114, 116]), (.bool true), (.bool false), (.func (.func 61) #[] #[])]) Tryd.sizeOf87 rfl rfl rfl rfl rfl rfl rfl rfl rfl ?_
            refine ⟨fun w' s => (s.select [2] (by decide) rfl), ?_⟩
            refine AL.done (by kernel_rfl) ?_
            refine then_normal ?_
            exact ⟨b3, [112, 97, 114, 116], true, false, (.func (.func 61) #[] #[]), (Sub.cons rfl (Sub.cons rfl (Sub.nil _))), fun w' s => (s.select [0, 2] (by decide) rfl), hm⟩
          exact ALs.nil
        exact ALs.nil
      · replace hm := ite_f hc1 hm
        rcases Bool.eq_false_or_eq_true (p_x.kind == 1) with hc2 | hc2
        · replace hm := ite_t hc2 hm
          refine AL.take (i := 3) rfl (by kernel_rfl) (by kernel_rfl) (by kernel_rfl) (Runs.free rfl) rfl rfl (ov_index_at (j := 1) (cs := [(mkS [112, 97, 114, 116]), (.bool true), (.bool false), (.func (.func 61) #[] #[]), (mkS [99, 121, 99, 108, 101, 115]), (.bool true), (.bool true), (.func (.func 62) #[] #[]), (mkS [102, 97, 117, 108, 116]), (.bool false), (.bool false), (.func (.func 63) #[] #[]), (mkS [114, 101, 112, 97, 105, 114]), (.bool false), (.bool false), (.func (.func 64) #[] #[]), (mkS [114, 101, 112, 108, 97, 99, 101]), (.bool true), (.bool false), (.func (.func 65) #[] #[]), (mkS [114, 101, 109, 111, 118, 101]), (.bool false), (.bool false), (.func (.func 66) #[] #[])]) (r := (.agg #[(mkS [99, 121, 99, 108, 101, 115]), (.bool true), (.bool true), (.func (.func 62) #[] #[])])) (eq_of_beq hc2) rfl rfl rfl (fun _ => by kernel_rfl)) ?_
          refine AL.any (rs := [4]) (by kernel_rfl) (by decide) ?_
          refine ALs.cons (i := 4) rfl (Runs.free rfl) rfl rfl ?_ ?_
          · skip
            refine os_alloc (cs := [(mkS []), (.bool false), (.bool false), .nilFunc]) Tryd.zeroValue87 rfl rfl (fun b4 => ?_)
            refine ⟨fun w' s => (s.select [2] (by decide) rfl), ?_⟩
            refine AL.any (rs := [5]) (by kernel_rfl) (by decide) ?_
            refine ALs.cons0 (i := 5) rfl (Runs.free rfl) rfl ?_ ?_
            · skip
              refine os_store (i := 0) (vs := [(mkS [99, 121, 99, 108, 101, 115]), (.bool true), (.bool true), (.func (.func 62) #[] #[])]) (cs' := [(mkS [99, 121, 99, 108, 101, 115]), (.bool true), (.bool true), (.func (.func 62) #[] #[])]) Tryd.sizeOf87 rfl rfl rfl rfl rfl rfl rfl rfl rfl ?_
              refine ⟨fun w' s => (s.select [2] (by decide) rfl), ?_⟩
              refine AL.done (by kernel_rfl) ?_
              refine then_normal ?_
              exact ⟨b4, [99, 121, 99, 108, 101, 115], true, true, (.func (.func 62) #[] #[]), (Sub.cons rfl (Sub.cons rfl (Sub.nil _))), fun w' s => (s.select [0, 2] (by decide) rfl), hm⟩
            exact ALs.nil
          exact ALs.nil
        · replace hm := ite_f hc2 hm
          rcases Bool.eq_false_or_eq_true (p_x.kind == 2) with hc3 | hc3
          · replace hm := ite_t hc3 hm
            refine AL.take (i := 3) rfl (by kernel_rfl) (by kernel_rfl) (by kernel_rfl) (Runs.free rfl) rfl rfl (ov_index_at (j := 2) (cs := [(mkS [112, 97, 114, 116]), (.bool true), (.bool false), (.func (.func 61) #[] #[]), (mkS [99, 121, 99, 108, 101, 115]), (.bool true), (.bool true), (.func (.func 62) #[] #[]), (mkS [102, 97, 117, 108, 116]), (.bool false), (.bool false), (.func (.func 63) #[] #[]), (mkS [114, 101, 112, 97, 105, 114]), (.bool false), (.bool false), (.func (.func 64) #[] #[]), (mkS [114, 101, 112, 108, 97, 99, 101]), (.bool true), (.bool false), (.func (.func 65) #[] #[]), (mkS [114, 101, 109, 111, 118, 101]), (.bool false), (.bool false), (.func (.func 66) #[] #[])]) (r := (.agg #[(mkS [102, 97, 117, 108, 116]), (.bool false), (.bool false), (.func (.func 63) #[] #[])])) (eq_of_beq hc3) rfl rfl rfl (fun _ => by kernel_rfl)) ?_
            refine AL.any (rs := [4]) (by kernel_rfl) (by decide) ?_
            refine ALs.cons (i := 4) rfl (Runs.free rfl) rfl rfl ?_ ?_
            · skip
              refine os_alloc (cs := [(mkS []), (.bool false), (.bool false), .nilFunc]) Tryd.zeroValue87 rfl rfl (fun b5 => ?_)
              refine ⟨fun w' s => (s.select [2] (by decide) rfl), ?_⟩
              refine AL.any (rs := [5]) (by kernel_rfl) (by decide) ?_
              refine ALs.cons0 (i := 5) rfl (Runs.free rfl) rfl ?_ ?_
              · skip
                refine os_store (i := 0) (vs := [(mkS [102, 97, 117, 108, 116]), (.bool false), (.bool false), (.func (.func 63) #[] #[])]) (cs' := [(mkS [102, 97, 117, 108, 116]), (.bool false), (.bool false), (.func (.func 63) #[] #[])]) Tryd.sizeOf87 rfl rfl rfl rfl rfl rfl rfl rfl rfl ?_
                refine ⟨fun w' s => (s.select [2] (by decide) rfl), ?_⟩
                refine AL.done (by kernel_rfl) ?_
                refine then_normal ?_
                exact ⟨b5, [102, 97, 117, 108, 116], false, false, (.func (.func 63) #[] #[]), (Sub.cons rfl (Sub.cons rfl (Sub.nil _))), fun w' s => (s.select [0, 2] (by decide) rfl), hm⟩
              exact ALs.nil
            exact ALs.nil
          · replace hm := ite_f hc3 hm
            rcases Bool.eq_false_or_eq_true (p_x.kind == 3) with hc4 | hc4
            · replace hm := ite_t hc4 hm
              refine AL.take (i := 3) rfl (by kernel_rfl) (by kernel_rfl) (by kernel_rfl) (Runs.free rfl) rfl rfl (ov_index_at (j := 3) (cs := [(mkS [112, 97, 114, 116]), (.bool true), (.bool false), (.func (.func 61) #[] #[]), (mkS [99, 121, 99, 108, 101, 115]), (.bool true), (.bool true), (.func (.func 62) #[] #[]), (mkS [102, 97, 117, 108, 116]), (.bool false), (.bool false), (.func (.func 63) #[] #[]), (mkS [114, 101, 112, 97, 105, 114]), (.bool false), (.bool false), (.func (.func 64) #[] #[]), (mkS [114, 101, 112, 108, 97, 99, 101]), (.bool true), (.bool false), (.func (.func 65) #[] #[]), (mkS [114, 101, 109, 111, 118, 101]), (.bool false), (.bool false), (.func (.func 66) #[] #[])]) (r := (.agg #[(mkS [114, 101, 112, 97, 105, 114]), (.bool false), (.bool false), (.func (.func 64) #[] #[])])) (eq_of_beq hc4) rfl rfl rfl (fun _ => by kernel_rfl)) ?_
              refine AL.any (rs := [4]) (by kernel_rfl) (by decide) ?_
              refine ALs.cons (i := 4) rfl (Runs.free rfl) rfl rfl ?_ ?_
              · skip
                refine os_alloc (cs := [(mkS []), (.bool false), (.bool false), .nilFunc]) Tryd.zeroValue87 rfl rfl (fun b6 => ?_)
                refine ⟨fun w' s => (s.select [2] (by decide) rfl), ?_⟩
                refine AL.any (rs := [5]) (by kernel_rfl) (by decide) ?_
                refine ALs.cons0 (i := 5) rfl (Runs.free rfl) rfl ?_ ?_
                · skip
                  refine os_store (i := 0) (vs := [(mkS [114, 101, 112, 97, 105, 114]), (.bool false), (.bool false), (.func (.func 64) #[] #[])]) (cs' := [(mkS [114, 101, 112, 97, 105, 114]), (.bool false), (.bool false), (.func (.func 64) #[] #[])]) Tryd.sizeOf87 rfl rfl rfl rfl rfl rfl rfl rfl rfl ?_
                  refine ⟨fun w' s => (s.select [2] (by decide) rfl), ?_⟩
                  refine AL.done (by kernel_rfl) ?_
                  refine then_normal ?_
                  exact ⟨b6, [114, 101, 112, 97, 105, 114], false, false, (.func (.func 64) #[] #[]), (Sub.cons rfl (Sub.cons rfl (Sub.nil _))), fun w' s => (s.select [0, 2] (by decide) rfl), hm⟩
                exact ALs.nil
              exact ALs.nil
            · replace hm := ite_f hc4 hm
              rcases Bool.eq_false_or_eq_true (p_x.kind == 4) with hc5 | hc5
              · replace hm := ite_t hc5 hm
                refine AL.take (i := 3) rfl (by kernel_rfl) (by kernel_rfl) (by kernel_rfl) (Runs.free rfl) rfl rfl (ov_index_at (j := 4) (cs := [(mkS [112, 97, 114, 116]), (.bool true), (.bool false), (.func (.func 61) #[] #[]), (mkS [99, 121, 99, 108, 101, 115]), (.bool true), (.bool true), (.func (.func 62) #[] #[]), (mkS [102, 97, 117, 108, 116]), (.bool false), (.bool false), (.func (.func 63) #[] #[]), (mkS [114, 101, 112, 97, 105, 114]), (.bool false), (.bool false), (.func (.func 64) #[] #[]), (mkS [114, 101, 112, 108, 97, 99, 101]), (.bool true), (.bool false), (.func (.func 65) #[] #[]), (mkS [114, 101, 109, 111, 118, 101]), (.bool false), (.bool false), (.func (.func 66) #[] #[])]) (r := (.agg #[(mkS [114, 101, 112, 108, 97, 99, 101]), (.bool true), (.bool false), (.func (.func 65) #[] #[])])) (eq_of_beq hc5) rfl rfl rfl (fun _ => by kernel_rfl)) ?_
                refine AL.any (rs := [4]) (by kernel_rfl) (by decide) ?_
                refine ALs.cons (i := 4) rfl (Runs.free rfl) rfl rfl ?_ ?_
                · skip
                  refine os_alloc (cs := [(mkS []), (.bool false), (.bool false), .nilFunc]) Tryd.zeroValue87 rfl rfl (fun b7 => ?_)
                  refine ⟨fun w' s => (s.select [2] (by decide) rfl), ?_⟩
                  refine AL.any (rs := [5]) (by kernel_rfl) (by decide) ?_
                  refine ALs.cons0 (i := 5) rfl (Runs.free rfl) rfl ?_ ?_
                  · skip
                    refine os_store (i := 0) (vs := [(mkS [114, 101, 112, 108, 97, 99, 101]), (.bool true), (.bool false), (.func (.func 65) #[] #[])]) (cs' := [(mkS [114, 101, 112, 108, 97, 99, 101]), (.bool true), (.bool false), (.func (.func 65) #[] #[])]) Tryd.sizeOf87 rfl rfl rfl rfl rfl rfl rfl rfl rfl ?_
                    refine ⟨fun w' s => (s.select [2] (by decide) rfl), ?_⟩
                    refine AL.done (by kernel_rfl) ?_
                    refine then_normal ?_
                    exact ⟨b7, [114, 101, 112, 108, 97, 99, 101], true, false, (.func (.func 65) #[] #[]), (Sub.cons rfl (Sub.cons rfl (Sub.nil _))), fun w' s => (s.select [0, 2] (by decide) rfl), hm⟩
                  exact ALs.nil
                exact ALs.nil
              · replace hm := ite_f hc5 hm
                rcases Bool.eq_false_or_eq_true (p_x.kind == 5) with hc6 | hc6
                · replace hm := ite_t hc6 hm
                  refine AL.take (i := 3) rfl (by kernel_rfl) (by kernel_rfl) (by kernel_rfl) (Runs.free rfl) rfl rfl (ov_index_at (j := 5) (cs := [(mkS [112, 97, 114, 116]), (.bool true), (.bool false), (.func (.func 61) #[] #[]), (mkS [99, 121, 99, 108, 101, 115]), (.bool true), (.bool true), (.func (.func 62) #[] #[]), (mkS [102, 97, 117, 108, 116]), (.bool false), (.bool false), (.func (.func 63) #[] #[]), (mkS [114, 101, 112, 97, 105, 114]), (.bool false), (.bool false), (.func (.func 64) #[] #[]), (mkS [114, 101, 112, 108, 97, 99, 101]), (.bool true), (.bool false), (.func (.func 65) #[] #[]), (mkS [114, 101, 109, 111, 118, 101]), (.bool false), (.bool false), (.func (.func 66) #[] #[])]) (r := (.agg #[(mkS [114, 101, 109, 111, 118, 101]), (.bool false), (.bool false), (.func (.func 66) #[] #[])])) (eq_of_beq hc6) rfl rfl rfl (fun _ => by kernel_rfl)) ?_
                  refine AL.any (rs := [4]) (by kernel_rfl) (by decide) ?_
                  refine ALs.cons (i := 4) rfl (Runs.free rfl) rfl rfl ?_ ?_
                  · skip
                    refine os_alloc (cs := [(mkS []), (.bool false), (.bool false), .nilFunc]) Tryd.zeroValue87 rfl rfl (fun b8 => ?_)
                    refine ⟨fun w' s => (s.select [2] (by decide) rfl), ?_⟩
                    refine AL.any (rs := [5]) (by kernel_rfl) (by decide) ?_
                    refine ALs.cons0 (i := 5) rfl (Runs.free rfl) rfl ?_ ?_
                    · skip
                      refine os_store (i := 0) (vs := [(mkS [114, 101, 109, 111, 118, 101]), (.bool false), (.bool false), (.func (.func 66) #[] #[])]) (cs' := [(mkS [114, 101, 109, 111, 118, 101]), (.bool false), (.bool false), (.func (.func 66) #[] #[])]) Tryd.sizeOf87 rfl rfl rfl rfl rfl rfl rfl rfl rfl ?_
                      refine ⟨fun w' s => (s.select [2] (by decide) rfl), ?_⟩
                      refine AL.done (by kernel_rfl) ?_
                      refine then_normal ?_
                      exact ⟨b8, [114, 101, 109, 111, 118, 101], false, false, (.func (.func 66) #[] #[]), (Sub.cons rfl (Sub.cons rfl (Sub.nil _))), fun w' s => (s.select [0, 2] (by decide) rfl), hm⟩
                    exact ALs.nil
                  exact ALs.nil
                · replace hm := ite_f hc6 hm
                  exact (none_some hm).elim
    refine ALs.cons (i := 4) rfl (Runs.free rfl) rfl rfl ?_ ?_
    · skip
      refine os_alloc (cs := [(mkS []), (.bool false), (.bool false), .nilFunc]) Tryd.zeroValue87 rfl rfl (fun b9 => ?_)
      refine ⟨fun w' s => (s.select [1] (by decide) rfl), ?_⟩
      refine AL.any (rs := [0]) (by kernel_rfl) (by decide) ?_
      refine ALs.cons (i := 0) rfl (Runs.free rfl) rfl rfl ?_ ?_
      · skip
        refine os_inline (cap := []) (vs := []) Tryd.call43 rfl rfl rfl Tryd.func43 rfl 8 Tryd.ntmps43 rfl (fun w' s => ?_)
        refine WP.seq ?_
        refine WP.region ?_
        refine WL.step (Runs.free rfl) rfl rfl (os_alloc (cs := [(mkS []), (.bool false), (.bool false), .nilFunc, (mkS []), (.bool false), (.bool false), .nilFunc, (mkS []), (.bool false), (.bool false), .nilFunc, (mkS []), (.bool false), (.bool false), .nilFunc, (mkS []), (.bool false), (.bool false), .nilFunc, (mkS []), (.bool false), (.bool false), .nilFunc]) Tryd.zeroValue88 rfl rfl (fun b10 => ?_))
        refine WL.nil ?_
        refine then_normal ?_
        refine WP.seq ?_
        refine WP.region ?_
        refine WL.quiet (Runs.free rfl) rfl rfl (OV.quiet (ov_build (r := (.agg #[(mkS [112, 97, 114, 116]), (.bool true), (.bool false), (.func (.func 61) #[] #[])])) rfl rfl (fun _ => by kernel_rfl))) ?_
        refine WL.quiet (Runs.free rfl) rfl rfl (OV.quiet (ov_build (r := (.agg #[(mkS [99, 121, 99, 108, 101, 115]), (.bool true), (.bool true), (.func (.func 62) #[] #[])])) rfl rfl (fun _ => by kernel_rfl))) ?_
        refine WL.quiet (Runs.free rfl) rfl rfl (OV.quiet (ov_build (r := (.agg #[(mkS [102, 97, 117, 108, 116]), (.bool false), (.bool false), (.func (.func 63) #[] #[])])) rfl rfl (fun _ => by kernel_rfl))) ?_
        refine WL.quiet (Runs.free rfl) rfl rfl (OV.quiet (ov_build (r := (.agg #[(mkS [114, 101, 112, 97, 105, 114]), (.bool false), (.bool false), (.func (.func 64) #[] #[])])) rfl rfl (fun _ => by kernel_rfl))) ?_
        refine WL.quiet (Runs.free rfl) rfl rfl (OV.quiet (ov_build (r := (.agg #[(mkS [114, 101, 112, 108, 97, 99, 101]), (.bool true), (.bool false), (.func (.func 65) #[] #[])])) rfl rfl (fun _ => by kernel_rfl))) ?_
        refine WL.quiet (Runs.free rfl) rfl rfl (OV.quiet (ov_build (r := (.agg #[(mkS [114, 101, 109, 111, 118, 101]), (.bool false), (.bool false), (.func (.func 66) #[] #[])])) rfl rfl (fun _ => by kernel_rfl))) ?_
        refine WL.quiet (Runs.free rfl) rfl rfl (OV.quiet (ov_build (r := (.agg #[(mkS [112, 97, 114, 116]), (.bool true), (.bool false), (.func (.func 61) #[] #[]), (mkS [99, 121, 99, 108, 101, 115]), (.bool true), (.bool true), (.func (.func 62) #[] #[]), (mkS [102, 97, 117, 108, 116]), (.bool false), (.bool false), (.func (.func 63) #[] #[]), (mkS [114, 101, 112, 97, 105, 114]), (.bool false), (.bool false), (.func (.func 64) #[] #[]), (mkS [114, 101, 112, 108, 97, 99, 101]), (.bool true), (.bool false), (.func (.func 65) #[] #[]), (mkS [114, 101, 109, 111, 118, 101]), (.bool false), (.bool false), (.func (.func 66) #[] #[])])) rfl rfl (fun _ => by kernel_rfl))) ?_
        refine WL.step0 (Runs.free rfl) rfl (os_store (i := 0) (vs := [(mkS [112, 97, 114, 116]), (.bool true), (.bool false), (.func (.func 61) #[] #[]), (mkS [99, 121, 99, 108, 101, 115]), (.bool true), (.bool true), (.func (.func 62) #[] #[]), (mkS [102, 97, 117, 108, 116]), (.bool false), (.bool false), (.func (.func 63) #[] #[]), (mkS [114, 101, 112, 97, 105, 114]), (.bool false), (.bool false), (.func (.func 64) #[] #[]), (mkS [114, 101, 112, 108, 97, 99, 101]), (.bool true), (.bool false), (.func (.func 65) #[] #[]), (mkS [114, 101, 109, 111, 118, 101]), (.bool false), (.bool false), (.func (.func 66) #[] #[])]) (cs' := [(mkS [112, 97, 114, 116]), (.bool true), (.bool false), (.func (.func 61) #[] #[]), (mkS [99, 121, 99, 108, 101, 115]), (.bool true), (.bool true), (.func (.func 62) #[] #[]), (mkS [102, 97, 117, 108, 116]), (.bool false), (.bool false), (.func (.func 63) #[] #[]), (mkS [114, 101, 112, 97, 105, 114]), (.bool false), (.bool false), (.func (.func 64) #[] #[]), (mkS [114, 101, 112, 108, 97, 99, 101]), (.bool true), (.bool false), (.func (.func 65) #[] #[]), (mkS [114, 101, 109, 111, 118, 101]), (.bool false), (.bool false), (.func (.func 66) #[] #[])]) Tryd.sizeOf88 rfl rfl rfl rfl rfl rfl rfl rfl rfl ?_)
        refine WL.nil ?_
        refine then_normal ?_
        refine WP.ret ?_
        refine retQ_ret (v := (.agg #[(mkS [112, 97, 114, 116]), (.bool true), (.bool false), (.func (.func 61) #[] #[]), (mkS [99, 121, 99, 108, 101, 115]), (.bool true), (.bool true), (.func (.func 62) #[] #[]), (mkS [102, 97, 117, 108, 116]), (.bool false), (.bool false), (.func (.func 63) #[] #[]), (mkS [114, 101, 112, 97, 105, 114]), (.bool false), (.bool false), (.func (.func 64) #[] #[]), (mkS [114, 101, 112, 108, 97, 99, 101]), (.bool true), (.bool false), (.func (.func 65) #[] #[]), (mkS [114, 101, 109, 111, 118, 101]), (.bool false), (.bool false), (.func (.func 66) #[] #[])])) Tryd.results43 (Res.cell rfl (box_loads (i := 0) Tryd.isAgg88 Tryd.sizeOf88 rfl rfl) Res.nil) rfl (fun w' s => ⟨_, ?_, s⟩)
        refine ⟨fun w' s => (s.select [2] (by decide) rfl), ?_⟩
        rcases Bool.eq_false_or_eq_true (p_x.kind == 0) with hc7 | hc7
        · replace hm := ite_t hc7 hm
          refine AL.take (i := 3) rfl (by kernel_rfl) (by kernel_rfl) (by kernel_rfl) (Runs.free rfl) rfl rfl (ov_index_at (j := 0) (cs := [(mkS [112, 97, 114, 116]), (.bool true), (.bool false), (.func (.func 61) #[] #[]), (mkS [99, 121, 99, 108, 101, 115]), (.bool true), (.bool true), (.func (.func 62) #[] #[]), (mkS [102, 97, 117, 108, 116]), (.bool false), (.bool false), (.func (.func 63) #[] #[]), (mkS [114, 101, 112, 97, 105, 114]), (.bool false), (.bool false), (.func (.func 64) #[] #[]), (mkS [114, 101, 112, 108, 97, 99, 101]), (.bool true), (.bool false), (.func (.func 65) #[] #[]), (mkS [114, 101, 109, 111, 118, 101]), (.bool false), (.bool false), (.func (.func 66) #[] #[])]) (r := (.agg #[(mkS [112, 97, 114, 116]), (.bool true), (.bool false), (.func (.func 61) #[] #[])])) (eq_of_beq hc7) rfl rfl rfl (fun _ => by kernel_rfl)) ?_
          refine AL.any (rs := [5]) (by kernel_rfl) (by decide) ?_
          refine ALs.cons0 (i := 5) rfl (Runs.free rfl) rfl ?_ ?_
          · skip
            refine os_store (i := 1) (vs := [(mkS [112, 97, 114, 116]), (.bool true), (.bool false), (.func (.func 61) #[] #[])]) (cs' := [(mkS [112, 97, 114, 116]), (.bool true), (.bool false), (.func (.func 61) #[] #[])]) Tryd.sizeOf87 rfl rfl rfl rfl rfl rfl rfl rfl rfl ?_
            refine ⟨fun w' s => (s.select [2] (by decide) rfl), ?_⟩
            refine AL.done (by kernel_rfl) ?_
            refine then_normal ?_
            exact ⟨b9, [112, 97, 114, 116], true, false, (.func (.func 61) #[] #[]), (Sub.cons rfl (Sub.cons rfl (Sub.nil _))), fun w' s => (s.select [1, 2] (by decide) rfl), hm⟩
          exact ALs.nil
        · replace hm := ite_f hc7 hm
          rcases Bool.eq_false_or_eq_true (p_x.kind == 1) with hc8 | hc8
          · replace hm := ite_t hc8 hm
            refine AL.take (i := 3) rfl (by kernel_rfl) (by kernel_rfl) (by kernel_rfl) (Runs.free rfl) rfl rfl (ov_index_at (j := 1) (cs := [(mkS [112, 97, 114, 116]), (.bool true), (.bool false), (.func (.func 61) #[] #[]), (mkS [99, 121, 99, 108, 101, 115]), (.bool true), (.bool true), (.func (.func 62) #[] #[]), (mkS [102, 97, 117, 108, 116]), (.bool false), (.bool false), (.func (.func 63) #[] #[]), (mkS [114, 101, 112, 97, 105, 114]), (.bool false), (.bool false), (.func (.func 64) #[] #[]), (mkS [114, 101, 112, 108, 97, 99, 101]), (.bool true), (.bool false), (.func (.func 65) #[] #[]), (mkS [114, 101, 109, 111, 118, 101]), (.bool false), (.bool false), (.func (.func 66) #[] #[])]) (r := (.agg #[(mkS [99, 121, 99, 108, 101, 115]), (.bool true), (.bool true), (.func (.func 62) #[] #[])])) (eq_of_beq hc8) rfl rfl rfl (fun _ => by kernel_rfl)) ?_
            refine AL.any (rs := [5]) (by kernel_rfl) (by decide) ?_
            refine ALs.cons0 (i := 5) rfl (Runs.free rfl) rfl ?_ ?_
            · skip
              refine os_store (i := 1) (vs := [(mkS [99, 121, 99, 108, 101, 115]), (.bool true), (.bool true), (.func (.func 62) #[] #[])]) (cs' := [(mkS [99, 121, 99, 108, 101, 115]), (.bool true), (.bool true), (.func (.func 62) #[] #[])]) Tryd.sizeOf87 rfl rfl rfl rfl rfl rfl rfl rfl rfl ?_
              refine ⟨fun w' s => (s.select [2] (by decide) rfl), ?_⟩
              refine AL.done (by kernel_rfl) ?_
              refine then_normal ?_
              exact ⟨b9, [99, 121, 99, 108, 101, 115], true, true, (.func (.func 62) #[] #[]), (Sub.cons rfl (Sub.cons rfl (Sub.nil _))), fun w' s => (s.select [1, 2] (by decide) rfl), hm⟩
            exact ALs.nil
          · replace hm := ite_f hc8 hm
            rcases Bool.eq_false_or_eq_true (p_x.kind == 2) with hc9 | hc9
            · replace hm := ite_t hc9 hm
              refine AL.take (i := 3) rfl (by kernel_rfl) (by kernel_rfl) (by kernel_rfl) (Runs.free rfl) rfl rfl (ov_index_at (j := 2) (cs := [(mkS [112, 97, 114, 116]), (.bool true), (.bool false), (.func (.func 61) #[] #[]), (mkS [99, 121, 99, 108, 101, 115]), (.bool true), (.bool true), (.func (.func 62) #[] #[]), (mkS [102, 97, 117, 108, 116]), (.bool false), (.bool false), (.func (.func 63) #[] #[]), (mkS [114, 101, 112, 97, 105, 114]), (.bool false), (.bool false), (.func (.func 64) #[] #[]), (mkS [114, 101, 112, 108, 97, 99, 101]), (.bool true), (.bool false), (.func (.func 65) #[] #[]), (mkS [114, 101, 109, 111, 118, 101]), (.bool false), (.bool false), (.func (.func 66) #[] #[])]) (r := (.agg #[(mkS [102, 97, 117, 108, 116]), (.bool false), (.bool false), (.func (.func 63) #[] #[])])) (eq_of_beq hc9) rfl rfl rfl (fun _ => by kernel_rfl)) ?_
              refine AL.any (rs := [5]) (by kernel_rfl) (by decide) ?_
              refine ALs.cons0 (i := 5) rfl (Runs.free rfl) rfl ?_ ?_
              · skip
                refine os_store (i := 1) (vs := [(mkS [102, 97, 117, 108, 116]), (.bool false), (.bool false), (.func (.func 63) #[] #[])]) (cs' := [(mkS [102, 97, 117, 108, 116]), (.bool false), (.bool false), (.func (.func 63) #[] #[])]) Tryd.sizeOf87 rfl rfl rfl rfl rfl rfl rfl rfl rfl ?_
                refine ⟨fun w' s => (s.select [2] (by decide) rfl), ?_⟩
                refine AL.done (by kernel_rfl) ?_
                refine then_normal ?_
                exact ⟨b9, [102, 97, 117, 108, 116], false, false, (.func (.func 63) #[] #[]), (Sub.cons rfl (Sub.cons rfl (Sub.nil _))), fun w' s => (s.select [1, 2] (by decide) rfl), hm⟩
              exact ALs.nil
            · replace hm := ite_f hc9 hm
              rcases Bool.eq_false_or_eq_true (p_x.kind == 3) with hc10 | hc10
              · replace hm := ite_t hc10 hm
                refine AL.take (i := 3) rfl (by kernel_rfl) (by kernel_rfl) (by kernel_rfl) (Runs.free rfl) rfl rfl (ov_index_at (j := 3) (cs := [(mkS [112, 97, 114, 116]), (.bool true), (.bool false), (.func (.func 61) #[] #[]), (mkS [99, 121, 99, 108, 101, 115]), (.bool true), (.bool true), (.func (.func 62) #[] #[]), (mkS [102, 97, 117, 108, 116]), (.bool false), (.bool false), (.func (.func 63) #[] #[]), (mkS [114, 101, 112, 97, 105, 114]), (.bool false), (.bool false), (.func (.func 64) #[] #[]), (mkS [114, 101, 112, 108, 97, 99, 101]), (.bool true), (.bool false), (.func (.func 65) #[] #[]), (mkS [114, 101, 109, 111, 118, 101]), (.bool false), (.bool false), (.func (.func 66) #[] #[])]) (r := (.agg #[(mkS [114, 101, 112, 97, 105, 114]), (.bool false), (.bool false), (.func (.func 64) #[] #[])])) (eq_of_beq hc10) rfl rfl rfl (fun _ => by kernel_rfl)) ?_
                refine AL.any (rs := [5]) (by kernel_rfl) (by decide) ?_
                refine ALs.cons0 (i := 5) rfl (Runs.free rfl) rfl ?_ ?_
                · skip
                  refine os_store (i := 1) (vs := [(mkS [114, 101, 112, 97, 105, 114]), (.bool false), (.bool false), (.func (.func 64) #[] #[])]) (cs' := [(mkS [114, 101, 112, 97, 105, 114]), (.bool false), (.bool false), (.func (.func 64) #[] #[])]) Tryd.sizeOf87 rfl rfl rfl rfl rfl rfl rfl rfl rfl ?_
                  refine ⟨fun w' s => (s.select [2] (by decide) rfl), ?_⟩
                  refine AL.done (by kernel_rfl) ?_
                  refine then_normal ?_
                  exact ⟨b9, [114, 101, 112, 97, 105, 114], false, false, (.func (.func 64) #[] #[]), (Sub.cons rfl (Sub.cons rfl (Sub.nil _))), fun w' s => (s.select [1, 2] (by decide) rfl), hm⟩
                exact ALs.nil
              · replace hm := ite_f hc10 hm
                rcases Bool.eq_false_or_eq_true (p_x.kind == 4) with hc11 | hc11
                · replace hm := ite_t hc11 hm
                  refine AL.take (i := 3) rfl (by kernel_rfl) (by kernel_rfl) (by kernel_rfl) (Runs.free rfl) rfl rfl (ov_index_at (j := 4) (cs := [(mkS [112, 97, 114, 116]), (.bool true), (.bool false), (.func (.func 61) #[] #[]), (mkS [99, 121, 99, 108, 101, 115]), (.bool true), (.bool true), (.func (.func 62) #[] #[]), (mkS [102, 97, 117, 108, 116]), (.bool false), (.bool false), (.func (.func 63) #[] #[]), (mkS [114, 101, 112, 97, 105, 114]), (.bool false), (.bool false), (.func (.func 64) #[] #[]), (mkS [114, 101, 112, 108, 97, 99, 101]), (.bool true), (.bool false), (.func (.func 65) #[] #[]), (mkS [114, 101, 109, 111, 118, 101]), (.bool false), (.bool false), (.func (.func 66) #[] #[])]) (r := (.agg #[(mkS [114, 101, 112, 108, 97, 99, 101]), (.bool true), (.bool false), (.func (.func 65) #[] #[])])) (eq_of_beq hc11) rfl rfl rfl (fun _ => by kernel_rfl)) ?_
                  refine AL.any (rs := [5]) (by kernel_rfl) (by decide) ?_
                  refine ALs.cons0 (i := 5) rfl (Runs.free rfl) rfl ?_ ?_
                  · skip
                    refine os_store (i := 1) (vs := [(mkS [114, 101, 112, 108, 97, 99, 101]), (.bool true), (.bool false), (.func (.func 65) #[] #[])]) (cs' := [(mkS [114, 101, 112, 108, 97, 99, 101]), (.bool true), (.bool false), (.func (.func 65) #[] #[])]) Tryd.sizeOf87 rfl rfl rfl rfl rfl rfl rfl rfl rfl ?_
                    refine ⟨fun w' s => (s.select [2] (by decide) rfl), ?_⟩
                    refine AL.done (by kernel_rfl) ?_
                    refine then_normal ?_
                    exact ⟨b9, [114, 101, 112, 108, 97, 99, 101], true, false, (.func (.func 65) #[] #[]), (Sub.cons rfl (Sub.cons rfl (Sub.nil _))), fun w' s => (s.select [1, 2] (by decide) rfl), hm⟩
                  exact ALs.nil
                · replace hm := ite_f hc11 hm
                  rcases Bool.eq_false_or_eq_true (p_x.kind == 5) with hc12 | hc12
                  · replace hm := ite_t hc12 hm
                    refine AL.take (i := 3) rfl (by kernel_rfl) (by kernel_rfl) (by kernel_rfl) (Runs.free rfl) rfl rfl (ov_index_at (j := 5) (cs := [(mkS [112, 97, 114, 116]), (.bool true), (.bool false), (.func (.func 61) #[] #[]), (mkS [99, 121, 99, 108, 101, 115]), (.bool true), (.bool true), (.func (.func 62) #[] #[]), (mkS [102, 97, 117, 108, 116]), (.bool false), (.bool false), (.func (.func 63) #[] #[]), (mkS [114, 101, 112, 97, 105, 114]), (.bool false), (.bool false), (.func (.func 64) #[] #[]), (mkS [114, 101, 112, 108, 97, 99, 101]), (.bool true), (.bool false), (.func (.func 65) #[] #[]), (mkS [114, 101, 109, 111, 118, 101]), (.bool false), (.bool false), (.func (.func 66) #[] #[])]) (r := (.agg #[(mkS [114, 101, 109, 111, 118, 101]), (.bool false), (.bool false), (.func (.func 66) #[] #[])])) (eq_of_beq hc12) rfl rfl rfl (fun _ => by kernel_rfl)) ?_
                    refine AL.any (rs := [5]) (by kernel_rfl) (by decide) ?_
                    refine ALs.cons0 (i := 5) rfl (Runs.free rfl) rfl ?_ ?_
                    · skip
                      refine os_store (i := 1) (vs := [(mkS [114, 101, 109, 111, 118, 101]), (.bool false), (.bool false), (.func (.func 66) #[] #[])]) (cs' := [(mkS [114, 101, 109, 111, 118, 101]), (.bool false), (.bool false), (.func (.func 66) #[] #[])]) Tryd.sizeOf87 rfl rfl rfl rfl rfl rfl rfl rfl rfl ?_
                      refine ⟨fun w' s => (s.select [2] (by decide) rfl), ?_⟩
                      refine AL.done (by kernel_rfl) ?_
                      refine then_normal ?_
                      exact ⟨b9, [114, 101, 109, 111, 118, 101], false, false, (.func (.func 66) #[] #[]), (Sub.cons rfl (Sub.cons rfl (Sub.nil _))), fun w' s => (s.select [1, 2] (by decide) rfl), hm⟩
                    exact ALs.nil
                  · replace hm := ite_f hc12 hm
                    exact (none_some hm).elim
      exact ALs.nil
    exact ALs.nil
  · rintro g' S' ⟨b11, s1, c1, c2, v1, hsub1, hS1, hm⟩
    refine WP.sub hsub1 (WP.weaken hS1 ?_)
    replace hm := (congrFun (congrFun (congrFun hk1 s1) c1) c2).symm.trans hm
    refine WP.seq ?_
    refine WP.region ?_
    refine WL.quiet (Runs.free rfl) rfl rfl (OV.quiet (ov_fieldAddr Tryd.underlying87 rfl rfl rfl Tryd.sizeOf9 rfl rfl)) ?_
    refine WL.quiet (Runs.free rfl) rfl rfl (OV.quiet (ov_load_box (i := 0) Tryd.isAgg9 rfl rfl rfl rfl)) ?_
    obtain ⟨s2, e1, hm⟩ := bind_some hm
    refine WL.quiet (Runs.free rfl) rfl rfl (OV.quiet (ov_sadd' e1 rfl rfl rfl)) ?_
    refine WL.quiet (Runs.free rfl) rfl rfl (OV.quiet (ov_fieldAddr Tryd.underlying26 rfl rfl rfl Tryd.sizeOf9 rfl rfl)) ?_
    refine WL.quiet (Runs.free rfl) rfl rfl (OV.quiet (ov_load_box (i := 1) Tryd.isAgg9 rfl rfl rfl rfl)) ?_
    obtain ⟨s3, e2, hm⟩ := bind_some hm
    refine WL.quiet (Runs.free rfl) rfl rfl (OV.quiet (ov_sadd' e2 rfl rfl rfl)) ?_
    refine WL.quiet (Runs.free rfl) rfl rfl (OV.quiet (ov_assign rfl rfl)) ?_
    refine WL.nil ?_
    refine then_normal ?_
    obtain ⟨k2, hk2, hm⟩ := joinK_some hm
    refine WP.seq_join (fun g' S' => ∃ (s6 : (List UInt8)), Sub [(1, (pB b1 0)), (3, (pB b11 0)), (4, (mkS s6))] g' ∧ (∀ w', S' w' → St w H [.blk b11 87 [(mkS s1), (.bool c1), (.bool c2), v1], .blk b1 26 [(.int .i64 p_x.kind), (mkS p_x.name), (.int .i64 p_x.count), (.int .i64 p_x.strokes)]] H w') ∧ k2 s6 = some r) ?_ ?_
    · skip
      refine WP.seq ?_
      refine WP.region ?_
      refine WL.quiet (Runs.free rfl) rfl rfl (OV.quiet (ov_fieldAddr Tryd.underlying87 rfl rfl rfl Tryd.sizeOf4 rfl rfl)) ?_
      refine WL.quiet (Runs.free rfl) rfl rfl (OV.quiet (ov_load_box (i := 0) Tryd.isAgg4 rfl rfl rfl rfl)) ?_
      refine WL.nil ?_
      refine then_normal ?_
      refine WP.cond rfl (fun hc13 => ?_) (fun hc13 => ?_)
      · replace hm := ite_t hc13 hm
        refine WP.region ?_
        refine WL.quiet (Runs.free rfl) rfl rfl (OV.quiet (ov_move rfl rfl)) ?_
        refine WL.quiet (Runs.free rfl) rfl rfl (OV.quiet (ov_fieldAddr Tryd.underlying26 rfl rfl rfl Tryd.sizeOf3 rfl rfl)) ?_
        refine WL.quiet (Runs.free rfl) rfl rfl (OV.quiet (ov_load_box (i := 1) Tryd.isAgg3 rfl rfl rfl rfl)) ?_
        obtain ⟨r1, e3, hm⟩ := bind_some hm
        refine WL.quiet (Runs.free rfl) rfl rfl (oq_con (r := (mkS r1)) Tryd.call50 rfl rfl (fun w' s => ⟨_, (itoa_con p_x.count  w' H s.hold hG r1 e3)⟩)) ?_
        obtain ⟨s4, e4, hm⟩ := bind_some hm
        refine WL.quiet (Runs.free rfl) rfl rfl (OV.quiet (ov_sadd' e4 rfl rfl rfl)) ?_
        obtain ⟨s5, e5, hm⟩ := bind_some hm
        refine WL.quiet (Runs.free rfl) rfl rfl (OV.quiet (ov_sadd' e5 rfl rfl rfl)) ?_
        refine WL.quiet (Runs.free rfl) rfl rfl (OV.quiet (ov_assign rfl rfl)) ?_
        refine WL.nil ?_
        refine then_normal ?_
        exact ⟨s5, (Sub.cons rfl (Sub.cons rfl (Sub.cons rfl (Sub.nil _)))), fun w' s => s, hm⟩
      · replace hm := ite_f hc13 hm
        refine WP.skip ?_
        refine then_normal ?_
        exact ⟨s3, (Sub.cons rfl (Sub.cons rfl (Sub.cons rfl (Sub.nil _)))), fun w' s => s, hm⟩
    · rintro g' S' ⟨s6, hsub2, hS2, hm⟩
      refine WP.sub hsub2 (WP.weaken hS2 ?_)
      replace hm := (congrFun hk2 s6).symm.trans hm
      obtain ⟨k3, hk3, hm⟩ := joinK_some hm
      refine WP.seq_join (fun g' S' => ∃ (s9 : (List UInt8)), Sub [(4, (mkS s9))] g' ∧ (∀ w', S' w' → St w H [] H w') ∧ k3 s9 = some r) ?_ ?_
      · skip
        refine WP.seq ?_
        refine WP.region ?_
        refine WL.quiet (Runs.free rfl) rfl rfl (OV.quiet (ov_fieldAddr Tryd.underlying87 rfl rfl rfl Tryd.sizeOf4 rfl rfl)) ?_
        refine WL.quiet (Runs.free rfl) rfl rfl (OV.quiet (ov_load_box (i := 0) Tryd.isAgg4 rfl rfl rfl rfl)) ?_
        refine WL.nil ?_
        refine then_normal ?_
        refine WP.cond rfl (fun hc14 => ?_) (fun hc14 => ?_)
        · replace hm := ite_t hc14 hm
          refine WP.region ?_
          refine WL.quiet (Runs.free rfl) rfl rfl (OV.quiet (ov_move rfl rfl)) ?_
          refine WL.quiet (Runs.free rfl) rfl rfl (OV.quiet (ov_fieldAddr Tryd.underlying26 rfl rfl rfl Tryd.sizeOf3 rfl rfl)) ?_
          refine WL.quiet (Runs.free rfl) rfl rfl (OV.quiet (ov_load_box (i := 1) Tryd.isAgg3 rfl rfl rfl rfl)) ?_
          obtain ⟨r2, e6, hm⟩ := bind_some hm
          refine WL.quiet (Runs.free rfl) rfl rfl (oq_con (r := (mkS r2)) Tryd.call50 rfl rfl (fun w' s => ⟨_, (itoa_con p_x.strokes  w' H s.hold hG r2 e6)⟩)) ?_
          obtain ⟨s7, e7, hm⟩ := bind_some hm
          refine WL.quiet (Runs.free rfl) rfl rfl (OV.quiet (ov_sadd' e7 rfl rfl rfl)) ?_
          obtain ⟨s8, e8, hm⟩ := bind_some hm
          refine WL.quiet (Runs.free rfl) rfl rfl (OV.quiet (ov_sadd' e8 rfl rfl rfl)) ?_
          refine WL.quiet (Runs.free rfl) rfl rfl (OV.quiet (ov_assign rfl rfl)) ?_
          refine WL.nil ?_
          refine then_normal ?_
          exact ⟨s8, (Sub.cons rfl (Sub.nil _)), fun w' s => (s.select [] (by decide) rfl), hm⟩
        · replace hm := ite_f hc14 hm
          refine WP.skip ?_
          refine then_normal ?_
          exact ⟨s6, (Sub.cons rfl (Sub.nil _)), fun w' s => (s.select [] (by decide) rfl), hm⟩
      · rintro g' S' ⟨s9, hsub3, hS3, hm⟩
        refine WP.sub hsub3 (WP.weaken hS3 ?_)
        replace hm := (congrFun hk3 s9).symm.trans hm
        refine WP.seq ?_
        refine WP.region ?_
        refine WL.quiet (Runs.free rfl) rfl rfl (OV.quiet (ov_move rfl rfl)) ?_
        refine WL.quiet (Runs.free rfl) rfl rfl (OV.quiet (ov_assign rfl rfl)) ?_
        refine WL.nil ?_
        refine then_normal ?_
        refine WP.ret ?_
        obtain rfl := Option.some.inj hm
        refine retQ_ret Tryd.results47 (Res.tmp rfl Res.nil) rfl (fun w' s => ⟨s.below, ?_⟩)
        exact rfl

end Go.Proofs.YtpigfknmlmeihaaDoor.W
