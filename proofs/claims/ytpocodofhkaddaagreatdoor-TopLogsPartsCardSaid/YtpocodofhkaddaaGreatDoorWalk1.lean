/- The walks. Written by our own program gen.py; Lean checks it. -/
import Derived.Test.YtpocodofhkaddaaGreatDoorPlain
import Derived.Test.YtpocodofhkaddaaGreatDoorEqs
import Derived.Test.YtpocodofhkaddaaGreatDoorProg
import Derived.Test.YtpocodofhkaddaaGreatDoorExt
import Derived.Test.YtpocodofhkaddaaGreatDoorClone
import Derived.Test.YtpocodofhkaddaaGreatDoorCloneE
import Derived.Test.YtpocodofhkaddaaGreatDoorInsert
import Derived.Test.YtpocodofhkaddaaGreatDoorBuild
import Derived.Test.YtpocodofhkaddaaGreatDoorWalk0
set_option linter.unusedVariables false
set_option maxRecDepth 100000
set_option maxHeartbeats 4000000
namespace Go.Proofs.YtpocodofhkaddaaGreatDoor.W
open Go Go.RowKit
theorem journal_Right_con (p_x : Entry) (w : World) (H : Heap) (hH : Le H (hp w)) (hG : Glob H) (r : Int) (hm : journal_Right p_x = some r) :
  Con Tryz.prog 20 [(.agg #[(.int .i64 p_x.kind), (mkS p_x.name), (.int .i64 p_x.count), (.int .i64 p_x.strokes)])] w H (fun v _ => v = (.int .i64 r)) := by
 unfold journal_Right at hm
 refine con_of hH Tryz.func20 rfl 57 Tryz.ntmps20 rfl ?_
 refine WP.seq (WP.region ?_)
 refine WL.step (Runs.free rfl) rfl rfl (os_box (cs := [(.int .i64 p_x.kind), (mkS p_x.name), (.int .i64 p_x.count), (.int .i64 p_x.strokes)]) rfl rfl rfl (fun b1 => ?_))
 refine wq rfl rfl rfl (ov_assign rfl rfl) ?_
 refine WL.nil (then_normal (WP.seq (WP.seq (WP.region ?_))))
 refine wq rfl rfl rfl (ov_fieldAddr Tryz.underlying24 rfl rfl rfl Tryz.sizeOf3 rfl rfl) ?_
 refine wq rfl rfl rfl (ov_load_box (i := 0) Tryz.isAgg3 rfl rfl rfl rfl) ?_
 obtain ⟨r1, e1, hm⟩ := bind_some hm
 refine WL.quiet (Runs.free rfl) rfl rfl (oq_con (r := (.bool r1)) Tryz.call22 rfl rfl (fun w' s => ⟨_, (journal_in_con p_x.kind 0 5  w' H s.hold hG r1 e1)⟩)) ?_
 refine wq rfl rfl rfl (ov_not rfl rfl) ?_
 refine WL.nil (then_normal ?_)
 refine WP.cond rfl (fun hc1 => ?_) (fun hc1 => ?_)
 ·
  replace hm := ite_t hc1 hm
  refine WP.seq (WP.region ?_)
  refine wq rfl rfl rfl (ov_assign rfl rfl) ?_
  refine WL.nil (then_normal (WP.ret (then_ret ?_)))
  obtain rfl := Option.some.inj hm
  refine retQ_ret Tryz.results20 (Res.tmp rfl Res.nil) rfl (fun w' s => ⟨s.below, ?_⟩)
  exact rfl
 ·
  replace hm := ite_f hc1 hm
  refine WP.skip (then_normal (WP.seq (WP.seq (WP.region ?_))))
  refine wq rfl rfl rfl (ov_fieldAddr Tryz.underlying24 rfl rfl rfl Tryz.sizeOf9 rfl rfl) ?_
  refine wq rfl rfl rfl (ov_load_box (i := 0) Tryz.isAgg9 rfl rfl rfl rfl) ?_
  obtain ⟨r2, e2, hm⟩ := bind_some hm
  refine WL.quiet (Runs.free rfl) rfl rfl (oq_con (r := (.int .i64 r2)) Tryz.call23 rfl rfl (fun w' s => ⟨_, (lexer_Word_con p_x.name  w' H s.hold hG r2 e2)⟩)) ?_
  refine wq rfl rfl rfl (ov_assign rfl rfl) ?_
  refine WL.nil (then_normal (WP.seq (WP.region ?_)))
  refine wq rfl rfl rfl (ov_move rfl rfl) ?_
  refine wq rfl rfl rfl (ov_neq rfl rfl rfl) ?_
  refine WL.nil (then_normal ?_)
  refine WP.cond rfl (fun hc2 => ?_) (fun hc2 => ?_)
  ·
   replace hm := ite_t hc2 hm
   refine WP.seq (WP.region ?_)
   refine wq rfl rfl rfl (ov_move rfl rfl) ?_
   refine wq rfl rfl rfl (ov_assign rfl rfl) ?_
   refine WL.nil (then_normal (WP.ret (then_ret ?_)))
   obtain rfl := Option.some.inj hm
   refine retQ_ret Tryz.results20 (Res.tmp rfl Res.nil) rfl (fun w' s => ⟨s.below, ?_⟩)
   exact rfl
  ·
   replace hm := ite_f hc2 hm
   refine WP.skip (then_normal ?_)
   obtain ⟨k1, hk1, hm⟩ := joinK_some hm
   refine WP.seq_join (fun g' S' => ∃ (b11 : Nat) (s1 : (List UInt8)) (c1 : Bool) (c2 : Bool) (v1 : Value), Sub [(1, (pB b1 0)), (4, (pB b11 0)), (1000000007, (.bool false))] g' ∧ (∀ w', S' w' → St w H [.blk b11 87 [(mkS s1), (.bool c1), (.bool c2), v1], .blk b1 24 [(.int .i64 p_x.kind), (mkS p_x.name), (.int .i64 p_x.count), (.int .i64 p_x.strokes)]] H w') ∧ k1 s1 c1 c2 = some r) ?_ ?_
   ·
    skip
    refine WP.region_any (S₀ := St w H [.blk b1 24 [(.int .i64 p_x.kind), (mkS p_x.name), (.int .i64 p_x.count), (.int .i64 p_x.strokes)]] H) 6 rfl (by kernel_rfl) (fun w' s => s) (fun _ s => s.drew) ?_
    refine tq (i := 1) rfl (by kernel_rfl) rfl rfl rfl (ov_fieldAddr Tryz.underlying24 rfl rfl rfl Tryz.sizeOf3 rfl rfl) ?_
    refine tq (i := 2) rfl (by kernel_rfl) rfl rfl rfl (ov_load_box (i := 0) Tryz.isAgg3 rfl rfl rfl rfl) ?_
    refine AL.any (rs := [0, 4]) (by kernel_rfl) (by decide) ?_
    refine ALs.cons (i := 0) rfl (Runs.free rfl) rfl rfl ?_ ?_
    ·
     skip
     refine os_inline (cap := []) (vs := []) Tryz.call37 rfl rfl rfl Tryz.func37 rfl 8 Tryz.ntmps37 rfl (fun w' s => ?_)
     refine WP.seq (WP.region ?_)
     refine WL.step (Runs.free rfl) rfl rfl (os_alloc (cs := [(mkS []), (.bool false), (.bool false), .nilFunc, (mkS []), (.bool false), (.bool false), .nilFunc, (mkS []), (.bool false), (.bool false), .nilFunc, (mkS []), (.bool false), (.bool false), .nilFunc, (mkS []), (.bool false), (.bool false), .nilFunc, (mkS []), (.bool false), (.bool false), .nilFunc]) Tryz.zeroValue88 rfl rfl (fun b2 => ?_))
     refine WL.nil (then_normal (WP.seq (WP.region ?_)))
     refine wq rfl rfl rfl (ov_build (r := (.agg #[(mkS [112, 97, 114, 116]), (.bool true), (.bool false), (.func (.func 54) #[] #[])])) rfl rfl (fun _ => by kernel_rfl)) ?_
     refine wq rfl rfl rfl (ov_build (r := (.agg #[(mkS [99, 121, 99, 108, 101, 115]), (.bool true), (.bool true), (.func (.func 55) #[] #[])])) rfl rfl (fun _ => by kernel_rfl)) ?_
     refine wq rfl rfl rfl (ov_build (r := (.agg #[(mkS [102, 97, 117, 108, 116]), (.bool false), (.bool false), (.func (.func 56) #[] #[])])) rfl rfl (fun _ => by kernel_rfl)) ?_
     refine wq rfl rfl rfl (ov_build (r := (.agg #[(mkS [114, 101, 112, 97, 105, 114]), (.bool false), (.bool false), (.func (.func 57) #[] #[])])) rfl rfl (fun _ => by kernel_rfl)) ?_
     refine wq rfl rfl rfl (ov_build (r := (.agg #[(mkS [114, 101, 112, 108, 97, 99, 101]), (.bool true), (.bool false), (.func (.func 58) #[] #[])])) rfl rfl (fun _ => by kernel_rfl)) ?_
     refine wq rfl rfl rfl (ov_build (r := (.agg #[(mkS [114, 101, 109, 111, 118, 101]), (.bool false), (.bool false), (.func (.func 59) #[] #[])])) rfl rfl (fun _ => by kernel_rfl)) ?_
     refine wq rfl rfl rfl (ov_build (r := (.agg #[(mkS [112, 97, 114, 116]), (.bool true), (.bool false), (.func (.func 54) #[] #[]), (mkS [99, 121, 99, 108, 101, 115]), (.bool true), (.bool true), (.func (.func 55) #[] #[]), (mkS [102, 97, 117, 108, 116]), (.bool false), (.bool false), (.func (.func 56) #[] #[]), (mkS [114, 101, 112, 97, 105, 114]), (.bool false), (.bool false), (.func (.func 57) #[] #[]), (mkS [114, 101, 112, 108, 97, 99, 101]), (.bool true), (.bool false), (.func (.func 58) #[] #[]), (mkS [114, 101, 109, 111, 118, 101]), (.bool false), (.bool false), (.func (.func 59) #[] #[])])) rfl rfl (fun _ => by kernel_rfl)) ?_
     refine WL.step0 (Runs.free rfl) rfl (os_store (i := 0) (vs := [(mkS [112, 97, 114, 116]), (.bool true), (.bool false), (.func (.func 54) #[] #[]), (mkS [99, 121, 99, 108, 101, 115]), (.bool true), (.bool true), (.func (.func 55) #[] #[]), (mkS [102, 97, 117, 108, 116]), (.bool false), (.bool false), (.func (.func 56) #[] #[]), (mkS [114, 101, 112, 97, 105, 114]), (.bool false), (.bool false), (.func (.func 57) #[] #[]), (mkS [114, 101, 112, 108, 97, 99, 101]), (.bool true), (.bool false), (.func (.func 58) #[] #[]), (mkS [114, 101, 109, 111, 118, 101]), (.bool false), (.bool false), (.func (.func 59) #[] #[])]) (cs' := [(mkS [112, 97, 114, 116]), (.bool true), (.bool false), (.func (.func 54) #[] #[]), (mkS [99, 121, 99, 108, 101, 115]), (.bool true), (.bool true), (.func (.func 55) #[] #[]), (mkS [102, 97, 117, 108, 116]), (.bool false), (.bool false), (.func (.func 56) #[] #[]), (mkS [114, 101, 112, 97, 105, 114]), (.bool false), (.bool false), (.func (.func 57) #[] #[]), (mkS [114, 101, 112, 108, 97, 99, 101]), (.bool true), (.bool false), (.func (.func 58) #[] #[]), (mkS [114, 101, 109, 111, 118, 101]), (.bool false), (.bool false), (.func (.func 59) #[] #[])]) Tryz.sizeOf88 rfl rfl rfl rfl rfl rfl rfl rfl rfl ?_)
     refine WL.nil (then_normal (WP.ret ?_))
     refine retQ_ret (v := (.agg #[(mkS [112, 97, 114, 116]), (.bool true), (.bool false), (.func (.func 54) #[] #[]), (mkS [99, 121, 99, 108, 101, 115]), (.bool true), (.bool true), (.func (.func 55) #[] #[]), (mkS [102, 97, 117, 108, 116]), (.bool false), (.bool false), (.func (.func 56) #[] #[]), (mkS [114, 101, 112, 97, 105, 114]), (.bool false), (.bool false), (.func (.func 57) #[] #[]), (mkS [114, 101, 112, 108, 97, 99, 101]), (.bool true), (.bool false), (.func (.func 58) #[] #[]), (mkS [114, 101, 109, 111, 118, 101]), (.bool false), (.bool false), (.func (.func 59) #[] #[])])) Tryz.results37 (Res.cell rfl (box_loads (i := 0) Tryz.isAgg88 Tryz.sizeOf88 rfl rfl) Res.nil) rfl (fun w' s => ⟨_, ?_, s⟩)
     refine ⟨fun w' s => (s.select [1] (by decide) rfl), ?_⟩
     rcases Bool.eq_false_or_eq_true (p_x.kind == 0) with hc3 | hc3
     ·
      replace hm := ite_t hc3 hm
      refine tq (i := 3) rfl (by kernel_rfl) rfl rfl rfl (ov_index_at (j := 0) (cs := [(mkS [112, 97, 114, 116]), (.bool true), (.bool false), (.func (.func 54) #[] #[]), (mkS [99, 121, 99, 108, 101, 115]), (.bool true), (.bool true), (.func (.func 55) #[] #[]), (mkS [102, 97, 117, 108, 116]), (.bool false), (.bool false), (.func (.func 56) #[] #[]), (mkS [114, 101, 112, 97, 105, 114]), (.bool false), (.bool false), (.func (.func 57) #[] #[]), (mkS [114, 101, 112, 108, 97, 99, 101]), (.bool true), (.bool false), (.func (.func 58) #[] #[]), (mkS [114, 101, 109, 111, 118, 101]), (.bool false), (.bool false), (.func (.func 59) #[] #[])]) (r := (.agg #[(mkS [112, 97, 114, 116]), (.bool true), (.bool false), (.func (.func 54) #[] #[])])) (eq_of_beq hc3) rfl rfl rfl (fun _ => by kernel_rfl)) ?_
      refine AL.any (rs := [4]) (by kernel_rfl) (by decide) ?_
      refine ALs.cons (i := 4) rfl (Runs.free rfl) rfl rfl ?_ ?_
      ·
       skip
       refine os_alloc (cs := [(mkS []), (.bool false), (.bool false), .nilFunc]) Tryz.zeroValue87 rfl rfl (fun b3 => ?_)
       refine ⟨fun w' s => (s.select [2] (by decide) rfl), ?_⟩
       refine AL.any (rs := [5]) (by kernel_rfl) (by decide) ?_
       refine ALs.cons0 (i := 5) rfl (Runs.free rfl) rfl ?_ ?_
       ·
        skip
        refine os_store (i := 0) (vs := [(mkS [112, 97, 114, 116]), (.bool true), (.bool false), (.func (.func 54) #[] #[])]) (cs' := [(mkS [112, 97, 114, 116]), (.bool true), (.bool false), (.func (.func 54) #[] #[])]) Tryz.sizeOf87 rfl rfl rfl rfl rfl rfl rfl rfl rfl ?_
        refine ⟨fun w' s => (s.select [2] (by decide) rfl), ?_⟩
        refine AL.done (by kernel_rfl) ?_
        refine then_normal ?_
        exact ⟨b3, [112, 97, 114, 116], true, false, (.func (.func 54) #[] #[]), (Sub.cons rfl (Sub.cons rfl (Sub.cons rfl (Sub.nil _)))), fun w' s => (s.select [0, 2] (by decide) rfl), hm⟩
       exact ALs.nil
      exact ALs.nil
     ·
      replace hm := ite_f hc3 hm
      rcases Bool.eq_false_or_eq_true (p_x.kind == 1) with hc4 | hc4
      ·
       replace hm := ite_t hc4 hm
       refine tq (i := 3) rfl (by kernel_rfl) rfl rfl rfl (ov_index_at (j := 1) (cs := [(mkS [112, 97, 114, 116]), (.bool true), (.bool false), (.func (.func 54) #[] #[]), (mkS [99, 121, 99, 108, 101, 115]), (.bool true), (.bool true), (.func (.func 55) #[] #[]), (mkS [102, 97, 117, 108, 116]), (.bool false), (.bool false), (.func (.func 56) #[] #[]), (mkS [114, 101, 112, 97, 105, 114]), (.bool false), (.bool false), (.func (.func 57) #[] #[]), (mkS [114, 101, 112, 108, 97, 99, 101]), (.bool true), (.bool false), (.func (.func 58) #[] #[]), (mkS [114, 101, 109, 111, 118, 101]), (.bool false), (.bool false), (.func (.func 59) #[] #[])]) (r := (.agg #[(mkS [99, 121, 99, 108, 101, 115]), (.bool true), (.bool true), (.func (.func 55) #[] #[])])) (eq_of_beq hc4) rfl rfl rfl (fun _ => by kernel_rfl)) ?_
       refine AL.any (rs := [4]) (by kernel_rfl) (by decide) ?_
       refine ALs.cons (i := 4) rfl (Runs.free rfl) rfl rfl ?_ ?_
       ·
        skip
        refine os_alloc (cs := [(mkS []), (.bool false), (.bool false), .nilFunc]) Tryz.zeroValue87 rfl rfl (fun b4 => ?_)
        refine ⟨fun w' s => (s.select [2] (by decide) rfl), ?_⟩
        refine AL.any (rs := [5]) (by kernel_rfl) (by decide) ?_
        refine ALs.cons0 (i := 5) rfl (Runs.free rfl) rfl ?_ ?_
        ·
         skip
         refine os_store (i := 0) (vs := [(mkS [99, 121, 99, 108, 101, 115]), (.bool true), (.bool true), (.func (.func 55) #[] #[])]) (cs' := [(mkS [99, 121, 99, 108, 101, 115]), (.bool true), (.bool true), (.func (.func 55) #[] #[])]) Tryz.sizeOf87 rfl rfl rfl rfl rfl rfl rfl rfl rfl ?_
         refine ⟨fun w' s => (s.select [2] (by decide) rfl), ?_⟩
         refine AL.done (by kernel_rfl) ?_
         refine then_normal ?_
         exact ⟨b4, [99, 121, 99, 108, 101, 115], true, true, (.func (.func 55) #[] #[]), (Sub.cons rfl (Sub.cons rfl (Sub.cons rfl (Sub.nil _)))), fun w' s => (s.select [0, 2] (by decide) rfl), hm⟩
        exact ALs.nil
       exact ALs.nil
      ·
       replace hm := ite_f hc4 hm
       rcases Bool.eq_false_or_eq_true (p_x.kind == 2) with hc5 | hc5
       ·
        replace hm := ite_t hc5 hm
        refine tq (i := 3) rfl (by kernel_rfl) rfl rfl rfl (ov_index_at (j := 2) (cs := [(mkS [112, 97, 114, 116]), (.bool true), (.bool false), (.func (.func 54) #[] #[]), (mkS [99, 121, 99, 108, 101, 115]), (.bool true), (.bool true), (.func (.func 55) #[] #[]), (mkS [102, 97, 117, 108, 116]), (.bool false), (.bool false), (.func (.func 56) #[] #[]), (mkS [114, 101, 112, 97, 105, 114]), (.bool false), (.bool false), (.func (.func 57) #[] #[]), (mkS [114, 101, 112, 108, 97, 99, 101]), (.bool true), (.bool false), (.func (.func 58) #[] #[]), (mkS [114, 101, 109, 111, 118, 101]), (.bool false), (.bool false), (.func (.func 59) #[] #[])]) (r := (.agg #[(mkS [102, 97, 117, 108, 116]), (.bool false), (.bool false), (.func (.func 56) #[] #[])])) (eq_of_beq hc5) rfl rfl rfl (fun _ => by kernel_rfl)) ?_
        refine AL.any (rs := [4]) (by kernel_rfl) (by decide) ?_
        refine ALs.cons (i := 4) rfl (Runs.free rfl) rfl rfl ?_ ?_
        ·
         skip
         refine os_alloc (cs := [(mkS []), (.bool false), (.bool false), .nilFunc]) Tryz.zeroValue87 rfl rfl (fun b5 => ?_)
         refine ⟨fun w' s => (s.select [2] (by decide) rfl), ?_⟩
         refine AL.any (rs := [5]) (by kernel_rfl) (by decide) ?_
         refine ALs.cons0 (i := 5) rfl (Runs.free rfl) rfl ?_ ?_
         ·
          skip
          refine os_store (i := 0) (vs := [(mkS [102, 97, 117, 108, 116]), (.bool false), (.bool false), (.func (.func 56) #[] #[])]) (cs' := [(mkS [102, 97, 117, 108, 116]), (.bool false), (.bool false), (.func (.func 56) #[] #[])]) Tryz.sizeOf87 rfl rfl rfl rfl rfl rfl rfl rfl rfl ?_
          refine ⟨fun w' s => (s.select [2] (by decide) rfl), ?_⟩
          refine AL.done (by kernel_rfl) ?_
          refine then_normal ?_
          exact ⟨b5, [102, 97, 117, 108, 116], false, false, (.func (.func 56) #[] #[]), (Sub.cons rfl (Sub.cons rfl (Sub.cons rfl (Sub.nil _)))), fun w' s => (s.select [0, 2] (by decide) rfl), hm⟩
         exact ALs.nil
        exact ALs.nil
       ·
        replace hm := ite_f hc5 hm
        rcases Bool.eq_false_or_eq_true (p_x.kind == 3) with hc6 | hc6
        ·
         replace hm := ite_t hc6 hm
         refine tq (i := 3) rfl (by kernel_rfl) rfl rfl rfl (ov_index_at (j := 3) (cs := [(mkS [112, 97, 114, 116]), (.bool true), (.bool false), (.func (.func 54) #[] #[]), (mkS [99, 121, 99, 108, 101, 115]), (.bool true), (.bool true), (.func (.func 55) #[] #[]), (mkS [102, 97, 117, 108, 116]), (.bool false), (.bool false), (.func (.func 56) #[] #[]), (mkS [114, 101, 112, 97, 105, 114]), (.bool false), (.bool false), (.func (.func 57) #[] #[]), (mkS [114, 101, 112, 108, 97, 99, 101]), (.bool true), (.bool false), (.func (.func 58) #[] #[]), (mkS [114, 101, 109, 111, 118, 101]), (.bool false), (.bool false), (.func (.func 59) #[] #[])]) (r := (.agg #[(mkS [114, 101, 112, 97, 105, 114]), (.bool false), (.bool false), (.func (.func 57) #[] #[])])) (eq_of_beq hc6) rfl rfl rfl (fun _ => by kernel_rfl)) ?_
         refine AL.any (rs := [4]) (by kernel_rfl) (by decide) ?_
         refine ALs.cons (i := 4) rfl (Runs.free rfl) rfl rfl ?_ ?_
         ·
          skip
          refine os_alloc (cs := [(mkS []), (.bool false), (.bool false), .nilFunc]) Tryz.zeroValue87 rfl rfl (fun b6 => ?_)
          refine ⟨fun w' s => (s.select [2] (by decide) rfl), ?_⟩
          refine AL.any (rs := [5]) (by kernel_rfl) (by decide) ?_
          refine ALs.cons0 (i := 5) rfl (Runs.free rfl) rfl ?_ ?_
          ·
           skip
           refine os_store (i := 0) (vs := [(mkS [114, 101, 112, 97, 105, 114]), (.bool false), (.bool false), (.func (.func 57) #[] #[])]) (cs' := [(mkS [114, 101, 112, 97, 105, 114]), (.bool false), (.bool false), (.func (.func 57) #[] #[])]) Tryz.sizeOf87 rfl rfl rfl rfl rfl rfl rfl rfl rfl ?_
           refine ⟨fun w' s => (s.select [2] (by decide) rfl), ?_⟩
           refine AL.done (by kernel_rfl) ?_
           refine then_normal ?_
           exact ⟨b6, [114, 101, 112, 97, 105, 114], false, false, (.func (.func 57) #[] #[]), (Sub.cons rfl (Sub.cons rfl (Sub.cons rfl (Sub.nil _)))), fun w' s => (s.select [0, 2] (by decide) rfl), hm⟩
          exact ALs.nil
         exact ALs.nil
        ·
         replace hm := ite_f hc6 hm
         rcases Bool.eq_false_or_eq_true (p_x.kind == 4) with hc7 | hc7
         ·
          replace hm := ite_t hc7 hm
          refine tq (i := 3) rfl (by kernel_rfl) rfl rfl rfl (ov_index_at (j := 4) (cs := [(mkS [112, 97, 114, 116]), (.bool true), (.bool false), (.func (.func 54) #[] #[]), (mkS [99, 121, 99, 108, 101, 115]), (.bool true), (.bool true), (.func (.func 55) #[] #[]), (mkS [102, 97, 117, 108, 116]), (.bool false), (.bool false), (.func (.func 56) #[] #[]), (mkS [114, 101, 112, 97, 105, 114]), (.bool false), (.bool false), (.func (.func 57) #[] #[]), (mkS [114, 101, 112, 108, 97, 99, 101]), (.bool true), (.bool false), (.func (.func 58) #[] #[]), (mkS [114, 101, 109, 111, 118, 101]), (.bool false), (.bool false), (.func (.func 59) #[] #[])]) (r := (.agg #[(mkS [114, 101, 112, 108, 97, 99, 101]), (.bool true), (.bool false), (.func (.func 58) #[] #[])])) (eq_of_beq hc7) rfl rfl rfl (fun _ => by kernel_rfl)) ?_
          refine AL.any (rs := [4]) (by kernel_rfl) (by decide) ?_
          refine ALs.cons (i := 4) rfl (Runs.free rfl) rfl rfl ?_ ?_
          ·
           skip
           refine os_alloc (cs := [(mkS []), (.bool false), (.bool false), .nilFunc]) Tryz.zeroValue87 rfl rfl (fun b7 => ?_)
           refine ⟨fun w' s => (s.select [2] (by decide) rfl), ?_⟩
           refine AL.any (rs := [5]) (by kernel_rfl) (by decide) ?_
           refine ALs.cons0 (i := 5) rfl (Runs.free rfl) rfl ?_ ?_
           ·
            skip
            refine os_store (i := 0) (vs := [(mkS [114, 101, 112, 108, 97, 99, 101]), (.bool true), (.bool false), (.func (.func 58) #[] #[])]) (cs' := [(mkS [114, 101, 112, 108, 97, 99, 101]), (.bool true), (.bool false), (.func (.func 58) #[] #[])]) Tryz.sizeOf87 rfl rfl rfl rfl rfl rfl rfl rfl rfl ?_
            refine ⟨fun w' s => (s.select [2] (by decide) rfl), ?_⟩
            refine AL.done (by kernel_rfl) ?_
            refine then_normal ?_
            exact ⟨b7, [114, 101, 112, 108, 97, 99, 101], true, false, (.func (.func 58) #[] #[]), (Sub.cons rfl (Sub.cons rfl (Sub.cons rfl (Sub.nil _)))), fun w' s => (s.select [0, 2] (by decide) rfl), hm⟩
           exact ALs.nil
          exact ALs.nil
         ·
          replace hm := ite_f hc7 hm
          rcases Bool.eq_false_or_eq_true (p_x.kind == 5) with hc8 | hc8
          ·
           replace hm := ite_t hc8 hm
           refine tq (i := 3) rfl (by kernel_rfl) rfl rfl rfl (ov_index_at (j := 5) (cs := [(mkS [112, 97, 114, 116]), (.bool true), (.bool false), (.func (.func 54) #[] #[]), (mkS [99, 121, 99, 108, 101, 115]), (.bool true), (.bool true), (.func (.func 55) #[] #[]), (mkS [102, 97, 117, 108, 116]), (.bool false), (.bool false), (.func (.func 56) #[] #[]), (mkS [114, 101, 112, 97, 105, 114]), (.bool false), (.bool false), (.func (.func 57) #[] #[]), (mkS [114, 101, 112, 108, 97, 99, 101]), (.bool true), (.bool false), (.func (.func 58) #[] #[]), (mkS [114, 101, 109, 111, 118, 101]), (.bool false), (.bool false), (.func (.func 59) #[] #[])]) (r := (.agg #[(mkS [114, 101, 109, 111, 118, 101]), (.bool false), (.bool false), (.func (.func 59) #[] #[])])) (eq_of_beq hc8) rfl rfl rfl (fun _ => by kernel_rfl)) ?_
           refine AL.any (rs := [4]) (by kernel_rfl) (by decide) ?_
           refine ALs.cons (i := 4) rfl (Runs.free rfl) rfl rfl ?_ ?_
           ·
            skip
            refine os_alloc (cs := [(mkS []), (.bool false), (.bool false), .nilFunc]) Tryz.zeroValue87 rfl rfl (fun b8 => ?_)
            refine ⟨fun w' s => (s.select [2] (by decide) rfl), ?_⟩
            refine AL.any (rs := [5]) (by kernel_rfl) (by decide) ?_
            refine ALs.cons0 (i := 5) rfl (Runs.free rfl) rfl ?_ ?_
            ·
             skip
             refine os_store (i := 0) (vs := [(mkS [114, 101, 109, 111, 118, 101]), (.bool false), (.bool false), (.func (.func 59) #[] #[])]) (cs' := [(mkS [114, 101, 109, 111, 118, 101]), (.bool false), (.bool false), (.func (.func 59) #[] #[])]) Tryz.sizeOf87 rfl rfl rfl rfl rfl rfl rfl rfl rfl ?_
             refine ⟨fun w' s => (s.select [2] (by decide) rfl), ?_⟩
             refine AL.done (by kernel_rfl) ?_
             refine then_normal ?_
             exact ⟨b8, [114, 101, 109, 111, 118, 101], false, false, (.func (.func 59) #[] #[]), (Sub.cons rfl (Sub.cons rfl (Sub.cons rfl (Sub.nil _)))), fun w' s => (s.select [0, 2] (by decide) rfl), hm⟩
            exact ALs.nil
           exact ALs.nil
          ·
           replace hm := ite_f hc8 hm
           exact (none_some hm).elim
    refine ALs.cons (i := 4) rfl (Runs.free rfl) rfl rfl ?_ ?_
    ·
     skip
     refine os_alloc (cs := [(mkS []), (.bool false), (.bool false), .nilFunc]) Tryz.zeroValue87 rfl rfl (fun b9 => ?_)
     refine ⟨fun w' s => (s.select [1] (by decide) rfl), ?_⟩
     refine AL.any (rs := [0]) (by kernel_rfl) (by decide) ?_
     refine ALs.cons (i := 0) rfl (Runs.free rfl) rfl rfl ?_ ?_
     ·
      skip
      refine os_inline (cap := []) (vs := []) Tryz.call37 rfl rfl rfl Tryz.func37 rfl 8 Tryz.ntmps37 rfl (fun w' s => ?_)
      refine WP.seq (WP.region ?_)
      refine WL.step (Runs.free rfl) rfl rfl (os_alloc (cs := [(mkS []), (.bool false), (.bool false), .nilFunc, (mkS []), (.bool false), (.bool false), .nilFunc, (mkS []), (.bool false), (.bool false), .nilFunc, (mkS []), (.bool false), (.bool false), .nilFunc, (mkS []), (.bool false), (.bool false), .nilFunc, (mkS []), (.bool false), (.bool false), .nilFunc]) Tryz.zeroValue88 rfl rfl (fun b10 => ?_))
      refine WL.nil (then_normal (WP.seq (WP.region ?_)))
      refine wq rfl rfl rfl (ov_build (r := (.agg #[(mkS [112, 97, 114, 116]), (.bool true), (.bool false), (.func (.func 54) #[] #[])])) rfl rfl (fun _ => by kernel_rfl)) ?_
      refine wq rfl rfl rfl (ov_build (r := (.agg #[(mkS [99, 121, 99, 108, 101, 115]), (.bool true), (.bool true), (.func (.func 55) #[] #[])])) rfl rfl (fun _ => by kernel_rfl)) ?_
      refine wq rfl rfl rfl (ov_build (r := (.agg #[(mkS [102, 97, 117, 108, 116]), (.bool false), (.bool false), (.func (.func 56) #[] #[])])) rfl rfl (fun _ => by kernel_rfl)) ?_
      refine wq rfl rfl rfl (ov_build (r := (.agg #[(mkS [114, 101, 112, 97, 105, 114]), (.bool false), (.bool false), (.func (.func 57) #[] #[])])) rfl rfl (fun _ => by kernel_rfl)) ?_
      refine wq rfl rfl rfl (ov_build (r := (.agg #[(mkS [114, 101, 112, 108, 97, 99, 101]), (.bool true), (.bool false), (.func (.func 58) #[] #[])])) rfl rfl (fun _ => by kernel_rfl)) ?_
      refine wq rfl rfl rfl (ov_build (r := (.agg #[(mkS [114, 101, 109, 111, 118, 101]), (.bool false), (.bool false), (.func (.func 59) #[] #[])])) rfl rfl (fun _ => by kernel_rfl)) ?_
      refine wq rfl rfl rfl (ov_build (r := (.agg #[(mkS [112, 97, 114, 116]), (.bool true), (.bool false), (.func (.func 54) #[] #[]), (mkS [99, 121, 99, 108, 101, 115]), (.bool true), (.bool true), (.func (.func 55) #[] #[]), (mkS [102, 97, 117, 108, 116]), (.bool false), (.bool false), (.func (.func 56) #[] #[]), (mkS [114, 101, 112, 97, 105, 114]), (.bool false), (.bool false), (.func (.func 57) #[] #[]), (mkS [114, 101, 112, 108, 97, 99, 101]), (.bool true), (.bool false), (.func (.func 58) #[] #[]), (mkS [114, 101, 109, 111, 118, 101]), (.bool false), (.bool false), (.func (.func 59) #[] #[])])) rfl rfl (fun _ => by kernel_rfl)) ?_
      refine WL.step0 (Runs.free rfl) rfl (os_store (i := 0) (vs := [(mkS [112, 97, 114, 116]), (.bool true), (.bool false), (.func (.func 54) #[] #[]), (mkS [99, 121, 99, 108, 101, 115]), (.bool true), (.bool true), (.func (.func 55) #[] #[]), (mkS [102, 97, 117, 108, 116]), (.bool false), (.bool false), (.func (.func 56) #[] #[]), (mkS [114, 101, 112, 97, 105, 114]), (.bool false), (.bool false), (.func (.func 57) #[] #[]), (mkS [114, 101, 112, 108, 97, 99, 101]), (.bool true), (.bool false), (.func (.func 58) #[] #[]), (mkS [114, 101, 109, 111, 118, 101]), (.bool false), (.bool false), (.func (.func 59) #[] #[])]) (cs' := [(mkS [112, 97, 114, 116]), (.bool true), (.bool false), (.func (.func 54) #[] #[]), (mkS [99, 121, 99, 108, 101, 115]), (.bool true), (.bool true), (.func (.func 55) #[] #[]), (mkS [102, 97, 117, 108, 116]), (.bool false), (.bool false), (.func (.func 56) #[] #[]), (mkS [114, 101, 112, 97, 105, 114]), (.bool false), (.bool false), (.func (.func 57) #[] #[]), (mkS [114, 101, 112, 108, 97, 99, 101]), (.bool true), (.bool false), (.func (.func 58) #[] #[]), (mkS [114, 101, 109, 111, 118, 101]), (.bool false), (.bool false), (.func (.func 59) #[] #[])]) Tryz.sizeOf88 rfl rfl rfl rfl rfl rfl rfl rfl rfl ?_)
      refine WL.nil (then_normal (WP.ret ?_))
      refine retQ_ret (v := (.agg #[(mkS [112, 97, 114, 116]), (.bool true), (.bool false), (.func (.func 54) #[] #[]), (mkS [99, 121, 99, 108, 101, 115]), (.bool true), (.bool true), (.func (.func 55) #[] #[]), (mkS [102, 97, 117, 108, 116]), (.bool false), (.bool false), (.func (.func 56) #[] #[]), (mkS [114, 101, 112, 97, 105, 114]), (.bool false), (.bool false), (.func (.func 57) #[] #[]), (mkS [114, 101, 112, 108, 97, 99, 101]), (.bool true), (.bool false), (.func (.func 58) #[] #[]), (mkS [114, 101, 109, 111, 118, 101]), (.bool false), (.bool false), (.func (.func 59) #[] #[])])) Tryz.results37 (Res.cell rfl (box_loads (i := 0) Tryz.isAgg88 Tryz.sizeOf88 rfl rfl) Res.nil) rfl (fun w' s => ⟨_, ?_, s⟩)
      refine ⟨fun w' s => (s.select [2] (by decide) rfl), ?_⟩
      rcases Bool.eq_false_or_eq_true (p_x.kind == 0) with hc9 | hc9
      ·
       replace hm := ite_t hc9 hm
       refine tq (i := 3) rfl (by kernel_rfl) rfl rfl rfl (ov_index_at (j := 0) (cs := [(mkS [112, 97, 114, 116]), (.bool true), (.bool false), (.func (.func 54) #[] #[]), (mkS [99, 121, 99, 108, 101, 115]), (.bool true), (.bool true), (.func (.func 55) #[] #[]), (mkS [102, 97, 117, 108, 116]), (.bool false), (.bool false), (.func (.func 56) #[] #[]), (mkS [114, 101, 112, 97, 105, 114]), (.bool false), (.bool false), (.func (.func 57) #[] #[]), (mkS [114, 101, 112, 108, 97, 99, 101]), (.bool true), (.bool false), (.func (.func 58) #[] #[]), (mkS [114, 101, 109, 111, 118, 101]), (.bool false), (.bool false), (.func (.func 59) #[] #[])]) (r := (.agg #[(mkS [112, 97, 114, 116]), (.bool true), (.bool false), (.func (.func 54) #[] #[])])) (eq_of_beq hc9) rfl rfl rfl (fun _ => by kernel_rfl)) ?_
       refine AL.any (rs := [5]) (by kernel_rfl) (by decide) ?_
       refine ALs.cons0 (i := 5) rfl (Runs.free rfl) rfl ?_ ?_
       ·
        skip
        refine os_store (i := 1) (vs := [(mkS [112, 97, 114, 116]), (.bool true), (.bool false), (.func (.func 54) #[] #[])]) (cs' := [(mkS [112, 97, 114, 116]), (.bool true), (.bool false), (.func (.func 54) #[] #[])]) Tryz.sizeOf87 rfl rfl rfl rfl rfl rfl rfl rfl rfl ?_
        refine ⟨fun w' s => (s.select [2] (by decide) rfl), ?_⟩
        refine AL.done (by kernel_rfl) ?_
        refine then_normal ?_
        exact ⟨b9, [112, 97, 114, 116], true, false, (.func (.func 54) #[] #[]), (Sub.cons rfl (Sub.cons rfl (Sub.cons rfl (Sub.nil _)))), fun w' s => (s.select [1, 2] (by decide) rfl), hm⟩
       exact ALs.nil
      ·
       replace hm := ite_f hc9 hm
       rcases Bool.eq_false_or_eq_true (p_x.kind == 1) with hc10 | hc10
       ·
        replace hm := ite_t hc10 hm
        refine tq (i := 3) rfl (by kernel_rfl) rfl rfl rfl (ov_index_at (j := 1) (cs := [(mkS [112, 97, 114, 116]), (.bool true), (.bool false), (.func (.func 54) #[] #[]), (mkS [99, 121, 99, 108, 101, 115]), (.bool true), (.bool true), (.func (.func 55) #[] #[]), (mkS [102, 97, 117, 108, 116]), (.bool false), (.bool false), (.func (.func 56) #[] #[]), (mkS [114, 101, 112, 97, 105, 114]), (.bool false), (.bool false), (.func (.func 57) #[] #[]), (mkS [114, 101, 112, 108, 97, 99, 101]), (.bool true), (.bool false), (.func (.func 58) #[] #[]), (mkS [114, 101, 109, 111, 118, 101]), (.bool false), (.bool false), (.func (.func 59) #[] #[])]) (r := (.agg #[(mkS [99, 121, 99, 108, 101, 115]), (.bool true), (.bool true), (.func (.func 55) #[] #[])])) (eq_of_beq hc10) rfl rfl rfl (fun _ => by kernel_rfl)) ?_
        refine AL.any (rs := [5]) (by kernel_rfl) (by decide) ?_
        refine ALs.cons0 (i := 5) rfl (Runs.free rfl) rfl ?_ ?_
        ·
         skip
         refine os_store (i := 1) (vs := [(mkS [99, 121, 99, 108, 101, 115]), (.bool true), (.bool true), (.func (.func 55) #[] #[])]) (cs' := [(mkS [99, 121, 99, 108, 101, 115]), (.bool true), (.bool true), (.func (.func 55) #[] #[])]) Tryz.sizeOf87 rfl rfl rfl rfl rfl rfl rfl rfl rfl ?_
         refine ⟨fun w' s => (s.select [2] (by decide) rfl), ?_⟩
         refine AL.done (by kernel_rfl) ?_
         refine then_normal ?_
         exact ⟨b9, [99, 121, 99, 108, 101, 115], true, true, (.func (.func 55) #[] #[]), (Sub.cons rfl (Sub.cons rfl (Sub.cons rfl (Sub.nil _)))), fun w' s => (s.select [1, 2] (by decide) rfl), hm⟩
        exact ALs.nil
       ·
        replace hm := ite_f hc10 hm
        rcases Bool.eq_false_or_eq_true (p_x.kind == 2) with hc11 | hc11
        ·
         replace hm := ite_t hc11 hm
         refine tq (i := 3) rfl (by kernel_rfl) rfl rfl rfl (ov_index_at (j := 2) (cs := [(mkS [112, 97, 114, 116]), (.bool true), (.bool false), (.func (.func 54) #[] #[]), (mkS [99, 121, 99, 108, 101, 115]), (.bool true), (.bool true), (.func (.func 55) #[] #[]), (mkS [102, 97, 117, 108, 116]), (.bool false), (.bool false), (.func (.func 56) #[] #[]), (mkS [114, 101, 112, 97, 105, 114]), (.bool false), (.bool false), (.func (.func 57) #[] #[]), (mkS [114, 101, 112, 108, 97, 99, 101]), (.bool true), (.bool false), (.func (.func 58) #[] #[]), (mkS [114, 101, 109, 111, 118, 101]), (.bool false), (.bool false), (.func (.func 59) #[] #[])]) (r := (.agg #[(mkS [102, 97, 117, 108, 116]), (.bool false), (.bool false), (.func (.func 56) #[] #[])])) (eq_of_beq hc11) rfl rfl rfl (fun _ => by kernel_rfl)) ?_
         refine AL.any (rs := [5]) (by kernel_rfl) (by decide) ?_
         refine ALs.cons0 (i := 5) rfl (Runs.free rfl) rfl ?_ ?_
         ·
          skip
          refine os_store (i := 1) (vs := [(mkS [102, 97, 117, 108, 116]), (.bool false), (.bool false), (.func (.func 56) #[] #[])]) (cs' := [(mkS [102, 97, 117, 108, 116]), (.bool false), (.bool false), (.func (.func 56) #[] #[])]) Tryz.sizeOf87 rfl rfl rfl rfl rfl rfl rfl rfl rfl ?_
          refine ⟨fun w' s => (s.select [2] (by decide) rfl), ?_⟩
          refine AL.done (by kernel_rfl) ?_
          refine then_normal ?_
          exact ⟨b9, [102, 97, 117, 108, 116], false, false, (.func (.func 56) #[] #[]), (Sub.cons rfl (Sub.cons rfl (Sub.cons rfl (Sub.nil _)))), fun w' s => (s.select [1, 2] (by decide) rfl), hm⟩
         exact ALs.nil
        ·
         replace hm := ite_f hc11 hm
         rcases Bool.eq_false_or_eq_true (p_x.kind == 3) with hc12 | hc12
         ·
          replace hm := ite_t hc12 hm
          refine tq (i := 3) rfl (by kernel_rfl) rfl rfl rfl (ov_index_at (j := 3) (cs := [(mkS [112, 97, 114, 116]), (.bool true), (.bool false), (.func (.func 54) #[] #[]), (mkS [99, 121, 99, 108, 101, 115]), (.bool true), (.bool true), (.func (.func 55) #[] #[]), (mkS [102, 97, 117, 108, 116]), (.bool false), (.bool false), (.func (.func 56) #[] #[]), (mkS [114, 101, 112, 97, 105, 114]), (.bool false), (.bool false), (.func (.func 57) #[] #[]), (mkS [114, 101, 112, 108, 97, 99, 101]), (.bool true), (.bool false), (.func (.func 58) #[] #[]), (mkS [114, 101, 109, 111, 118, 101]), (.bool false), (.bool false), (.func (.func 59) #[] #[])]) (r := (.agg #[(mkS [114, 101, 112, 97, 105, 114]), (.bool false), (.bool false), (.func (.func 57) #[] #[])])) (eq_of_beq hc12) rfl rfl rfl (fun _ => by kernel_rfl)) ?_
          refine AL.any (rs := [5]) (by kernel_rfl) (by decide) ?_
          refine ALs.cons0 (i := 5) rfl (Runs.free rfl) rfl ?_ ?_
          ·
           skip
           refine os_store (i := 1) (vs := [(mkS [114, 101, 112, 97, 105, 114]), (.bool false), (.bool false), (.func (.func 57) #[] #[])]) (cs' := [(mkS [114, 101, 112, 97, 105, 114]), (.bool false), (.bool false), (.func (.func 57) #[] #[])]) Tryz.sizeOf87 rfl rfl rfl rfl rfl rfl rfl rfl rfl ?_
           refine ⟨fun w' s => (s.select [2] (by decide) rfl), ?_⟩
           refine AL.done (by kernel_rfl) ?_
           refine then_normal ?_
           exact ⟨b9, [114, 101, 112, 97, 105, 114], false, false, (.func (.func 57) #[] #[]), (Sub.cons rfl (Sub.cons rfl (Sub.cons rfl (Sub.nil _)))), fun w' s => (s.select [1, 2] (by decide) rfl), hm⟩
          exact ALs.nil
         ·
          replace hm := ite_f hc12 hm
          rcases Bool.eq_false_or_eq_true (p_x.kind == 4) with hc13 | hc13
          ·
           replace hm := ite_t hc13 hm
           refine tq (i := 3) rfl (by kernel_rfl) rfl rfl rfl (ov_index_at (j := 4) (cs := [(mkS [112, 97, 114, 116]), (.bool true), (.bool false), (.func (.func 54) #[] #[]), (mkS [99, 121, 99, 108, 101, 115]), (.bool true), (.bool true), (.func (.func 55) #[] #[]), (mkS [102, 97, 117, 108, 116]), (.bool false), (.bool false), (.func (.func 56) #[] #[]), (mkS [114, 101, 112, 97, 105, 114]), (.bool false), (.bool false), (.func (.func 57) #[] #[]), (mkS [114, 101, 112, 108, 97, 99, 101]), (.bool true), (.bool false), (.func (.func 58) #[] #[]), (mkS [114, 101, 109, 111, 118, 101]), (.bool false), (.bool false), (.func (.func 59) #[] #[])]) (r := (.agg #[(mkS [114, 101, 112, 108, 97, 99, 101]), (.bool true), (.bool false), (.func (.func 58) #[] #[])])) (eq_of_beq hc13) rfl rfl rfl (fun _ => by kernel_rfl)) ?_
           refine AL.any (rs := [5]) (by kernel_rfl) (by decide) ?_
           refine ALs.cons0 (i := 5) rfl (Runs.free rfl) rfl ?_ ?_
           ·
            skip
            refine os_store (i := 1) (vs := [(mkS [114, 101, 112, 108, 97, 99, 101]), (.bool true), (.bool false), (.func (.func 58) #[] #[])]) (cs' := [(mkS [114, 101, 112, 108, 97, 99, 101]), (.bool true), (.bool false), (.func (.func 58) #[] #[])]) Tryz.sizeOf87 rfl rfl rfl rfl rfl rfl rfl rfl rfl ?_
            refine ⟨fun w' s => (s.select [2] (by decide) rfl), ?_⟩
            refine AL.done (by kernel_rfl) ?_
            refine then_normal ?_
            exact ⟨b9, [114, 101, 112, 108, 97, 99, 101], true, false, (.func (.func 58) #[] #[]), (Sub.cons rfl (Sub.cons rfl (Sub.cons rfl (Sub.nil _)))), fun w' s => (s.select [1, 2] (by decide) rfl), hm⟩
           exact ALs.nil
          ·
           replace hm := ite_f hc13 hm
           rcases Bool.eq_false_or_eq_true (p_x.kind == 5) with hc14 | hc14
           ·
            replace hm := ite_t hc14 hm
            refine tq (i := 3) rfl (by kernel_rfl) rfl rfl rfl (ov_index_at (j := 5) (cs := [(mkS [112, 97, 114, 116]), (.bool true), (.bool false), (.func (.func 54) #[] #[]), (mkS [99, 121, 99, 108, 101, 115]), (.bool true), (.bool true), (.func (.func 55) #[] #[]), (mkS [102, 97, 117, 108, 116]), (.bool false), (.bool false), (.func (.func 56) #[] #[]), (mkS [114, 101, 112, 97, 105, 114]), (.bool false), (.bool false), (.func (.func 57) #[] #[]), (mkS [114, 101, 112, 108, 97, 99, 101]), (.bool true), (.bool false), (.func (.func 58) #[] #[]), (mkS [114, 101, 109, 111, 118, 101]), (.bool false), (.bool false), (.func (.func 59) #[] #[])]) (r := (.agg #[(mkS [114, 101, 109, 111, 118, 101]), (.bool false), (.bool false), (.func (.func 59) #[] #[])])) (eq_of_beq hc14) rfl rfl rfl (fun _ => by kernel_rfl)) ?_
            refine AL.any (rs := [5]) (by kernel_rfl) (by decide) ?_
            refine ALs.cons0 (i := 5) rfl (Runs.free rfl) rfl ?_ ?_
            ·
             skip
             refine os_store (i := 1) (vs := [(mkS [114, 101, 109, 111, 118, 101]), (.bool false), (.bool false), (.func (.func 59) #[] #[])]) (cs' := [(mkS [114, 101, 109, 111, 118, 101]), (.bool false), (.bool false), (.func (.func 59) #[] #[])]) Tryz.sizeOf87 rfl rfl rfl rfl rfl rfl rfl rfl rfl ?_
             refine ⟨fun w' s => (s.select [2] (by decide) rfl), ?_⟩
             refine AL.done (by kernel_rfl) ?_
             refine then_normal ?_
             exact ⟨b9, [114, 101, 109, 111, 118, 101], false, false, (.func (.func 59) #[] #[]), (Sub.cons rfl (Sub.cons rfl (Sub.cons rfl (Sub.nil _)))), fun w' s => (s.select [1, 2] (by decide) rfl), hm⟩
            exact ALs.nil
           ·
            replace hm := ite_f hc14 hm
            exact (none_some hm).elim
     exact ALs.nil
    exact ALs.nil
   ·
    rintro g' S' ⟨b11, s1, c1, c2, v1, hsub1, hS1, hm⟩
    refine WP.sub hsub1 (WP.weaken hS1 ?_)
    replace hm := (congrFun (congrFun (congrFun hk1 s1) c1) c2).symm.trans hm
    refine WP.seq (WP.seq (WP.region ?_))
    refine wq rfl rfl rfl (ov_fieldAddr Tryz.underlying87 rfl rfl rfl Tryz.sizeOf4 rfl rfl) ?_
    refine wq rfl rfl rfl (ov_load_box (i := 0) Tryz.isAgg4 rfl rfl rfl rfl) ?_
    refine wq rfl rfl rfl (ov_move rfl rfl) ?_
    obtain ⟨c3, e3, hm⟩ := bind_some hm
    refine WL.cut_bool 5 26 (x := c3) ?_ ?_
    ·
     rcases Bool.eq_false_or_eq_true c1 with hc15 | hc15
     ·
      skip
      replace hm := ite_t hc15 e3
      refine WL.quiet (Runs.yes rfl rfl rfl hc15) rfl rfl (OV.quiet (ov_fieldAddr Tryz.underlying24 rfl rfl rfl Tryz.sizeOf3 rfl rfl)) ?_
      refine WL.quiet (Runs.yes rfl rfl rfl hc15) rfl rfl (OV.quiet (ov_load_box (i := 1) Tryz.isAgg3 rfl rfl rfl rfl)) ?_
      obtain ⟨r3, e4, hm⟩ := bind_some hm
      refine WL.quiet (Runs.yes rfl rfl rfl hc15) rfl rfl (oq_con (r := (.bool r3)) Tryz.call22 rfl rfl (fun w' s => ⟨_, (journal_in_con p_x.count 1 1048576  w' H s.hold hG r3 e4)⟩)) ?_
      refine WL.quiet (Runs.yes rfl rfl rfl hc15) rfl rfl (OV.quiet (ov_not rfl rfl)) ?_
      refine wq rfl rfl rfl (ov_pick_true rfl (guard_eq rfl hc15) rfl) ?_
      exact WL.nil ⟨Sub.cons' rfl (congrArg Value.bool (Option.some.inj hm)) (Sub.skip rfl (Sub.skip rfl (Sub.skip rfl (Sub.skip rfl (Sub.skip rfl (Sub.refl _)))))), fun _ s => s⟩
     ·
      skip
      replace hm := ite_f hc15 e3
      refine WL.idle (Idle.no rfl rfl rfl hc15) rfl rfl ?_
      refine WL.idle (Idle.no rfl rfl rfl hc15) rfl rfl ?_
      refine WL.idle (Idle.no rfl rfl rfl hc15) rfl rfl ?_
      refine WL.idle (Idle.no rfl rfl rfl hc15) rfl rfl ?_
      refine wq rfl rfl rfl (ov_pick_false rfl (guard_eq rfl hc15) rfl) ?_
      exact WL.nil ⟨Sub.cons' rfl (congrArg Value.bool (Option.some.inj hm)) (Sub.skip rfl (Sub.skip rfl (Sub.skip rfl (Sub.skip rfl (Sub.skip rfl (Sub.refl _)))))), fun _ s => s⟩
    refine wq rfl rfl rfl (ov_move rfl rfl) ?_
    refine WL.cut_bool 9 36 (x := (c3 || ((!c1) && (p_x.count != 0)))) ?_ ?_
    ·
     rcases Bool.eq_false_or_eq_true c3 with hc16 | hc16
     ·
      skip
      refine WL.idle (Idle.no rfl rfl rfl hc16) rfl rfl ?_
      refine WL.idle (Idle.no rfl rfl rfl hc16) rfl rfl ?_
      refine WL.idle (Idle.no rfl rfl rfl hc16) rfl rfl ?_
      refine WL.idle (Idle.no rfl rfl rfl hc16) rfl rfl ?_
      refine WL.idle (Idle.undef rfl rfl rfl) rfl rfl ?_
      refine WL.idle (Idle.undef rfl rfl rfl) rfl rfl ?_
      refine WL.idle (Idle.undef rfl rfl rfl) rfl rfl ?_
      refine WL.idle (Idle.no rfl rfl rfl hc16) rfl rfl ?_
      refine wq rfl rfl rfl (ov_pick_true rfl (guard_eq rfl hc16) rfl) ?_
      exact WL.nil ⟨Sub.cons' rfl (congrArg Value.bool (orT hc16)) (Sub.skip rfl (Sub.skip rfl (Sub.skip rfl (Sub.skip rfl (Sub.skip rfl (Sub.skip rfl (Sub.skip rfl (Sub.skip rfl (Sub.skip rfl (Sub.refl _)))))))))), fun _ s => s⟩
     ·
      skip
      refine WL.quiet (Runs.yes rfl rfl rfl hc16) rfl rfl (OV.quiet (ov_fieldAddr Tryz.underlying87 rfl rfl rfl Tryz.sizeOf4 rfl rfl)) ?_
      refine WL.quiet (Runs.yes rfl rfl rfl hc16) rfl rfl (OV.quiet (ov_load_box (i := 0) Tryz.isAgg4 rfl rfl rfl rfl)) ?_
      refine WL.quiet (Runs.yes rfl rfl rfl hc16) rfl rfl (OV.quiet (ov_not rfl rfl)) ?_
      refine WL.quiet (Runs.yes rfl rfl rfl hc16) rfl rfl (OV.quiet (ov_move rfl rfl)) ?_
      refine WL.cut_bool 4 35 (x := ((!c1) && (p_x.count != 0))) ?_ ?_
      ·
       rcases Bool.eq_false_or_eq_true (!c1) with hc17 | hc17
       ·
        skip
        refine WL.quiet (Runs.yes rfl rfl rfl hc17) rfl rfl (OV.quiet (ov_fieldAddr Tryz.underlying24 rfl rfl rfl Tryz.sizeOf3 rfl rfl)) ?_
        refine WL.quiet (Runs.yes rfl rfl rfl hc17) rfl rfl (OV.quiet (ov_load_box (i := 1) Tryz.isAgg3 rfl rfl rfl rfl)) ?_
        refine WL.quiet (Runs.yes rfl rfl rfl hc17) rfl rfl (OV.quiet (ov_neq rfl rfl rfl)) ?_
        refine WL.quiet (Runs.yes rfl rfl rfl hc16) rfl rfl (OV.quiet (ov_pick_true rfl (guard_eq rfl hc17) rfl)) ?_
        exact WL.nil ⟨Sub.cons' rfl (congrArg Value.bool (andT hc17)) (Sub.skip rfl (Sub.skip rfl (Sub.skip rfl (Sub.skip rfl (Sub.refl _))))), fun _ s => s⟩
       ·
        skip
        refine WL.idle (Idle.no rfl rfl rfl hc17) rfl rfl ?_
        refine WL.idle (Idle.no rfl rfl rfl hc17) rfl rfl ?_
        refine WL.idle (Idle.no rfl rfl rfl hc17) rfl rfl ?_
        refine WL.quiet (Runs.yes rfl rfl rfl hc16) rfl rfl (OV.quiet (ov_pick_false rfl (guard_eq rfl hc17) rfl)) ?_
        exact WL.nil ⟨Sub.cons' rfl (congrArg Value.bool (andF hc17)) (Sub.skip rfl (Sub.skip rfl (Sub.skip rfl (Sub.skip rfl (Sub.refl _))))), fun _ s => s⟩
      refine wq rfl rfl rfl (ov_pick_false rfl (guard_eq rfl hc16) rfl) ?_
      exact WL.nil ⟨Sub.cons' rfl (congrArg Value.bool (orF hc16)) (Sub.skip rfl (Sub.skip rfl (Sub.skip rfl (Sub.skip rfl (Sub.skip rfl (Sub.skip rfl (Sub.refl _))))))), fun _ s => s⟩
    refine wq rfl rfl rfl (ov_move rfl rfl) ?_
    obtain ⟨c4, e5, hm⟩ := bind_some hm
    refine WL.cut_bool 9 46 (x := c4) ?_ ?_
    ·
     rcases Bool.eq_false_or_eq_true (c3 || ((!c1) && (p_x.count != 0))) with hc18 | hc18
     ·
      skip
      replace hm := ite_t hc18 e5
      refine WL.idle (Idle.no rfl rfl rfl hc18) rfl rfl ?_
      refine WL.idle (Idle.no rfl rfl rfl hc18) rfl rfl ?_
      refine WL.idle (Idle.no rfl rfl rfl hc18) rfl rfl ?_
      refine WL.idle (Idle.undef rfl rfl rfl) rfl rfl ?_
      refine WL.idle (Idle.undef rfl rfl rfl) rfl rfl ?_
      refine WL.idle (Idle.undef rfl rfl rfl) rfl rfl ?_
      refine WL.idle (Idle.undef rfl rfl rfl) rfl rfl ?_
      refine WL.idle (Idle.no rfl rfl rfl hc18) rfl rfl ?_
      refine wq rfl rfl rfl (ov_pick_true rfl (guard_eq rfl hc18) rfl) ?_
      exact WL.nil ⟨Sub.cons' rfl (congrArg Value.bool (Option.some.inj hm)) (Sub.skip rfl (Sub.skip rfl (Sub.skip rfl (Sub.skip rfl (Sub.skip rfl (Sub.skip rfl (Sub.skip rfl (Sub.skip rfl (Sub.skip rfl (Sub.refl _)))))))))), fun _ s => s⟩
     ·
      skip
      replace hm := ite_f hc18 e5
      refine WL.quiet (Runs.yes rfl rfl rfl hc18) rfl rfl (OV.quiet (ov_fieldAddr Tryz.underlying87 rfl rfl rfl Tryz.sizeOf4 rfl rfl)) ?_
      refine WL.quiet (Runs.yes rfl rfl rfl hc18) rfl rfl (OV.quiet (ov_load_box (i := 0) Tryz.isAgg4 rfl rfl rfl rfl)) ?_
      refine WL.quiet (Runs.yes rfl rfl rfl hc18) rfl rfl (OV.quiet (ov_move rfl rfl)) ?_
      obtain ⟨c5, e6, hm⟩ := bind_some hm
      refine WL.cut_bool 5 45 (x := c5) ?_ ?_
      ·
       rcases Bool.eq_false_or_eq_true c2 with hc19 | hc19
       ·
        skip
        replace hm := ite_t hc19 e6
        refine WL.quiet (Runs.yes rfl rfl rfl hc19) rfl rfl (OV.quiet (ov_fieldAddr Tryz.underlying24 rfl rfl rfl Tryz.sizeOf3 rfl rfl)) ?_
        refine WL.quiet (Runs.yes rfl rfl rfl hc19) rfl rfl (OV.quiet (ov_load_box (i := 1) Tryz.isAgg3 rfl rfl rfl rfl)) ?_
        obtain ⟨r4, e7, hm⟩ := bind_some hm
        refine WL.quiet (Runs.yes rfl rfl rfl hc19) rfl rfl (oq_con (r := (.bool r4)) Tryz.call22 rfl rfl (fun w' s => ⟨_, (journal_in_con p_x.strokes 0 1048576  w' H s.hold hG r4 e7)⟩)) ?_
        refine WL.quiet (Runs.yes rfl rfl rfl hc19) rfl rfl (OV.quiet (ov_not rfl rfl)) ?_
        refine WL.quiet (Runs.yes rfl rfl rfl hc18) rfl rfl (OV.quiet (ov_pick_true rfl (guard_eq rfl hc19) rfl)) ?_
        exact WL.nil ⟨Sub.cons' rfl (congrArg Value.bool (Option.some.inj hm)) (Sub.skip rfl (Sub.skip rfl (Sub.skip rfl (Sub.skip rfl (Sub.skip rfl (Sub.refl _)))))), fun _ s => s⟩
       ·
        skip
        replace hm := ite_f hc19 e6
        refine WL.idle (Idle.no rfl rfl rfl hc19) rfl rfl ?_
        refine WL.idle (Idle.no rfl rfl rfl hc19) rfl rfl ?_
        refine WL.idle (Idle.no rfl rfl rfl hc19) rfl rfl ?_
        refine WL.idle (Idle.no rfl rfl rfl hc19) rfl rfl ?_
        refine WL.quiet (Runs.yes rfl rfl rfl hc18) rfl rfl (OV.quiet (ov_pick_false rfl (guard_eq rfl hc19) rfl)) ?_
        exact WL.nil ⟨Sub.cons' rfl (congrArg Value.bool (Option.some.inj hm)) (Sub.skip rfl (Sub.skip rfl (Sub.skip rfl (Sub.skip rfl (Sub.skip rfl (Sub.refl _)))))), fun _ s => s⟩
      refine wq rfl rfl rfl (ov_pick_false rfl (guard_eq rfl hc18) rfl) ?_
      exact WL.nil ⟨Sub.cons' rfl (congrArg Value.bool (Option.some.inj hm)) (Sub.skip rfl (Sub.skip rfl (Sub.skip rfl (Sub.skip rfl (Sub.skip rfl (Sub.refl _)))))), fun _ s => s⟩
    refine wq rfl rfl rfl (ov_move rfl rfl) ?_
    refine WL.cut_bool 9 56 (x := (c4 || ((!c2) && (p_x.strokes != 0)))) ?_ ?_
    ·
     rcases Bool.eq_false_or_eq_true c4 with hc20 | hc20
     ·
      skip
      refine WL.idle (Idle.no rfl rfl rfl hc20) rfl rfl ?_
      refine WL.idle (Idle.no rfl rfl rfl hc20) rfl rfl ?_
      refine WL.idle (Idle.no rfl rfl rfl hc20) rfl rfl ?_
      refine WL.idle (Idle.no rfl rfl rfl hc20) rfl rfl ?_
      refine WL.idle (Idle.undef rfl rfl rfl) rfl rfl ?_
      refine WL.idle (Idle.undef rfl rfl rfl) rfl rfl ?_
      refine WL.idle (Idle.undef rfl rfl rfl) rfl rfl ?_
      refine WL.idle (Idle.no rfl rfl rfl hc20) rfl rfl ?_
      refine wq rfl rfl rfl (ov_pick_true rfl (guard_eq rfl hc20) rfl) ?_
      exact WL.nil ⟨Sub.cons' rfl (congrArg Value.bool (orT hc20)) (Sub.skip rfl (Sub.skip rfl (Sub.skip rfl (Sub.skip rfl (Sub.skip rfl (Sub.skip rfl (Sub.skip rfl (Sub.skip rfl (Sub.skip rfl (Sub.refl _)))))))))), fun _ s => s⟩
     ·
      skip
      refine WL.quiet (Runs.yes rfl rfl rfl hc20) rfl rfl (OV.quiet (ov_fieldAddr Tryz.underlying87 rfl rfl rfl Tryz.sizeOf4 rfl rfl)) ?_
      refine WL.quiet (Runs.yes rfl rfl rfl hc20) rfl rfl (OV.quiet (ov_load_box (i := 0) Tryz.isAgg4 rfl rfl rfl rfl)) ?_
      refine WL.quiet (Runs.yes rfl rfl rfl hc20) rfl rfl (OV.quiet (ov_not rfl rfl)) ?_
      refine WL.quiet (Runs.yes rfl rfl rfl hc20) rfl rfl (OV.quiet (ov_move rfl rfl)) ?_
      refine WL.cut_bool 4 55 (x := ((!c2) && (p_x.strokes != 0))) ?_ ?_
      ·
       rcases Bool.eq_false_or_eq_true (!c2) with hc21 | hc21
       ·
        skip
        refine WL.quiet (Runs.yes rfl rfl rfl hc21) rfl rfl (OV.quiet (ov_fieldAddr Tryz.underlying24 rfl rfl rfl Tryz.sizeOf3 rfl rfl)) ?_
        refine WL.quiet (Runs.yes rfl rfl rfl hc21) rfl rfl (OV.quiet (ov_load_box (i := 1) Tryz.isAgg3 rfl rfl rfl rfl)) ?_
        refine WL.quiet (Runs.yes rfl rfl rfl hc21) rfl rfl (OV.quiet (ov_neq rfl rfl rfl)) ?_
        refine WL.quiet (Runs.yes rfl rfl rfl hc20) rfl rfl (OV.quiet (ov_pick_true rfl (guard_eq rfl hc21) rfl)) ?_
        exact WL.nil ⟨Sub.cons' rfl (congrArg Value.bool (andT hc21)) (Sub.skip rfl (Sub.skip rfl (Sub.skip rfl (Sub.skip rfl (Sub.refl _))))), fun _ s => s⟩
       ·
        skip
        refine WL.idle (Idle.no rfl rfl rfl hc21) rfl rfl ?_
        refine WL.idle (Idle.no rfl rfl rfl hc21) rfl rfl ?_
        refine WL.idle (Idle.no rfl rfl rfl hc21) rfl rfl ?_
        refine WL.quiet (Runs.yes rfl rfl rfl hc20) rfl rfl (OV.quiet (ov_pick_false rfl (guard_eq rfl hc21) rfl)) ?_
        exact WL.nil ⟨Sub.cons' rfl (congrArg Value.bool (andF hc21)) (Sub.skip rfl (Sub.skip rfl (Sub.skip rfl (Sub.skip rfl (Sub.refl _))))), fun _ s => s⟩
      refine wq rfl rfl rfl (ov_pick_false rfl (guard_eq rfl hc20) rfl) ?_
      exact WL.nil ⟨Sub.cons' rfl (congrArg Value.bool (orF hc20)) (Sub.skip rfl (Sub.skip rfl (Sub.skip rfl (Sub.skip rfl (Sub.skip rfl (Sub.skip rfl (Sub.refl _))))))), fun _ s => s⟩
    refine WL.nil (then_normal ?_)
    refine WP.cond rfl (fun hc22 => ?_) (fun hc22 => ?_)
    ·
     replace hm := ite_t hc22 hm
     refine WP.seq (WP.region ?_)
     refine wq rfl rfl rfl (ov_assign rfl rfl) ?_
     refine WL.nil (then_normal (WP.ret (then_ret ?_)))
     obtain rfl := Option.some.inj hm
     refine retQ_ret Tryz.results20 (Res.tmp rfl Res.nil) rfl (fun w' s => ⟨s.below, ?_⟩)
     exact rfl
    ·
     replace hm := ite_f hc22 hm
     refine WP.skip (then_normal (WP.seq (WP.region ?_)))
     refine wq rfl rfl rfl (ov_assign rfl rfl) ?_
     refine WL.nil (then_normal (WP.ret ?_))
     obtain rfl := Option.some.inj hm
     refine retQ_ret Tryz.results20 (Res.tmp rfl Res.nil) rfl (fun w' s => ⟨s.below, ?_⟩)
     exact rfl

theorem journal_find_con (p_m : Machine) (p_name : (List UInt8)) (ao1 : Option Addr) (cap1 : Nat) (w : World) (H : Heap) (hH : Le H (hp w)) (h1 : SL H encItem ao1 p_m.items) (hc1 : p_m.items.length ≤ cap1) (hG : Glob H) (r : (Int × Bool)) (hm : journal_find p_m p_name = some r) :
  Con Tryz.prog 33 [(.agg #[(.slice ao1 p_m.items.length cap1), (.int .i64 p_m.cycles)]), (mkS p_name)] w H (fun v _ => v = (.tuple #[(.int .i64 r.1), (.bool r.2)])) := by
 unfold journal_find at hm
 refine con_of hH Tryz.func33 rfl 12 Tryz.ntmps33 rfl ?_
 refine WP.seq (WP.region ?_)
 refine WL.step (Runs.free rfl) rfl rfl (os_box (cs := [(.slice ao1 p_m.items.length cap1), (.int .i64 p_m.cycles)]) rfl rfl rfl (fun b1 => ?_))
 refine wq rfl rfl rfl (ov_assign rfl rfl) ?_
 refine wq rfl rfl rfl (ov_assign rfl rfl) ?_
 refine WL.nil (then_normal (WP.seq (WP.region ?_)))
 refine wq rfl rfl rfl (ov_fieldAddr Tryz.underlying36 rfl rfl rfl Tryz.sizeOf34 rfl rfl) ?_
 refine wq rfl rfl rfl (ov_load_box (i := 0) Tryz.isAgg34 rfl rfl rfl rfl) ?_
 refine wq rfl rfl rfl (ov_move rfl rfl) ?_
 refine WL.step (Runs.free rfl) rfl rfl (os_inline (cap := []) (vs := [(.slice ao1 p_m.items.length cap1), (mkS p_name), (.func (.func 46) #[] #[])]) Tryz.call45 rfl rfl rfl Tryz.func45 rfl 49 Tryz.ntmps45 rfl (fun w' s => ?_))
 refine WP.seq (WP.region ?_)
 refine wq rfl rfl rfl (ov_assign rfl rfl) ?_
 refine wq rfl rfl rfl (ov_assign rfl rfl) ?_
 refine WL.nil (then_normal (WP.seq (WP.region ?_)))
 refine wq rfl rfl rfl (ov_move rfl rfl) ?_
 refine wq rfl rfl rfl (ov_len_slice Tryz.underlying34 rfl rfl) ?_
 refine wq rfl rfl rfl (ov_assign rfl rfl) ?_
 refine WL.nil (then_normal (WP.seq (WP.region ?_)))
 refine wq rfl rfl rfl (ov_move rfl rfl) ?_
 refine wq rfl rfl rfl (ov_assign rfl rfl) ?_
 refine wq rfl rfl rfl (ov_assign rfl rfl) ?_
 refine WL.nil (then_normal ?_)
 obtain ⟨k1, hk1, hm⟩ := joinK_some hm
 refine WP.seq_join (fun g' S' => ∃ (i3 : Int), Sub [(0, (.slice ao1 p_m.items.length cap1)), (1, (mkS p_name)), (2, (.func (.func 46) #[] #[])), (8, (.int .i64 (p_m.items.length : Int))), (9, (.int .i64 i3)), (1000000007, (.bool false))] g' ∧ (∀ w', S' w' → St w H [.blk b1 36 [(.slice ao1 p_m.items.length cap1), (.int .i64 p_m.cycles)]] H w') ∧ k1 i3 = some r) ?_ ?_
 ·
  skip
  refine WP.block ?_
  refine WP.loop (fun m1 g' S' => ∃ (i1 : Int) (i2 : Int), Sub [(0, (.slice ao1 p_m.items.length cap1)), (1, (mkS p_name)), (2, (.func (.func 46) #[] #[])), (8, (.int .i64 (p_m.items.length : Int))), (9, (.int .i64 i1)), (10, (.int .i64 i2)), (1000000007, (.bool false))] g' ∧ (∀ w', S' w' → St w H [.blk b1 36 [(.slice ao1 p_m.items.length cap1), (.int .i64 p_m.cycles)]] H w') ∧ journal_find_loop1 p_m p_name k1 m1 i1 i2 = some r) ((p_m.items.length + 1)) ⟨0, (p_m.items.length : Int), (Sub.cons rfl (Sub.cons rfl (Sub.cons rfl (Sub.cons rfl (Sub.cons rfl (Sub.cons rfl (Sub.cons rfl (Sub.nil _)))))))), fun w' s => s, hm⟩ ?_ ?_
  ·
   rintro g' S' ⟨_, _, _, _, hm⟩
   exact none_some hm
  ·
   rintro m1 g' S' ⟨i1, i2, hsub1, hS1, hm⟩
   refine WP.sub hsub1 (WP.weaken hS1 ?_)
   rw [journal_find_loop1] at hm
   refine WP.seq (WP.seq (WP.region ?_))
   refine wq rfl rfl rfl (ov_move rfl rfl) ?_
   refine wq rfl rfl rfl (ov_move rfl rfl) ?_
   refine wq rfl rfl rfl (ov_lss rfl rfl rfl) ?_
   refine WL.nil (then_normal ?_)
   refine WP.cond rfl (fun hc2 => ?_) (fun hc2 => ?_)
   ·
    replace hm := ite_t hc2 hm
    refine WP.skip (then_normal (WP.block (WP.seq (WP.region ?_))))
    refine wq rfl rfl rfl (ov_move rfl rfl) ?_
    refine wq rfl rfl rfl (ov_move rfl rfl) ?_
    refine wq rfl rfl rfl (ov_add rfl rfl rfl) ?_
    refine wq rfl rfl rfl (ov_convert_int Tryz.underlying3 Tryz.underlying120 rfl rfl) ?_
    refine wq rfl rfl rfl (ov_shr (by decide) (by decide) rfl rfl rfl) ?_
    refine wq rfl rfl rfl (ov_convert_int Tryz.underlying120 Tryz.underlying3 rfl rfl) ?_
    refine wq rfl rfl rfl (ov_assign rfl rfl) ?_
    refine WL.nil (then_normal (WP.seq (WP.region ?_)))
    refine wq rfl rfl rfl (ov_move rfl rfl) ?_
    refine wq rfl rfl rfl (ov_move rfl rfl) ?_
    refine wq rfl rfl rfl (ov_move rfl rfl) ?_
    obtain ⟨x1, e1, hm⟩ := bind_some hm
    obtain ⟨h2, h3, h4, cs1, h5, h6⟩ := h1.get e1 (by decide)
    obtain rfl : cs1 = [(mkS x1.name), (.int .i64 x1.life), (.int .i64 x1.used), (.int .i64 x1.faults), (.bool x1.faulty), (.int .i64 x1.since), (.int .i64 x1.cycles)] := h5
    refine wq rfl rfl rfl (ov_indexAddr Tryz.underlying34 Tryz.sizeOf61 rfl rfl rfl h2 h3 h4) ?_
    refine wq rfl rfl rfl (ov_load_elems (vs := [(mkS x1.name), (.int .i64 x1.life), (.int .i64 x1.used), (.int .i64 x1.faults), (.bool x1.faulty), (.int .i64 x1.since), (.int .i64 x1.cycles)]) Tryz.isAgg61 Tryz.sizeOf61 rfl rfl rfl h6 h4) ?_
    refine wq rfl rfl rfl (ov_move rfl rfl) ?_
    refine WL.step (Runs.free rfl) rfl rfl (os_inline (cap := []) (vs := [(.agg #[(mkS x1.name), (.int .i64 x1.life), (.int .i64 x1.used), (.int .i64 x1.faults), (.bool x1.faulty), (.int .i64 x1.since), (.int .i64 x1.cycles)]), (mkS p_name)]) Tryz.call46 rfl rfl rfl Tryz.func46 rfl 9 Tryz.ntmps46 rfl (fun w' s => ?_))
    refine WP.seq (WP.region ?_)
    refine WL.step (Runs.free rfl) rfl rfl (os_box (cs := [(mkS x1.name), (.int .i64 x1.life), (.int .i64 x1.used), (.int .i64 x1.faults), (.bool x1.faulty), (.int .i64 x1.since), (.int .i64 x1.cycles)]) rfl rfl rfl (fun b2 => ?_))
    refine wq rfl rfl rfl (ov_assign rfl rfl) ?_
    refine WL.nil (then_normal (WP.seq (WP.region ?_)))
    refine wq rfl rfl rfl (ov_fieldAddr Tryz.underlying61 rfl rfl rfl Tryz.sizeOf9 rfl rfl) ?_
    refine wq rfl rfl rfl (ov_load_box (i := 0) Tryz.isAgg9 rfl rfl rfl rfl) ?_
    refine wq rfl rfl rfl (ov_move rfl rfl) ?_
    obtain ⟨r1, e2, hm⟩ := bind_some hm
    refine WL.quiet (Runs.free rfl) rfl rfl (oq_con (r := (.int .i64 r1)) Tryz.call47 rfl rfl (fun w' s => ⟨_, (cmpS_con x1.name p_name  w' H s.hold hG r1 e2)⟩)) ?_
    refine wq rfl rfl rfl (ov_assign rfl rfl) ?_
    refine WL.nil (then_normal (WP.ret ?_))
    refine retQ_ret (v := (.int .i64 r1)) Tryz.results46 (Res.tmp rfl Res.nil) rfl (fun w' s => ⟨_, ?_, s⟩)
    refine wq rfl rfl rfl (ov_lss rfl rfl rfl) ?_
    refine WL.nil (then_normal ?_)
    refine WP.cond rfl (fun hc3 => ?_) (fun hc3 => ?_)
    ·
     replace hm := ite_t hc3 hm
     refine WP.region ?_
     refine wq rfl rfl rfl (ov_move rfl rfl) ?_
     refine wq rfl rfl rfl (ov_add rfl rfl rfl) ?_
     refine wq rfl rfl rfl (ov_assign rfl rfl) ?_
     refine WL.nil (block_normal (then_normal ?_))
     exact ⟨(IntKind.wrap .i64 ((IntKind.wrap .i64 ((IntKind.wrap .u64 (IntKind.wrap .i64 (i1 + i2))) / 2 ^ 1)) + 1)), i2, (Sub.cons rfl (Sub.cons rfl (Sub.cons rfl (Sub.cons rfl (Sub.cons rfl (Sub.cons rfl (Sub.cons rfl (Sub.nil _)))))))), fun w' s => (s.select [1] (by decide) rfl), hm⟩
    ·
     replace hm := ite_f hc3 hm
     refine WP.region ?_
     refine wq rfl rfl rfl (ov_move rfl rfl) ?_
     refine wq rfl rfl rfl (ov_assign rfl rfl) ?_
     refine WL.nil (block_normal (then_normal ?_))
     exact ⟨i1, (IntKind.wrap .i64 ((IntKind.wrap .u64 (IntKind.wrap .i64 (i1 + i2))) / 2 ^ 1)), (Sub.cons rfl (Sub.cons rfl (Sub.cons rfl (Sub.cons rfl (Sub.cons rfl (Sub.cons rfl (Sub.cons rfl (Sub.nil _)))))))), fun w' s => (s.select [1] (by decide) rfl), hm⟩
   ·
    replace hm := ite_f hc2 hm
    refine WP.exit (then_exit (then_exit (block_here (then_normal ?_))))
    exact ⟨i1, (Sub.cons rfl (Sub.cons rfl (Sub.cons rfl (Sub.cons rfl (Sub.cons rfl (Sub.cons rfl (Sub.nil _))))))), fun w' s => s, hm⟩
 ·
  rintro g' S' ⟨i3, hsub2, hS2, hm⟩
  refine WP.sub hsub2 (WP.weaken hS2 ?_)
  replace hm := (congrFun hk1 i3).symm.trans hm
  refine WP.seq (WP.region ?_)
  refine wq rfl rfl rfl (ov_move rfl rfl) ?_
  refine wq rfl rfl rfl (ov_move rfl rfl) ?_
  refine wq rfl rfl rfl (ov_move rfl rfl) ?_
  refine wq rfl rfl rfl (ov_lss rfl rfl rfl) ?_
  refine wq rfl rfl rfl (ov_move rfl rfl) ?_
  obtain ⟨c1, e3, hm⟩ := bind_some hm
  refine WL.cut_bool 9 48 (x := c1) ?_ ?_
  ·
   rcases Bool.eq_false_or_eq_true (decide (i3 < (p_m.items.length : Int))) with hc4 | hc4
   ·
    skip
    replace hm := ite_t hc4 e3
    refine WL.quiet (Runs.yes rfl rfl rfl hc4) rfl rfl (OV.quiet (ov_move rfl rfl)) ?_
    refine WL.quiet (Runs.yes rfl rfl rfl hc4) rfl rfl (OV.quiet (ov_move rfl rfl)) ?_
    refine WL.quiet (Runs.yes rfl rfl rfl hc4) rfl rfl (OV.quiet (ov_move rfl rfl)) ?_
    obtain ⟨x2, e4, hm⟩ := bind_some hm
    obtain ⟨h7, h8, h9, cs2, h10, h11⟩ := h1.get e4 (by decide)
    obtain rfl : cs2 = [(mkS x2.name), (.int .i64 x2.life), (.int .i64 x2.used), (.int .i64 x2.faults), (.bool x2.faulty), (.int .i64 x2.since), (.int .i64 x2.cycles)] := h10
    refine WL.quiet (Runs.yes rfl rfl rfl hc4) rfl rfl (OV.quiet (ov_indexAddr Tryz.underlying34 Tryz.sizeOf61 rfl rfl rfl h7 h8 h9)) ?_
    refine WL.quiet (Runs.yes rfl rfl rfl hc4) rfl rfl (OV.quiet (ov_load_elems (vs := [(mkS x2.name), (.int .i64 x2.life), (.int .i64 x2.used), (.int .i64 x2.faults), (.bool x2.faulty), (.int .i64 x2.since), (.int .i64 x2.cycles)]) Tryz.isAgg61 Tryz.sizeOf61 rfl rfl rfl h11 h9)) ?_
    refine WL.quiet (Runs.yes rfl rfl rfl hc4) rfl rfl (OV.quiet (ov_move rfl rfl)) ?_
    refine WL.step (Runs.yes rfl rfl rfl hc4) rfl rfl (os_inline (cap := []) (vs := [(.agg #[(mkS x2.name), (.int .i64 x2.life), (.int .i64 x2.used), (.int .i64 x2.faults), (.bool x2.faulty), (.int .i64 x2.since), (.int .i64 x2.cycles)]), (mkS p_name)]) Tryz.call46 rfl rfl rfl Tryz.func46 rfl 9 Tryz.ntmps46 rfl (fun w' s => ?_))
    refine WP.seq (WP.region ?_)
    refine WL.step (Runs.free rfl) rfl rfl (os_box (cs := [(mkS x2.name), (.int .i64 x2.life), (.int .i64 x2.used), (.int .i64 x2.faults), (.bool x2.faulty), (.int .i64 x2.since), (.int .i64 x2.cycles)]) rfl rfl rfl (fun b3 => ?_))
    refine wq rfl rfl rfl (ov_assign rfl rfl) ?_
    refine WL.nil (then_normal (WP.seq (WP.region ?_)))
    refine wq rfl rfl rfl (ov_fieldAddr Tryz.underlying61 rfl rfl rfl Tryz.sizeOf9 rfl rfl) ?_
    refine wq rfl rfl rfl (ov_load_box (i := 0) Tryz.isAgg9 rfl rfl rfl rfl) ?_
    refine wq rfl rfl rfl (ov_move rfl rfl) ?_
    obtain ⟨r2, e5, hm⟩ := bind_some hm
    refine WL.quiet (Runs.free rfl) rfl rfl (oq_con (r := (.int .i64 r2)) Tryz.call47 rfl rfl (fun w' s => ⟨_, (cmpS_con x2.name p_name  w' H s.hold hG r2 e5)⟩)) ?_
    refine wq rfl rfl rfl (ov_assign rfl rfl) ?_
    refine WL.nil (then_normal (WP.ret ?_))
    refine retQ_ret (v := (.int .i64 r2)) Tryz.results46 (Res.tmp rfl Res.nil) rfl (fun w' s => ⟨_, ?_, s⟩)
    refine WL.quiet (Runs.yes rfl rfl rfl hc4) rfl rfl (OV.quiet (ov_eql rfl rfl rfl)) ?_
    refine wq rfl rfl rfl (ov_pick_true rfl (guard_eq rfl hc4) rfl) ?_
    exact WL.nil ⟨Sub.cons' rfl (congrArg Value.bool (Option.some.inj hm)) (Sub.skip rfl (Sub.skip rfl (Sub.skip rfl (Sub.skip rfl (Sub.skip rfl (Sub.skip rfl (Sub.skip rfl (Sub.skip rfl (Sub.skip rfl (Sub.refl _)))))))))), fun _ s => (s.select [1] (by decide) rfl)⟩
   ·
    skip
    replace hm := ite_f hc4 e3
    refine WL.idle (Idle.no rfl rfl rfl hc4) rfl rfl ?_
    refine WL.idle (Idle.no rfl rfl rfl hc4) rfl rfl ?_
    refine WL.idle (Idle.no rfl rfl rfl hc4) rfl rfl ?_
    refine WL.idle (Idle.no rfl rfl rfl hc4) rfl rfl ?_
    refine WL.idle (Idle.no rfl rfl rfl hc4) rfl rfl ?_
    refine WL.idle (Idle.no rfl rfl rfl hc4) rfl rfl ?_
    refine WL.idle (Idle.no rfl rfl rfl hc4) rfl rfl ?_
    refine WL.idle (Idle.no rfl rfl rfl hc4) rfl rfl ?_
    refine wq rfl rfl rfl (ov_pick_false rfl (guard_eq rfl hc4) rfl) ?_
    exact WL.nil ⟨Sub.cons' rfl (congrArg Value.bool (Option.some.inj hm)) (Sub.skip rfl (Sub.skip rfl (Sub.skip rfl (Sub.skip rfl (Sub.skip rfl (Sub.skip rfl (Sub.skip rfl (Sub.skip rfl (Sub.skip rfl (Sub.refl _)))))))))), fun _ s => s⟩
  refine wq rfl rfl rfl (ov_assign rfl rfl) ?_
  refine wq rfl rfl rfl (ov_assign rfl rfl) ?_
  refine WL.nil (then_normal (WP.ret ?_))
  refine retQ_ret (v := (.tuple #[(.int .i64 i3), (.bool c1)])) Tryz.results45 (Res.tmp rfl (Res.tmp rfl Res.nil)) rfl (fun w' s => ⟨_, ?_, s⟩)
  refine wq rfl rfl rfl (ov_extract rfl rfl rfl) ?_
  refine wq rfl rfl rfl (ov_extract rfl rfl rfl) ?_
  refine wq rfl rfl rfl (ov_assign rfl rfl) ?_
  refine wq rfl rfl rfl (ov_assign rfl rfl) ?_
  refine WL.nil (then_normal (WP.ret ?_))
  obtain rfl := Option.some.inj hm
  refine retQ_ret Tryz.results33 (Res.tmp rfl (Res.tmp rfl Res.nil)) rfl (fun w' s => ⟨s.below, ?_⟩)
  exact rfl

theorem journal_done_con (p_m : Machine) (p_x : Entry) (ao1 : Option Addr) (cap1 : Nat) (w : World) (H : Heap) (hH : Le H (hp w)) (h1 : SL H encItem ao1 p_m.items) (hc1 : p_m.items.length ≤ cap1) (hG : Glob H) (r : (Machine × Int)) (hm : journal_done p_m p_x = some r) :
  Con Tryz.prog 21 [(.agg #[(.slice ao1 p_m.items.length cap1), (.int .i64 p_m.cycles)]), (.agg #[(.int .i64 p_x.kind), (mkS p_x.name), (.int .i64 p_x.count), (.int .i64 p_x.strokes)])] w H (fun v H' => ∃ (ao2 : Option Addr) (cap2 : Nat), v = (.tuple #[(.agg #[(.slice ao2 r.1.items.length cap2), (.int .i64 r.1.cycles)]), (.int .i64 r.2)]) ∧ SL H' encItem ao2 r.1.items ∧ r.1.items.length ≤ cap2) := by
 unfold journal_done at hm
 refine con_of hH Tryz.func21 rfl 53 Tryz.ntmps21 rfl ?_
 refine WP.seq (WP.region ?_)
 refine WL.step (Runs.free rfl) rfl rfl (os_box (cs := [(.slice ao1 p_m.items.length cap1), (.int .i64 p_m.cycles)]) rfl rfl rfl (fun b1 => ?_))
 refine WL.step (Runs.free rfl) rfl rfl (os_box (cs := [(.int .i64 p_x.kind), (mkS p_x.name), (.int .i64 p_x.count), (.int .i64 p_x.strokes)]) rfl rfl rfl (fun b2 => ?_))
 refine WL.step (Runs.free rfl) rfl rfl (os_alloc (cs := [(.slice none 0 0), (.int .i64 0)]) Tryz.zeroValue36 rfl rfl (fun b3 => ?_))
 refine wq rfl rfl rfl (ov_assign rfl rfl) ?_
 refine WL.nil (then_normal (WP.seq (WP.region ?_)))
 refine wq rfl rfl rfl (ov_load_whole (i := 2) Tryz.isAgg36 Tryz.sizeOf36 rfl rfl rfl rfl) ?_
 refine wq rfl rfl rfl (ov_fieldAddr Tryz.underlying24 rfl rfl rfl Tryz.sizeOf9 rfl rfl) ?_
 refine wq rfl rfl rfl (ov_load_box (i := 1) Tryz.isAgg9 rfl rfl rfl rfl) ?_
 obtain ⟨r1, e1, hm⟩ := bind_some hm
 refine WL.quiet (Runs.free rfl) rfl rfl (oq_con (r := (.tuple #[(.int .i64 r1.1), (.bool r1.2)])) Tryz.call33 rfl rfl (fun w' s => ⟨_, (journal_find_con p_m p_x.name ao1 cap1  w' H s.hold h1 hc1 hG r1 e1)⟩)) ?_
 refine wq rfl rfl rfl (ov_move rfl rfl) ?_
 refine wq rfl rfl rfl (ov_extract rfl rfl rfl) ?_
 refine wq rfl rfl rfl (ov_extract rfl rfl rfl) ?_
 refine wq rfl rfl rfl (ov_assign rfl rfl) ?_
 refine wq rfl rfl rfl (ov_assign rfl rfl) ?_
 refine WL.nil (then_normal (WP.seq (WP.block (WP.seq (WP.region ?_)))))
 refine wq rfl rfl rfl (ov_fieldAddr Tryz.underlying24 rfl rfl rfl Tryz.sizeOf3 rfl rfl) ?_
 refine wq rfl rfl rfl (ov_load_box (i := 1) Tryz.isAgg3 rfl rfl rfl rfl) ?_
 refine wq rfl rfl rfl (ov_eql rfl rfl rfl) ?_
 refine wq rfl rfl rfl (ov_move rfl rfl) ?_
 refine WL.cut_bool 2 23 (x := ((p_x.kind == 0) && r1.2)) ?_ ?_
 ·
  rcases Bool.eq_false_or_eq_true (p_x.kind == 0) with hc3 | hc3
  ·
   skip
   refine WL.quiet (Runs.yes rfl rfl rfl hc3) rfl rfl (OV.quiet (ov_move rfl rfl)) ?_
   refine wq rfl rfl rfl (ov_pick_true rfl (guard_eq rfl hc3) rfl) ?_
   exact WL.nil ⟨Sub.cons' rfl (congrArg Value.bool (andT hc3)) (Sub.skip rfl (Sub.skip rfl (Sub.refl _))), fun _ s => s⟩
  ·
   skip
   refine WL.idle (Idle.no rfl rfl rfl hc3) rfl rfl ?_
   refine wq rfl rfl rfl (ov_pick_false rfl (guard_eq rfl hc3) rfl) ?_
   exact WL.nil ⟨Sub.cons' rfl (congrArg Value.bool (andF hc3)) (Sub.skip rfl (Sub.skip rfl (Sub.refl _))), fun _ s => s⟩
 refine wq rfl rfl rfl (ov_assign rfl rfl) ?_
 refine WL.nil (then_normal ?_)
 refine WP.cond rfl (fun hc4 => ?_) (fun hc4 => ?_)
 ·
  replace hm := ite_t hc4 hm
  refine WP.seq (WP.region ?_)
  refine wq rfl rfl rfl (ov_build (r := (.agg #[(.slice none 0 0), (.int .i64 0)])) rfl rfl (fun _ => by kernel_rfl)) ?_
  refine WL.step0 (Runs.free rfl) rfl (os_store (i := 0) (vs := [(.slice none 0 0), (.int .i64 0)]) (cs' := [(.slice none 0 0), (.int .i64 0)]) Tryz.sizeOf36 rfl rfl rfl rfl rfl rfl rfl rfl rfl ?_)
  refine wq rfl rfl rfl (ov_assign rfl rfl) ?_
  refine WL.nil (then_normal (WP.ret (block_ret (then_ret ?_))))
  obtain rfl := Option.some.inj hm
  refine retQ_ret Tryz.results21 (Res.cell rfl (box_loads (i := 0) Tryz.isAgg36 Tryz.sizeOf36 rfl rfl) (Res.tmp rfl Res.nil)) rfl (fun w' s => ⟨s.below, ?_⟩)
  exact ⟨none, 0, rfl, SL.nil _ _ _, Nat.le_refl _⟩
 ·
  replace hm := ite_f hc4 hm
  refine WP.seq (WP.region ?_)
  refine wq rfl rfl rfl (ov_fieldAddr Tryz.underlying24 rfl rfl rfl Tryz.sizeOf3 rfl rfl) ?_
  refine wq rfl rfl rfl (ov_load_box (i := 1) Tryz.isAgg3 rfl rfl rfl rfl) ?_
  refine wq rfl rfl rfl (ov_neq rfl rfl rfl) ?_
  refine wq rfl rfl rfl (ov_move rfl rfl) ?_
  refine WL.cut_bool 3 32 (x := ((p_x.kind != 0) && (!r1.2))) ?_ ?_
  ·
   rcases Bool.eq_false_or_eq_true (p_x.kind != 0) with hc5 | hc5
   ·
    skip
    refine WL.quiet (Runs.yes rfl rfl rfl hc5) rfl rfl (OV.quiet (ov_move rfl rfl)) ?_
    refine WL.quiet (Runs.yes rfl rfl rfl hc5) rfl rfl (OV.quiet (ov_not rfl rfl)) ?_
    refine wq rfl rfl rfl (ov_pick_true rfl (guard_eq rfl hc5) rfl) ?_
    exact WL.nil ⟨Sub.cons' rfl (congrArg Value.bool (andT hc5)) (Sub.skip rfl (Sub.skip rfl (Sub.skip rfl (Sub.refl _)))), fun _ s => s⟩
   ·
    skip
    refine WL.idle (Idle.no rfl rfl rfl hc5) rfl rfl ?_
    refine WL.idle (Idle.no rfl rfl rfl hc5) rfl rfl ?_
    refine wq rfl rfl rfl (ov_pick_false rfl (guard_eq rfl hc5) rfl) ?_
    exact WL.nil ⟨Sub.cons' rfl (congrArg Value.bool (andF hc5)) (Sub.skip rfl (Sub.skip rfl (Sub.skip rfl (Sub.refl _)))), fun _ s => s⟩
  refine wq rfl rfl rfl (ov_assign rfl rfl) ?_
  refine WL.nil (then_normal ?_)
  refine WP.cond rfl (fun hc6 => ?_) (fun hc6 => ?_)
  ·
   replace hm := ite_t hc6 hm
   refine WP.seq (WP.region ?_)
   refine wq rfl rfl rfl (ov_build (r := (.agg #[(.slice none 0 0), (.int .i64 0)])) rfl rfl (fun _ => by kernel_rfl)) ?_
   refine WL.step0 (Runs.free rfl) rfl (os_store (i := 0) (vs := [(.slice none 0 0), (.int .i64 0)]) (cs' := [(.slice none 0 0), (.int .i64 0)]) Tryz.sizeOf36 rfl rfl rfl rfl rfl rfl rfl rfl rfl ?_)
   refine wq rfl rfl rfl (ov_assign rfl rfl) ?_
   refine WL.nil (then_normal (WP.ret (block_ret (then_ret ?_))))
   obtain rfl := Option.some.inj hm
   refine retQ_ret Tryz.results21 (Res.cell rfl (box_loads (i := 0) Tryz.isAgg36 Tryz.sizeOf36 rfl rfl) (Res.tmp rfl Res.nil)) rfl (fun w' s => ⟨s.below, ?_⟩)
   exact ⟨none, 0, rfl, SL.nil _ _ _, Nat.le_refl _⟩
  ·
   replace hm := ite_f hc6 hm
   refine WP.skip (block_normal (then_normal ?_))
   obtain ⟨k1, hk1, hm⟩ := joinK_some hm
   refine WP.seq_join (fun g' S' => ∃ (b6 : Nat) (l3 : (List Item)) (ao5 : Option Addr) (cap5 : Nat) (xs3 : List Value), RL H encItem l3 xs3 ∧ Sub [(3, (pB b2 0)), (4, (pB b3 0)), (6, (.int .i64 r1.1)), (8, (pB b6 0)), (1000000007, (.bool false))] g' ∧ (∀ w', S' w' → St w H [.blk b6 36 [(.slice ao5 l3.length cap5), (.int .i64 p_m.cycles)], .row 61 (encItem).size l3.length (.slice ao5 l3.length cap5) xs3, .blk b3 36 [(.slice none 0 0), (.int .i64 0)], .blk b2 24 [(.int .i64 p_x.kind), (mkS p_x.name), (.int .i64 p_x.count), (.int .i64 p_x.strokes)]] H w') ∧ k1 l3 = some r) ?_ ?_
   ·
    skip
    refine WP.region_any (S₀ := St w H [.blk b3 36 [(.slice none 0 0), (.int .i64 0)], .blk b2 24 [(.int .i64 p_x.kind), (mkS p_x.name), (.int .i64 p_x.count), (.int .i64 p_x.strokes)], .blk b1 36 [(.slice ao1 p_m.items.length cap1), (.int .i64 p_m.cycles)]] H) 8 rfl (by kernel_rfl) (fun w' s => s) (fun _ s => s.drew) ?_
    refine tq (i := 0) rfl (by kernel_rfl) rfl rfl rfl (ov_fieldAddr Tryz.underlying36 rfl rfl rfl Tryz.sizeOf34 rfl rfl) ?_
    refine tq (i := 1) rfl (by kernel_rfl) rfl rfl rfl (ov_load_box (i := 2) Tryz.isAgg34 rfl rfl rfl rfl) ?_
    refine tq (i := 3) rfl (by kernel_rfl) rfl rfl rfl (ov_fieldAddr Tryz.underlying36 rfl rfl rfl Tryz.sizeOf3 rfl rfl) ?_
    refine tq (i := 4) rfl (by kernel_rfl) rfl rfl rfl (ov_load_box (i := 2) Tryz.isAgg3 rfl rfl rfl rfl) ?_
    refine AL.any (rs := [2, 6]) (by kernel_rfl) (by decide) ?_
    refine ALs.cons (i := 2) rfl (Runs.free rfl) rfl rfl ?_ ?_
    ·
     skip
     obtain ⟨l1, e2, hm⟩ := bind_some hm
     refine os_clone rfl rfl h1 hc1 e2 (fun ao3 cap3 xs1 rl1 => ?_)
     refine ⟨fun w' s => (s.select [1, 2, 3] (by decide) rfl), ?_⟩
     refine tq (i := 5) rfl (by kernel_rfl) rfl rfl rfl (ov_build (r := (.agg #[(.slice ao3 p_m.items.length cap3), (.int .i64 p_m.cycles)])) rfl rfl (fun _ => by kernel_rfl)) ?_
     refine AL.any (rs := [6]) (by kernel_rfl) (by decide) ?_
     refine ALs.cons (i := 6) rfl (Runs.free rfl) rfl rfl ?_ ?_
     ·
      skip
      refine os_alloc (cs := [(.slice none 0 0), (.int .i64 0)]) Tryz.zeroValue36 rfl rfl (fun b4 => ?_)
      refine ⟨fun w' s => (s.select [2, 3, 4] (by decide) rfl), ?_⟩
      refine AL.any (rs := [7]) (by kernel_rfl) (by decide) ?_
      refine ALs.cons0 (i := 7) rfl (Runs.free rfl) rfl ?_ ?_
      ·
       skip
       refine os_store (i := 0) (vs := [(.slice ao3 p_m.items.length cap3), (.int .i64 p_m.cycles)]) (cs' := [(.slice ao3 p_m.items.length cap3), (.int .i64 p_m.cycles)]) Tryz.sizeOf36 rfl rfl rfl rfl rfl rfl rfl rfl rfl ?_
       refine ⟨fun w' s => (s.select [2, 3, 4] (by decide) rfl), ?_⟩
       refine AL.done (by kernel_rfl) ?_
       refine then_normal ?_
       exact ⟨b4, p_m.items, ao3, cap3, xs1, rl1, (Sub.cons rfl (Sub.cons rfl (Sub.cons rfl (Sub.cons rfl (Sub.cons rfl (Sub.nil _)))))), fun w' s => (s.select [0, 1, 2, 3] (by decide) rfl), hm⟩
      exact ALs.nil
     exact ALs.nil
    refine ALs.cons (i := 6) rfl (Runs.free rfl) rfl rfl ?_ ?_
    ·
     skip
     refine os_alloc (cs := [(.slice none 0 0), (.int .i64 0)]) Tryz.zeroValue36 rfl rfl (fun b5 => ?_)
     refine ⟨fun w' s => (s.select [1, 2, 3] (by decide) rfl), ?_⟩
     refine AL.any (rs := [2]) (by kernel_rfl) (by decide) ?_
     refine ALs.cons (i := 2) rfl (Runs.free rfl) rfl rfl ?_ ?_
     ·
      skip
      obtain ⟨l2, e3, hm⟩ := bind_some hm
      refine os_clone rfl rfl h1 hc1 e3 (fun ao4 cap4 xs2 rl2 => ?_)
      refine ⟨fun w' s => (s.select [2, 3, 4] (by decide) rfl), ?_⟩
      refine tq (i := 5) rfl (by kernel_rfl) rfl rfl rfl (ov_build (r := (.agg #[(.slice ao4 p_m.items.length cap4), (.int .i64 p_m.cycles)])) rfl rfl (fun _ => by kernel_rfl)) ?_
      refine AL.any (rs := [7]) (by kernel_rfl) (by decide) ?_
      refine ALs.cons0 (i := 7) rfl (Runs.free rfl) rfl ?_ ?_
      ·
       skip
       refine os_store (i := 1) (vs := [(.slice ao4 p_m.items.length cap4), (.int .i64 p_m.cycles)]) (cs' := [(.slice ao4 p_m.items.length cap4), (.int .i64 p_m.cycles)]) Tryz.sizeOf36 rfl rfl rfl rfl rfl rfl rfl rfl rfl ?_
       refine ⟨fun w' s => (s.select [2, 3, 4] (by decide) rfl), ?_⟩
       refine AL.done (by kernel_rfl) ?_
       refine then_normal ?_
       exact ⟨b5, p_m.items, ao4, cap4, xs2, rl2, (Sub.cons rfl (Sub.cons rfl (Sub.cons rfl (Sub.cons rfl (Sub.cons rfl (Sub.nil _)))))), fun w' s => (s.select [1, 0, 2, 3] (by decide) rfl), hm⟩
      exact ALs.nil
     exact ALs.nil
    exact ALs.nil
   ·
    rintro g' S' ⟨b6, l3, ao5, cap5, xs3, rl3, hsub1, hS1, hm⟩
    refine WP.sub hsub1 (WP.weaken hS1 ?_)
    replace hm := (congrFun hk1 l3).symm.trans hm
    refine WP.seq ?_
    obtain ⟨k2, hk2, hm⟩ := joinK_some hm
    refine WP.seq_join (fun g' S' => ∃ (i1 : Int) (i2 : Int) (l10 : (List Item)) (ao12 : Option Addr) (cap12 : Nat) (xs6 : List Value), RL H encItem l10 xs6 ∧ Sub [(4, (pB b3 0)), (8, (pB b6 0)), (9, (.int .i64 i1)), (1000000007, (.bool false))] g' ∧ (∀ w', S' w' → St w H [.blk b6 36 [(.slice ao12 l10.length cap12), (.int .i64 i2)], .row 61 (encItem).size l10.length (.slice ao12 l10.length cap12) xs6, .blk b3 36 [(.slice none 0 0), (.int .i64 0)]] H w') ∧ k2 i1 i2 l10 = some r) ?_ ?_
    ·
     skip
     refine WP.region_any (S₀ := St w H [.blk b3 36 [(.slice none 0 0), (.int .i64 0)], .blk b2 24 [(.int .i64 p_x.kind), (mkS p_x.name), (.int .i64 p_x.count), (.int .i64 p_x.strokes)]] H) 9 rfl (by kernel_rfl) (fun w' s => (s.select [2, 3] (by decide) rfl)) (fun _ s => s.drew) ?_
     refine tq (i := 1) rfl (by kernel_rfl) rfl rfl rfl (ov_fieldAddr Tryz.underlying24 rfl rfl rfl Tryz.sizeOf3 rfl rfl) ?_
     refine tq (i := 2) rfl (by kernel_rfl) rfl rfl rfl (ov_load_box (i := 1) Tryz.isAgg3 rfl rfl rfl rfl) ?_
     refine tq (i := 5) rfl (by kernel_rfl) rfl rfl rfl (ov_move rfl rfl) ?_
     refine tq (i := 6) rfl (by kernel_rfl) rfl rfl rfl (ov_load_whole (i := 1) Tryz.isAgg24 Tryz.sizeOf24 rfl rfl rfl rfl) ?_
     refine AL.any (rs := [0]) (by kernel_rfl) (by decide) ?_
     refine ALs.cons (i := 0) rfl (Runs.free rfl) rfl rfl ?_ ?_
     ·
      skip
      refine os_inline (cap := []) (vs := []) Tryz.call37 rfl rfl rfl Tryz.func37 rfl 8 Tryz.ntmps37 rfl (fun w' s => ?_)
      refine WP.seq (WP.region ?_)
      refine WL.step (Runs.free rfl) rfl rfl (os_alloc (cs := [(mkS []), (.bool false), (.bool false), .nilFunc, (mkS []), (.bool false), (.bool false), .nilFunc, (mkS []), (.bool false), (.bool false), .nilFunc, (mkS []), (.bool false), (.bool false), .nilFunc, (mkS []), (.bool false), (.bool false), .nilFunc, (mkS []), (.bool false), (.bool false), .nilFunc]) Tryz.zeroValue88 rfl rfl (fun b7 => ?_))
      refine WL.nil (then_normal (WP.seq (WP.region ?_)))
      refine wq rfl rfl rfl (ov_build (r := (.agg #[(mkS [112, 97, 114, 116]), (.bool true), (.bool false), (.func (.func 54) #[] #[])])) rfl rfl (fun _ => by kernel_rfl)) ?_
      refine wq rfl rfl rfl (ov_build (r := (.agg #[(mkS [99, 121, 99, 108, 101, 115]), (.bool true), (.bool true), (.func (.func 55) #[] #[])])) rfl rfl (fun _ => by kernel_rfl)) ?_
      refine wq rfl rfl rfl (ov_build (r := (.agg #[(mkS [102, 97, 117, 108, 116]), (.bool false), (.bool false), (.func (.func 56) #[] #[])])) rfl rfl (fun _ => by kernel_rfl)) ?_
      refine wq rfl rfl rfl (ov_build (r := (.agg #[(mkS [114, 101, 112, 97, 105, 114]), (.bool false), (.bool false), (.func (.func 57) #[] #[])])) rfl rfl (fun _ => by kernel_rfl)) ?_
      refine wq rfl rfl rfl (ov_build (r := (.agg #[(mkS [114, 101, 112, 108, 97, 99, 101]), (.bool true), (.bool false), (.func (.func 58) #[] #[])])) rfl rfl (fun _ => by kernel_rfl)) ?_
      refine wq rfl rfl rfl (ov_build (r := (.agg #[(mkS [114, 101, 109, 111, 118, 101]), (.bool false), (.bool false), (.func (.func 59) #[] #[])])) rfl rfl (fun _ => by kernel_rfl)) ?_
      refine wq rfl rfl rfl (ov_build (r := (.agg #[(mkS [112, 97, 114, 116]), (.bool true), (.bool false), (.func (.func 54) #[] #[]), (mkS [99, 121, 99, 108, 101, 115]), (.bool true), (.bool true), (.func (.func 55) #[] #[]), (mkS [102, 97, 117, 108, 116]), (.bool false), (.bool false), (.func (.func 56) #[] #[]), (mkS [114, 101, 112, 97, 105, 114]), (.bool false), (.bool false), (.func (.func 57) #[] #[]), (mkS [114, 101, 112, 108, 97, 99, 101]), (.bool true), (.bool false), (.func (.func 58) #[] #[]), (mkS [114, 101, 109, 111, 118, 101]), (.bool false), (.bool false), (.func (.func 59) #[] #[])])) rfl rfl (fun _ => by kernel_rfl)) ?_
      refine WL.step0 (Runs.free rfl) rfl (os_store (i := 0) (vs := [(mkS [112, 97, 114, 116]), (.bool true), (.bool false), (.func (.func 54) #[] #[]), (mkS [99, 121, 99, 108, 101, 115]), (.bool true), (.bool true), (.func (.func 55) #[] #[]), (mkS [102, 97, 117, 108, 116]), (.bool false), (.bool false), (.func (.func 56) #[] #[]), (mkS [114, 101, 112, 97, 105, 114]), (.bool false), (.bool false), (.func (.func 57) #[] #[]), (mkS [114, 101, 112, 108, 97, 99, 101]), (.bool true), (.bool false), (.func (.func 58) #[] #[]), (mkS [114, 101, 109, 111, 118, 101]), (.bool false), (.bool false), (.func (.func 59) #[] #[])]) (cs' := [(mkS [112, 97, 114, 116]), (.bool true), (.bool false), (.func (.func 54) #[] #[]), (mkS [99, 121, 99, 108, 101, 115]), (.bool true), (.bool true), (.func (.func 55) #[] #[]), (mkS [102, 97, 117, 108, 116]), (.bool false), (.bool false), (.func (.func 56) #[] #[]), (mkS [114, 101, 112, 97, 105, 114]), (.bool false), (.bool false), (.func (.func 57) #[] #[]), (mkS [114, 101, 112, 108, 97, 99, 101]), (.bool true), (.bool false), (.func (.func 58) #[] #[]), (mkS [114, 101, 109, 111, 118, 101]), (.bool false), (.bool false), (.func (.func 59) #[] #[])]) Tryz.sizeOf88 rfl rfl rfl rfl rfl rfl rfl rfl rfl ?_)
      refine WL.nil (then_normal (WP.ret ?_))
      refine retQ_ret (v := (.agg #[(mkS [112, 97, 114, 116]), (.bool true), (.bool false), (.func (.func 54) #[] #[]), (mkS [99, 121, 99, 108, 101, 115]), (.bool true), (.bool true), (.func (.func 55) #[] #[]), (mkS [102, 97, 117, 108, 116]), (.bool false), (.bool false), (.func (.func 56) #[] #[]), (mkS [114, 101, 112, 97, 105, 114]), (.bool false), (.bool false), (.func (.func 57) #[] #[]), (mkS [114, 101, 112, 108, 97, 99, 101]), (.bool true), (.bool false), (.func (.func 58) #[] #[]), (mkS [114, 101, 109, 111, 118, 101]), (.bool false), (.bool false), (.func (.func 59) #[] #[])])) Tryz.results37 (Res.cell rfl (box_loads (i := 0) Tryz.isAgg88 Tryz.sizeOf88 rfl rfl) Res.nil) rfl (fun w' s => ⟨_, ?_, s⟩)
      refine ⟨fun w' s => (s.select [3, 4] (by decide) rfl), ?_⟩
      rcases Bool.eq_false_or_eq_true (p_x.kind == 0) with hc7 | hc7
      ·
       replace hm := ite_t hc7 hm
       refine tq (i := 3) rfl (by kernel_rfl) rfl rfl rfl (ov_index_at (j := 0) (cs := [(mkS [112, 97, 114, 116]), (.bool true), (.bool false), (.func (.func 54) #[] #[]), (mkS [99, 121, 99, 108, 101, 115]), (.bool true), (.bool true), (.func (.func 55) #[] #[]), (mkS [102, 97, 117, 108, 116]), (.bool false), (.bool false), (.func (.func 56) #[] #[]), (mkS [114, 101, 112, 97, 105, 114]), (.bool false), (.bool false), (.func (.func 57) #[] #[]), (mkS [114, 101, 112, 108, 97, 99, 101]), (.bool true), (.bool false), (.func (.func 58) #[] #[]), (mkS [114, 101, 109, 111, 118, 101]), (.bool false), (.bool false), (.func (.func 59) #[] #[])]) (r := (.agg #[(mkS [112, 97, 114, 116]), (.bool true), (.bool false), (.func (.func 54) #[] #[])])) (eq_of_beq hc7) rfl rfl rfl (fun _ => by kernel_rfl)) ?_
       refine tq (i := 4) rfl (by kernel_rfl) rfl rfl rfl (ov_field (cs := [(mkS [112, 97, 114, 116]), (.bool true), (.bool false), (.func (.func 54) #[] #[])]) (r := (.func (.func 54) #[] #[])) rfl rfl (fun _ => by kernel_rfl)) ?_
       refine AL.any (rs := [7]) (by kernel_rfl) (by decide) ?_
       refine ALs.cons (i := 7) rfl (Runs.free rfl) rfl rfl ?_ ?_
       ·
        skip
        refine os_inline (cap := []) (vs := [(pB b6 0), (.int .i64 r1.1), (.agg #[(.int .i64 p_x.kind), (mkS p_x.name), (.int .i64 p_x.count), (.int .i64 p_x.strokes)])]) Tryz.call54 rfl rfl rfl Tryz.func54 rfl 26 Tryz.ntmps54 rfl (fun w' s => ?_)
        refine WP.seq (WP.region ?_)
        refine WL.step (Runs.free rfl) rfl rfl (os_box (cs := [(.int .i64 p_x.kind), (mkS p_x.name), (.int .i64 p_x.count), (.int .i64 p_x.strokes)]) rfl rfl rfl (fun b8 => ?_))
        refine wq rfl rfl rfl (ov_assign rfl rfl) ?_
        refine WL.nil (then_normal (WP.seq (WP.seq (WP.region ?_))))
        refine wq rfl rfl rfl (ov_move rfl rfl) ?_
        refine wq rfl rfl rfl (ov_nilCheckB rfl rfl) ?_
        refine wq rfl rfl rfl (ov_fieldAddr Tryz.underlying36 rfl rfl rfl Tryz.sizeOf34 rfl rfl) ?_
        refine wq rfl rfl rfl (ov_load_box (i := 2) Tryz.isAgg34 rfl rfl rfl rfl) ?_
        refine wq rfl rfl rfl (ov_len_slice Tryz.underlying34 rfl rfl) ?_
        refine wq rfl rfl rfl (ov_eql rfl rfl rfl) ?_
        refine WL.nil (then_normal ?_)
        refine WP.cond rfl (fun hc8 => ?_) (fun hc8 => ?_)
        ·
         replace hm := ite_t hc8 hm
         refine WP.seq (WP.region ?_)
         refine wq rfl rfl rfl (ov_assign rfl rfl) ?_
         refine WL.nil (then_normal (WP.ret (then_ret ?_)))
         refine retQ_ret (v := (.int .i64 5)) Tryz.results54 (Res.tmp rfl Res.nil) rfl (fun w' s => ⟨_, ?_, s⟩)
         refine ⟨fun w' s => (s.select [4, 5] (by decide) rfl), ?_⟩
         refine tq (i := 8) rfl (by kernel_rfl) rfl rfl rfl (ov_assign rfl rfl) ?_
         refine AL.done (by kernel_rfl) ?_
         refine then_normal ?_
         exact ⟨5, p_m.cycles, l3, ao5, cap5, xs3, rl3, (Sub.cons rfl (Sub.cons rfl (Sub.cons rfl (Sub.cons rfl (Sub.nil _))))), fun w' s => (s.select [2, 3, 4] (by decide) rfl), hm⟩
        ·
         replace hm := ite_f hc8 hm
         refine WP.skip (then_normal ?_)
         obtain ⟨k3, hk3, hm⟩ := joinK_some hm
         refine WP.seq_join (fun g' S' => ∃ (l7 : (List Item)) (ao9 : Option Addr) (cap9 : Nat) (xs4 : List Value), RL H encItem l7 xs4 ∧ Sub [(1000000007, (.bool false))] g' ∧ (∀ w', S' w' → St w H [.blk b6 36 [(.slice ao9 l7.length cap9), (.int .i64 p_m.cycles)], .row 61 (encItem).size l7.length (.slice ao9 l7.length cap9) xs4, .blk b3 36 [(.slice none 0 0), (.int .i64 0)], .blk b2 24 [(.int .i64 p_x.kind), (mkS p_x.name), (.int .i64 p_x.count), (.int .i64 p_x.strokes)]] H w') ∧ k3 l7 = some r) ?_ ?_
         ·
          skip
          refine WP.region_any (S₀ := St w H [.blk b8 24 [(.int .i64 p_x.kind), (mkS p_x.name), (.int .i64 p_x.count), (.int .i64 p_x.strokes)], .blk b7 88 [(mkS [112, 97, 114, 116]), (.bool true), (.bool false), (.func (.func 54) #[] #[]), (mkS [99, 121, 99, 108, 101, 115]), (.bool true), (.bool true), (.func (.func 55) #[] #[]), (mkS [102, 97, 117, 108, 116]), (.bool false), (.bool false), (.func (.func 56) #[] #[]), (mkS [114, 101, 112, 97, 105, 114]), (.bool false), (.bool false), (.func (.func 57) #[] #[]), (mkS [114, 101, 112, 108, 97, 99, 101]), (.bool true), (.bool false), (.func (.func 58) #[] #[]), (mkS [114, 101, 109, 111, 118, 101]), (.bool false), (.bool false), (.func (.func 59) #[] #[])], .blk b3 36 [(.slice none 0 0), (.int .i64 0)], .blk b2 24 [(.int .i64 p_x.kind), (mkS p_x.name), (.int .i64 p_x.count), (.int .i64 p_x.strokes)]] H) 14 rfl (by kernel_rfl) (fun w' s => (s.select [0, 1, 4, 5] (by decide) rfl)) (fun _ s => s.drew) ?_
          refine tq (i := 0) rfl (by kernel_rfl) rfl rfl rfl (ov_move rfl rfl) ?_
          refine tq (i := 1) rfl (by kernel_rfl) rfl rfl rfl (ov_move rfl rfl) ?_
          refine tq (i := 2) rfl (by kernel_rfl) rfl rfl rfl (ov_nilCheckB rfl rfl) ?_
          refine tq (i := 3) rfl (by kernel_rfl) rfl rfl rfl (ov_fieldAddr Tryz.underlying36 rfl rfl rfl Tryz.sizeOf34 rfl rfl) ?_
          refine tq (i := 5) rfl (by kernel_rfl) rfl rfl rfl (ov_move rfl rfl) ?_
          refine tq (i := 6) rfl (by kernel_rfl) rfl rfl rfl (ov_move rfl rfl) ?_
          refine tq (i := 7) rfl (by kernel_rfl) rfl rfl rfl (ov_load_whole (i := 0) Tryz.isAgg24 Tryz.sizeOf24 rfl rfl rfl rfl) ?_
          refine AL.any (rs := [4, 8]) (by kernel_rfl) (by decide) ?_
          refine ALs.cons (i := 4) rfl (Runs.free rfl) rfl rfl ?_ ?_
          ·
           skip
           refine OQ.step (OV.quiet (ov_load_box (i := 2) Tryz.isAgg34 rfl rfl rfl rfl)) ?_
           refine ⟨fun w' s => (s.select [0, 1, 4, 5] (by decide) rfl), ?_⟩
           refine AL.any (rs := [8]) (by kernel_rfl) (by decide) ?_
           refine ALs.cons (i := 8) rfl (Runs.free rfl) rfl rfl ?_ ?_
           ·
            skip
            refine os_inline (cap := []) (vs := [(pB b6 0), (.agg #[(.int .i64 p_x.kind), (mkS p_x.name), (.int .i64 p_x.count), (.int .i64 p_x.strokes)])]) Tryz.call71 rfl rfl rfl Tryz.func71 rfl 14 Tryz.ntmps71 rfl (fun w' s => ?_)
            refine WP.seq (WP.region ?_)
            refine WL.step (Runs.free rfl) rfl rfl (os_box (cs := [(.int .i64 p_x.kind), (mkS p_x.name), (.int .i64 p_x.count), (.int .i64 p_x.strokes)]) rfl rfl rfl (fun b9 => ?_))
            refine WL.step (Runs.free rfl) rfl rfl (os_alloc (cs := [(mkS []), (.int .i64 0), (.int .i64 0), (.int .i64 0), (.bool false), (.int .i64 0), (.int .i64 0)]) Tryz.zeroValue61 rfl rfl (fun b10 => ?_))
            refine WL.nil (then_normal (WP.seq ?_))
            refine WP.region_any (S₀ := St w H [.blk b9 24 [(.int .i64 p_x.kind), (mkS p_x.name), (.int .i64 p_x.count), (.int .i64 p_x.strokes)], .blk b8 24 [(.int .i64 p_x.kind), (mkS p_x.name), (.int .i64 p_x.count), (.int .i64 p_x.strokes)], .blk b7 88 [(mkS [112, 97, 114, 116]), (.bool true), (.bool false), (.func (.func 54) #[] #[]), (mkS [99, 121, 99, 108, 101, 115]), (.bool true), (.bool true), (.func (.func 55) #[] #[]), (mkS [102, 97, 117, 108, 116]), (.bool false), (.bool false), (.func (.func 56) #[] #[]), (mkS [114, 101, 112, 97, 105, 114]), (.bool false), (.bool false), (.func (.func 57) #[] #[]), (mkS [114, 101, 112, 108, 97, 99, 101]), (.bool true), (.bool false), (.func (.func 58) #[] #[]), (mkS [114, 101, 109, 111, 118, 101]), (.bool false), (.bool false), (.func (.func 59) #[] #[])], .blk b6 36 [(.slice ao5 l3.length cap5), (.int .i64 p_m.cycles)], .row 61 (encItem).size l3.length (.slice ao5 l3.length cap5) xs3, .blk b3 36 [(.slice none 0 0), (.int .i64 0)], .blk b2 24 [(.int .i64 p_x.kind), (mkS p_x.name), (.int .i64 p_x.count), (.int .i64 p_x.strokes)]] H) 10 rfl (by kernel_rfl) (fun w' s => (s.select [1, 2, 3, 4, 5, 6, 7] (by decide) rfl)) (fun _ s => s.drew) ?_
            refine tq (i := 0) rfl (by kernel_rfl) rfl rfl rfl (ov_fieldAddr Tryz.underlying24 rfl rfl rfl Tryz.sizeOf9 rfl rfl) ?_
            refine tq (i := 1) rfl (by kernel_rfl) rfl rfl rfl (ov_load_box (i := 0) Tryz.isAgg9 rfl rfl rfl rfl) ?_
            refine tq (i := 2) rfl (by kernel_rfl) rfl rfl rfl (ov_fieldAddr Tryz.underlying24 rfl rfl rfl Tryz.sizeOf3 rfl rfl) ?_
            refine tq (i := 3) rfl (by kernel_rfl) rfl rfl rfl (ov_load_box (i := 0) Tryz.isAgg3 rfl rfl rfl rfl) ?_
            refine tq (i := 4) rfl (by kernel_rfl) rfl rfl rfl (ov_move rfl rfl) ?_
            refine tq (i := 5) rfl (by kernel_rfl) rfl rfl rfl (ov_nilCheckB rfl rfl) ?_
            refine tq (i := 6) rfl (by kernel_rfl) rfl rfl rfl (ov_fieldAddr Tryz.underlying36 rfl rfl rfl Tryz.sizeOf3 rfl rfl) ?_
            refine tq (i := 7) rfl (by kernel_rfl) rfl rfl rfl (ov_load_box (i := 3) Tryz.isAgg3 rfl rfl rfl rfl) ?_
            refine tq (i := 8) rfl (by kernel_rfl) rfl rfl rfl (ov_build (r := (.agg #[(mkS p_x.name), (.int .i64 p_x.count), (.int .i64 0), (.int .i64 0), (.bool false), (.int .i64 p_m.cycles), (.int .i64 0)])) rfl rfl (fun _ => by kernel_rfl)) ?_
            refine AL.any (rs := [9]) (by kernel_rfl) (by decide) ?_
            refine ALs.cons0 (i := 9) rfl (Runs.free rfl) rfl ?_ ?_
            ·
             skip
             refine os_store (i := 0) (vs := [(mkS p_x.name), (.int .i64 p_x.count), (.int .i64 0), (.int .i64 0), (.bool false), (.int .i64 p_m.cycles), (.int .i64 0)]) (cs' := [(mkS p_x.name), (.int .i64 p_x.count), (.int .i64 0), (.int .i64 0), (.bool false), (.int .i64 p_m.cycles), (.int .i64 0)]) Tryz.sizeOf61 rfl rfl rfl rfl rfl rfl rfl rfl rfl ?_
             refine ⟨fun w' s => (s.select [1, 2, 3, 4, 5, 6, 7] (by decide) rfl), ?_⟩
             refine AL.done (by kernel_rfl) ?_
             refine then_normal (WP.ret ?_)
             refine retQ_ret (v := (.agg #[(mkS p_x.name), (.int .i64 p_x.count), (.int .i64 0), (.int .i64 0), (.bool false), (.int .i64 p_m.cycles), (.int .i64 0)])) Tryz.results71 (Res.cell rfl (box_loads (i := 0) Tryz.isAgg61 Tryz.sizeOf61 rfl rfl) Res.nil) rfl (fun w' s => ⟨_, ?_, s⟩)
             refine ⟨fun w' s => (s.select [2, 3, 6, 7] (by decide) rfl), ?_⟩
             refine AL.any (rs := [9]) (by kernel_rfl) (by decide) ?_
             refine ALs.cons (i := 9) rfl (Runs.free rfl) rfl rfl ?_ ?_
             ·
              skip
              have rl4 : RL H encItem ([(Item.mk p_x.name p_x.count 0 0 false p_m.cycles 0)] : List Item) [(mkS p_x.name), (.int .i64 p_x.count), (.int .i64 0), (.int .i64 0), (.bool false), (.int .i64 p_m.cycles), (.int .i64 0)] := RL.cons (cs := [(mkS p_x.name), (.int .i64 p_x.count), (.int .i64 0), (.int .i64 0), (.bool false), (.int .i64 p_m.cycles), (.int .i64 0)]) (xs := []) rfl (RL.nil _ _)
              refine os_buildSlice (cs := [(mkS p_x.name), (.int .i64 p_x.count), (.int .i64 0), (.int .i64 0), (.bool false), (.int .i64 p_m.cycles), (.int .i64 0)]) (E := 61) (sz := 7) rfl rfl (fun _ => by kernel_rfl) rfl (by decide) (fun b11 => ?_)
              refine ⟨fun w' s => (s.select [3, 4, 7, 8] (by decide) rfl), ?_⟩
              refine AL.any (rs := [10]) (by kernel_rfl) (by decide) ?_
              refine ALs.cons (i := 10) rfl (Runs.free rfl) rfl rfl ?_ ?_
              ·
               skip
               obtain ⟨l4, e4, hm⟩ := bind_some hm
               refine os_insert (i := 6) (k := 0) (by decide) rfl rfl rfl rfl rfl rfl rl3 rl4 (Nat.zero_lt_succ _) e4 (fun ao6 cap6 ys1 rl5 => ?_)
               refine ⟨fun w' s => (s.select [3, 4, 7, 8] (by decide) rfl), ?_⟩
               refine tq (i := 11) rfl (by kernel_rfl) rfl rfl rfl (ov_nilCheckB rfl rfl) ?_
               refine tq (i := 12) rfl (by kernel_rfl) rfl rfl rfl (ov_fieldAddr Tryz.underlying36 rfl rfl rfl Tryz.sizeOf34 rfl rfl) ?_
               refine AL.any (rs := [13]) (by kernel_rfl) (by decide) ?_
               refine ALs.cons0 (i := 13) rfl (Runs.free rfl) rfl ?_ ?_
               ·
                skip
                refine os_store (i := 5) (vs := [(.slice ao6 l4.length cap6)]) (cs' := [(.slice ao6 l4.length cap6), (.int .i64 p_m.cycles)]) Tryz.sizeOf34 rfl rfl rfl rfl rfl rfl rfl rfl rfl ?_
                refine ⟨fun w' s => (s.select [3, 4, 7, 8] (by decide) rfl), ?_⟩
                refine AL.done (by kernel_rfl) ?_
                refine then_normal ?_
                exact ⟨l4, ao6, cap6, ys1, rl5, (Sub.cons rfl (Sub.nil _)), fun w' s => (s.select [5, 6, 7, 8] (by decide) rfl), hm⟩
               exact ALs.nil
              exact ALs.nil
             exact ALs.nil
            exact ALs.nil
           exact ALs.nil
          refine ALs.cons (i := 8) rfl (Runs.free rfl) rfl rfl ?_ ?_
          ·
           skip
           refine os_inline (cap := []) (vs := [(pB b6 0), (.agg #[(.int .i64 p_x.kind), (mkS p_x.name), (.int .i64 p_x.count), (.int .i64 p_x.strokes)])]) Tryz.call71 rfl rfl rfl Tryz.func71 rfl 14 Tryz.ntmps71 rfl (fun w' s => ?_)
           refine WP.seq (WP.region ?_)
           refine WL.step (Runs.free rfl) rfl rfl (os_box (cs := [(.int .i64 p_x.kind), (mkS p_x.name), (.int .i64 p_x.count), (.int .i64 p_x.strokes)]) rfl rfl rfl (fun b12 => ?_))
           refine WL.step (Runs.free rfl) rfl rfl (os_alloc (cs := [(mkS []), (.int .i64 0), (.int .i64 0), (.int .i64 0), (.bool false), (.int .i64 0), (.int .i64 0)]) Tryz.zeroValue61 rfl rfl (fun b13 => ?_))
           refine WL.nil (then_normal (WP.seq ?_))
           refine WP.region_any (S₀ := St w H [.blk b12 24 [(.int .i64 p_x.kind), (mkS p_x.name), (.int .i64 p_x.count), (.int .i64 p_x.strokes)], .blk b8 24 [(.int .i64 p_x.kind), (mkS p_x.name), (.int .i64 p_x.count), (.int .i64 p_x.strokes)], .blk b7 88 [(mkS [112, 97, 114, 116]), (.bool true), (.bool false), (.func (.func 54) #[] #[]), (mkS [99, 121, 99, 108, 101, 115]), (.bool true), (.bool true), (.func (.func 55) #[] #[]), (mkS [102, 97, 117, 108, 116]), (.bool false), (.bool false), (.func (.func 56) #[] #[]), (mkS [114, 101, 112, 97, 105, 114]), (.bool false), (.bool false), (.func (.func 57) #[] #[]), (mkS [114, 101, 112, 108, 97, 99, 101]), (.bool true), (.bool false), (.func (.func 58) #[] #[]), (mkS [114, 101, 109, 111, 118, 101]), (.bool false), (.bool false), (.func (.func 59) #[] #[])], .blk b6 36 [(.slice ao5 l3.length cap5), (.int .i64 p_m.cycles)], .row 61 (encItem).size l3.length (.slice ao5 l3.length cap5) xs3, .blk b3 36 [(.slice none 0 0), (.int .i64 0)], .blk b2 24 [(.int .i64 p_x.kind), (mkS p_x.name), (.int .i64 p_x.count), (.int .i64 p_x.strokes)]] H) 10 rfl (by kernel_rfl) (fun w' s => (s.select [1, 2, 3, 4, 5, 6, 7] (by decide) rfl)) (fun _ s => s.drew) ?_
           refine tq (i := 0) rfl (by kernel_rfl) rfl rfl rfl (ov_fieldAddr Tryz.underlying24 rfl rfl rfl Tryz.sizeOf9 rfl rfl) ?_
           refine tq (i := 1) rfl (by kernel_rfl) rfl rfl rfl (ov_load_box (i := 0) Tryz.isAgg9 rfl rfl rfl rfl) ?_
           refine tq (i := 2) rfl (by kernel_rfl) rfl rfl rfl (ov_fieldAddr Tryz.underlying24 rfl rfl rfl Tryz.sizeOf3 rfl rfl) ?_
           refine tq (i := 3) rfl (by kernel_rfl) rfl rfl rfl (ov_load_box (i := 0) Tryz.isAgg3 rfl rfl rfl rfl) ?_
           refine tq (i := 4) rfl (by kernel_rfl) rfl rfl rfl (ov_move rfl rfl) ?_
           refine tq (i := 5) rfl (by kernel_rfl) rfl rfl rfl (ov_nilCheckB rfl rfl) ?_
           refine tq (i := 6) rfl (by kernel_rfl) rfl rfl rfl (ov_fieldAddr Tryz.underlying36 rfl rfl rfl Tryz.sizeOf3 rfl rfl) ?_
           refine tq (i := 7) rfl (by kernel_rfl) rfl rfl rfl (ov_load_box (i := 3) Tryz.isAgg3 rfl rfl rfl rfl) ?_
           refine tq (i := 8) rfl (by kernel_rfl) rfl rfl rfl (ov_build (r := (.agg #[(mkS p_x.name), (.int .i64 p_x.count), (.int .i64 0), (.int .i64 0), (.bool false), (.int .i64 p_m.cycles), (.int .i64 0)])) rfl rfl (fun _ => by kernel_rfl)) ?_
           refine AL.any (rs := [9]) (by kernel_rfl) (by decide) ?_
           refine ALs.cons0 (i := 9) rfl (Runs.free rfl) rfl ?_ ?_
           ·
            skip
            refine os_store (i := 0) (vs := [(mkS p_x.name), (.int .i64 p_x.count), (.int .i64 0), (.int .i64 0), (.bool false), (.int .i64 p_m.cycles), (.int .i64 0)]) (cs' := [(mkS p_x.name), (.int .i64 p_x.count), (.int .i64 0), (.int .i64 0), (.bool false), (.int .i64 p_m.cycles), (.int .i64 0)]) Tryz.sizeOf61 rfl rfl rfl rfl rfl rfl rfl rfl rfl ?_
            refine ⟨fun w' s => (s.select [1, 2, 3, 4, 5, 6, 7] (by decide) rfl), ?_⟩
            refine AL.done (by kernel_rfl) ?_
            refine then_normal (WP.ret ?_)
            refine retQ_ret (v := (.agg #[(mkS p_x.name), (.int .i64 p_x.count), (.int .i64 0), (.int .i64 0), (.bool false), (.int .i64 p_m.cycles), (.int .i64 0)])) Tryz.results71 (Res.cell rfl (box_loads (i := 0) Tryz.isAgg61 Tryz.sizeOf61 rfl rfl) Res.nil) rfl (fun w' s => ⟨_, ?_, s⟩)
            refine ⟨fun w' s => (s.select [2, 3, 6, 7] (by decide) rfl), ?_⟩
            refine AL.any (rs := [4, 9]) (by kernel_rfl) (by decide) ?_
            refine ALs.cons (i := 4) rfl (Runs.free rfl) rfl rfl ?_ ?_
            ·
             skip
             refine OQ.step (OV.quiet (ov_load_box (i := 4) Tryz.isAgg34 rfl rfl rfl rfl)) ?_
             refine ⟨fun w' s => (s.select [2, 3, 6, 7] (by decide) rfl), ?_⟩
             refine AL.any (rs := [9]) (by kernel_rfl) (by decide) ?_
             refine ALs.cons (i := 9) rfl (Runs.free rfl) rfl rfl ?_ ?_
             ·
              skip
              have rl6 : RL H encItem ([(Item.mk p_x.name p_x.count 0 0 false p_m.cycles 0)] : List Item) [(mkS p_x.name), (.int .i64 p_x.count), (.int .i64 0), (.int .i64 0), (.bool false), (.int .i64 p_m.cycles), (.int .i64 0)] := RL.cons (cs := [(mkS p_x.name), (.int .i64 p_x.count), (.int .i64 0), (.int .i64 0), (.bool false), (.int .i64 p_m.cycles), (.int .i64 0)]) (xs := []) rfl (RL.nil _ _)
              refine os_buildSlice (cs := [(mkS p_x.name), (.int .i64 p_x.count), (.int .i64 0), (.int .i64 0), (.bool false), (.int .i64 p_m.cycles), (.int .i64 0)]) (E := 61) (sz := 7) rfl rfl (fun _ => by kernel_rfl) rfl (by decide) (fun b14 => ?_)
              refine ⟨fun w' s => (s.select [3, 4, 7, 8] (by decide) rfl), ?_⟩
              refine AL.any (rs := [10]) (by kernel_rfl) (by decide) ?_
              refine ALs.cons (i := 10) rfl (Runs.free rfl) rfl rfl ?_ ?_
              ·
               skip
               obtain ⟨l5, e5, hm⟩ := bind_some hm
               refine os_insert (i := 6) (k := 0) (by decide) rfl rfl rfl rfl rfl rfl rl3 rl6 (Nat.zero_lt_succ _) e5 (fun ao7 cap7 ys2 rl7 => ?_)
               refine ⟨fun w' s => (s.select [3, 4, 7, 8] (by decide) rfl), ?_⟩
               refine tq (i := 11) rfl (by kernel_rfl) rfl rfl rfl (ov_nilCheckB rfl rfl) ?_
               refine tq (i := 12) rfl (by kernel_rfl) rfl rfl rfl (ov_fieldAddr Tryz.underlying36 rfl rfl rfl Tryz.sizeOf34 rfl rfl) ?_
               refine AL.any (rs := [13]) (by kernel_rfl) (by decide) ?_
               refine ALs.cons0 (i := 13) rfl (Runs.free rfl) rfl ?_ ?_
               ·
                skip
                refine os_store (i := 5) (vs := [(.slice ao7 l5.length cap7)]) (cs' := [(.slice ao7 l5.length cap7), (.int .i64 p_m.cycles)]) Tryz.sizeOf34 rfl rfl rfl rfl rfl rfl rfl rfl rfl ?_
                refine ⟨fun w' s => (s.select [3, 4, 7, 8] (by decide) rfl), ?_⟩
                refine AL.done (by kernel_rfl) ?_
                refine then_normal ?_
                exact ⟨l5, ao7, cap7, ys2, rl7, (Sub.cons rfl (Sub.nil _)), fun w' s => (s.select [5, 6, 7, 8] (by decide) rfl), hm⟩
               exact ALs.nil
              exact ALs.nil
             exact ALs.nil
            refine ALs.cons (i := 9) rfl (Runs.free rfl) rfl rfl ?_ ?_
            ·
             skip
             have rl8 : RL H encItem ([(Item.mk p_x.name p_x.count 0 0 false p_m.cycles 0)] : List Item) [(mkS p_x.name), (.int .i64 p_x.count), (.int .i64 0), (.int .i64 0), (.bool false), (.int .i64 p_m.cycles), (.int .i64 0)] := RL.cons (cs := [(mkS p_x.name), (.int .i64 p_x.count), (.int .i64 0), (.int .i64 0), (.bool false), (.int .i64 p_m.cycles), (.int .i64 0)]) (xs := []) rfl (RL.nil _ _)
             refine os_buildSlice (cs := [(mkS p_x.name), (.int .i64 p_x.count), (.int .i64 0), (.int .i64 0), (.bool false), (.int .i64 p_m.cycles), (.int .i64 0)]) (E := 61) (sz := 7) rfl rfl (fun _ => by kernel_rfl) rfl (by decide) (fun b15 => ?_)
             refine ⟨fun w' s => (s.select [3, 4, 7, 8] (by decide) rfl), ?_⟩
             refine AL.any (rs := [4]) (by kernel_rfl) (by decide) ?_
             refine ALs.cons (i := 4) rfl (Runs.free rfl) rfl rfl ?_ ?_
             ·
              skip
              refine OQ.step (OV.quiet (ov_load_box (i := 5) Tryz.isAgg34 rfl rfl rfl rfl)) ?_
              refine ⟨fun w' s => (s.select [3, 4, 7, 8] (by decide) rfl), ?_⟩
              refine AL.any (rs := [10]) (by kernel_rfl) (by decide) ?_
              refine ALs.cons (i := 10) rfl (Runs.free rfl) rfl rfl ?_ ?_
              ·
               skip
               obtain ⟨l6, e6, hm⟩ := bind_some hm
               refine os_insert (i := 6) (k := 0) (by decide) rfl rfl rfl rfl rfl rfl rl3 rl8 (Nat.zero_lt_succ _) e6 (fun ao8 cap8 ys3 rl9 => ?_)
               refine ⟨fun w' s => (s.select [3, 4, 7, 8] (by decide) rfl), ?_⟩
               refine tq (i := 11) rfl (by kernel_rfl) rfl rfl rfl (ov_nilCheckB rfl rfl) ?_
               refine tq (i := 12) rfl (by kernel_rfl) rfl rfl rfl (ov_fieldAddr Tryz.underlying36 rfl rfl rfl Tryz.sizeOf34 rfl rfl) ?_
               refine AL.any (rs := [13]) (by kernel_rfl) (by decide) ?_
               refine ALs.cons0 (i := 13) rfl (Runs.free rfl) rfl ?_ ?_
               ·
                skip
                refine os_store (i := 5) (vs := [(.slice ao8 l6.length cap8)]) (cs' := [(.slice ao8 l6.length cap8), (.int .i64 p_m.cycles)]) Tryz.sizeOf34 rfl rfl rfl rfl rfl rfl rfl rfl rfl ?_
                refine ⟨fun w' s => (s.select [3, 4, 7, 8] (by decide) rfl), ?_⟩
                refine AL.done (by kernel_rfl) ?_
                refine then_normal ?_
                exact ⟨l6, ao8, cap8, ys3, rl9, (Sub.cons rfl (Sub.nil _)), fun w' s => (s.select [5, 6, 7, 8] (by decide) rfl), hm⟩
               exact ALs.nil
              exact ALs.nil
             exact ALs.nil
            exact ALs.nil
           exact ALs.nil
          exact ALs.nil
         ·
          rintro g' S' ⟨l7, ao9, cap9, xs4, rl10, hsub2, hS2, hm⟩
          refine WP.sub hsub2 (WP.weaken hS2 ?_)
          replace hm := (congrFun hk3 l7).symm.trans hm
          refine WP.seq (WP.region ?_)
          refine wq rfl rfl rfl (ov_assign rfl rfl) ?_
          refine WL.nil (then_normal (WP.ret ?_))
          refine retQ_ret (v := (.int .i64 0)) Tryz.results54 (Res.tmp rfl Res.nil) rfl (fun w' s => ⟨_, ?_, s⟩)
          refine ⟨fun w' s => (s.select [2, 3] (by decide) rfl), ?_⟩
          refine tq (i := 8) rfl (by kernel_rfl) rfl rfl rfl (ov_assign rfl rfl) ?_
          refine AL.done (by kernel_rfl) ?_
          refine then_normal ?_
          exact ⟨0, p_m.cycles, l7, ao9, cap9, xs4, rl10, (Sub.cons rfl (Sub.cons rfl (Sub.cons rfl (Sub.cons rfl (Sub.nil _))))), fun w' s => (s.select [0, 1, 2] (by decide) rfl), hm⟩
       exact ALs.nil
      ·
       replace hm := ite_f hc7 hm
       rcases Bool.eq_false_or_eq_true (p_x.kind == 1) with hc9 | hc9
       ·
        replace hm := ite_t hc9 hm
        refine tq (i := 3) rfl (by kernel_rfl) rfl rfl rfl (ov_index_at (j := 1) (cs := [(mkS [112, 97, 114, 116]), (.bool true), (.bool false), (.func (.func 54) #[] #[]), (mkS [99, 121, 99, 108, 101, 115]), (.bool true), (.bool true), (.func (.func 55) #[] #[]), (mkS [102, 97, 117, 108, 116]), (.bool false), (.bool false), (.func (.func 56) #[] #[]), (mkS [114, 101, 112, 97, 105, 114]), (.bool false), (.bool false), (.func (.func 57) #[] #[]), (mkS [114, 101, 112, 108, 97, 99, 101]), (.bool true), (.bool false), (.func (.func 58) #[] #[]), (mkS [114, 101, 109, 111, 118, 101]), (.bool false), (.bool false), (.func (.func 59) #[] #[])]) (r := (.agg #[(mkS [99, 121, 99, 108, 101, 115]), (.bool true), (.bool true), (.func (.func 55) #[] #[])])) (eq_of_beq hc9) rfl rfl rfl (fun _ => by kernel_rfl)) ?_
        refine tq (i := 4) rfl (by kernel_rfl) rfl rfl rfl (ov_field (cs := [(mkS [99, 121, 99, 108, 101, 115]), (.bool true), (.bool true), (.func (.func 55) #[] #[])]) (r := (.func (.func 55) #[] #[])) rfl rfl (fun _ => by kernel_rfl)) ?_
        refine AL.any (rs := [7]) (by kernel_rfl) (by decide) ?_
        refine ALs.cons (i := 7) rfl (Runs.free rfl) rfl rfl ?_ ?_
        ·
         skip
         refine os_inline (cap := []) (vs := [(pB b6 0), (.int .i64 r1.1), (.agg #[(.int .i64 p_x.kind), (mkS p_x.name), (.int .i64 p_x.count), (.int .i64 p_x.strokes)])]) Tryz.call55 rfl rfl rfl Tryz.func55 rfl 66 Tryz.ntmps55 rfl (fun w' s => ?_)
         refine WP.seq (WP.region ?_)
         refine WL.step (Runs.free rfl) rfl rfl (os_box (cs := [(.int .i64 p_x.kind), (mkS p_x.name), (.int .i64 p_x.count), (.int .i64 p_x.strokes)]) rfl rfl rfl (fun b16 => ?_))
         refine wq rfl rfl rfl (ov_assign rfl rfl) ?_
         refine WL.nil (then_normal (WP.seq (WP.region ?_)))
         refine wq rfl rfl rfl (ov_move rfl rfl) ?_
         refine wq rfl rfl rfl (ov_nilCheckB rfl rfl) ?_
         refine wq rfl rfl rfl (ov_fieldAddr Tryz.underlying36 rfl rfl rfl Tryz.sizeOf34 rfl rfl) ?_
         refine wq rfl rfl rfl (ov_load_box (i := 2) Tryz.isAgg34 rfl rfl rfl rfl) ?_
         refine wq rfl rfl rfl (ov_move rfl rfl) ?_
         obtain ⟨x1, e7, hm⟩ := bind_some hm
         obtain ⟨h3, h4, h5, cs1, h6, h7⟩ := RL.get rl3 e7
         obtain rfl : cs1 = [(mkS x1.name), (.int .i64 x1.life), (.int .i64 x1.used), (.int .i64 x1.faults), (.bool x1.faulty), (.int .i64 x1.since), (.int .i64 x1.cycles)] := h6
         refine wq rfl rfl rfl (ov_indexAddr_own (i := 3) Tryz.underlying34 Tryz.sizeOf61 rfl rfl rfl rfl h3 h4) ?_
         refine wq rfl rfl rfl (ov_assign rfl rfl) ?_
         refine WL.nil (then_normal (WP.seq ?_))
         refine WP.region_draws (by kernel_rfl) (by kernel_rfl) (fun _ s => s.drew) ?_
         refine QL.quiet (Runs.free rfl) rfl rfl (OV.quiet (ov_move rfl rfl)) ?_
         refine QL.quiet (Runs.free rfl) rfl rfl (OV.quiet (ov_nilCheckE rfl rfl)) ?_
         refine QL.quiet (Runs.free rfl) rfl rfl (OV.quiet (ov_fieldAddrE Tryz.underlying61 rfl rfl rfl Tryz.sizeOf3 rfl rfl)) ?_
         refine QL.quiet (Runs.free rfl) rfl rfl (OV.quiet (ov_load_own (i := 3) Tryz.isAgg3 rfl rfl rfl (own_pos h3 h4) (elem_cell h7 (off := 2) rfl))) ?_
         refine QL.quiet (Runs.free rfl) rfl rfl (OV.quiet (ov_fieldAddr Tryz.underlying24 rfl rfl rfl Tryz.sizeOf3 rfl rfl)) ?_
         refine QL.quiet (Runs.free rfl) rfl rfl (OV.quiet (ov_load_box (i := 0) Tryz.isAgg3 rfl rfl rfl rfl)) ?_
         refine QL.quiet (Runs.free rfl) rfl rfl (OV.quiet (ov_fieldAddr Tryz.underlying24 rfl rfl rfl Tryz.sizeOf3 rfl rfl)) ?_
         refine QL.quiet (Runs.free rfl) rfl rfl (OV.quiet (ov_load_box (i := 0) Tryz.isAgg3 rfl rfl rfl rfl)) ?_
         refine QL.quiet (Runs.free rfl) rfl rfl (OV.quiet (ov_mul rfl rfl rfl)) ?_
         refine QL.quiet (Runs.free rfl) rfl rfl (OV.quiet (ov_add rfl rfl rfl)) ?_
         refine QL.quiet (Runs.free rfl) rfl rfl (OV.quiet (ov_assign rfl rfl)) ?_
         refine QL.nil ?_
         refine then_normal (WP.seq (WP.block (WP.seq (WP.region ?_))))
         refine wq rfl rfl rfl (ov_move rfl rfl) ?_
         refine wq rfl rfl rfl (ov_nilCheckE rfl rfl) ?_
         refine wq rfl rfl rfl (ov_fieldAddrE Tryz.underlying61 rfl rfl rfl Tryz.sizeOf4 rfl rfl) ?_
         refine wq rfl rfl rfl (ov_load_own (i := 3) Tryz.isAgg4 rfl rfl rfl (own_pos h3 h4) (elem_cell h7 (off := 4) rfl)) ?_
         refine wq rfl rfl rfl (ov_assign rfl rfl) ?_
         refine WL.nil (then_normal ?_)
         refine WP.cond rfl (fun hc10 => ?_) (fun hc10 => ?_)
         ·
          replace hm := ite_t hc10 hm
          refine WP.seq (WP.region ?_)
          refine wq rfl rfl rfl (ov_assign rfl rfl) ?_
          refine WL.nil (then_normal (WP.ret (block_ret (then_ret ?_))))
          refine retQ_ret (v := (.int .i64 14)) Tryz.results55 (Res.tmp rfl Res.nil) rfl (fun w' s => ⟨_, ?_, s⟩)
          refine ⟨fun w' s => (s.select [4, 5] (by decide) rfl), ?_⟩
          refine tq (i := 8) rfl (by kernel_rfl) rfl rfl rfl (ov_assign rfl rfl) ?_
          refine AL.done (by kernel_rfl) ?_
          refine then_normal ?_
          exact ⟨14, p_m.cycles, l3, ao5, cap5, xs3, rl3, (Sub.cons rfl (Sub.cons rfl (Sub.cons rfl (Sub.cons rfl (Sub.nil _))))), fun w' s => (s.select [2, 3, 4] (by decide) rfl), hm⟩
         ·
          replace hm := ite_f hc10 hm
          refine WP.seq ?_
          refine WP.region_draws (by kernel_rfl) (by kernel_rfl) (fun _ s => s.drew) ?_
          refine QL.quiet (Runs.free rfl) rfl rfl (OV.quiet (ov_move rfl rfl)) ?_
          refine QL.quiet (Runs.free rfl) rfl rfl (OV.quiet (ov_nilCheckB rfl rfl)) ?_
          refine QL.quiet (Runs.free rfl) rfl rfl (OV.quiet (ov_fieldAddr Tryz.underlying36 rfl rfl rfl Tryz.sizeOf3 rfl rfl)) ?_
          refine QL.quiet (Runs.free rfl) rfl rfl (OV.quiet (ov_load_box (i := 2) Tryz.isAgg3 rfl rfl rfl rfl)) ?_
          refine QL.quiet (Runs.free rfl) rfl rfl (OV.quiet (ov_fieldAddr Tryz.underlying24 rfl rfl rfl Tryz.sizeOf3 rfl rfl)) ?_
          refine QL.quiet (Runs.free rfl) rfl rfl (OV.quiet (ov_load_box (i := 0) Tryz.isAgg3 rfl rfl rfl rfl)) ?_
          refine QL.quiet (Runs.free rfl) rfl rfl (OV.quiet (ov_add rfl rfl rfl)) ?_
          refine QL.quiet (Runs.free rfl) rfl rfl (OV.quiet (ov_gtr rfl rfl rfl)) ?_
          refine QL.quiet (Runs.free rfl) rfl rfl (OV.quiet (ov_move rfl rfl)) ?_
          refine QL.part_bool 3 42 (x := ((decide ((IntKind.wrap .i64 (p_m.cycles + p_x.count)) > 1048576)) || (decide ((IntKind.wrap .i64 (x1.used + (IntKind.wrap .i64 (p_x.count * p_x.strokes)))) > 1048576)))) ?_ ?_
          ·
           rcases Bool.eq_false_or_eq_true (decide ((IntKind.wrap .i64 (p_m.cycles + p_x.count)) > 1048576)) with hc11 | hc11
           ·
            skip
            refine QL.idle (Idle.no rfl rfl rfl hc11) rfl rfl ?_
            refine QL.idle (Idle.no rfl rfl rfl hc11) rfl rfl ?_
            refine QL.quiet (Runs.free rfl) rfl rfl (OV.quiet (ov_pick_true rfl (guard_eq rfl hc11) rfl)) ?_
            exact QL.nil (Sub.cons' rfl (congrArg Value.bool (orT hc11)) (Sub.skip rfl (Sub.skip rfl (Sub.skip rfl (Sub.refl _)))))
           ·
            skip
            refine QL.quiet (Runs.yes rfl rfl rfl hc11) rfl rfl (OV.quiet (ov_move rfl rfl)) ?_
            refine QL.quiet (Runs.yes rfl rfl rfl hc11) rfl rfl (OV.quiet (ov_gtr rfl rfl rfl)) ?_
            refine QL.quiet (Runs.free rfl) rfl rfl (OV.quiet (ov_pick_false rfl (guard_eq rfl hc11) rfl)) ?_
            exact QL.nil (Sub.cons' rfl (congrArg Value.bool (orF hc11)) (Sub.skip rfl (Sub.skip rfl (Sub.skip rfl (Sub.refl _)))))
          refine QL.quiet (Runs.free rfl) rfl rfl (OV.quiet (ov_assign rfl rfl)) ?_
          refine QL.nil ?_
          refine then_normal ?_
          refine WP.cond rfl (fun hc12 => ?_) (fun hc12 => ?_)
          ·
           replace hm := ite_t hc12 hm
           refine WP.seq (WP.region ?_)
           refine wq rfl rfl rfl (ov_assign rfl rfl) ?_
           refine WL.nil (then_normal (WP.ret (block_ret (then_ret ?_))))
           refine retQ_ret (v := (.int .i64 11)) Tryz.results55 (Res.tmp rfl Res.nil) rfl (fun w' s => ⟨_, ?_, s⟩)
           refine ⟨fun w' s => (s.select [4, 5] (by decide) rfl), ?_⟩
           refine tq (i := 8) rfl (by kernel_rfl) rfl rfl rfl (ov_assign rfl rfl) ?_
           refine AL.done (by kernel_rfl) ?_
           refine then_normal ?_
           exact ⟨11, p_m.cycles, l3, ao5, cap5, xs3, rl3, (Sub.cons rfl (Sub.cons rfl (Sub.cons rfl (Sub.cons rfl (Sub.nil _))))), fun w' s => (s.select [2, 3, 4] (by decide) rfl), hm⟩
          ·
           replace hm := ite_f hc12 hm
           refine WP.skip (block_normal (then_normal (WP.seq ?_)))
           refine WP.region_any (S₀ := St w H [.blk b16 24 [(.int .i64 p_x.kind), (mkS p_x.name), (.int .i64 p_x.count), (.int .i64 p_x.strokes)], .blk b7 88 [(mkS [112, 97, 114, 116]), (.bool true), (.bool false), (.func (.func 54) #[] #[]), (mkS [99, 121, 99, 108, 101, 115]), (.bool true), (.bool true), (.func (.func 55) #[] #[]), (mkS [102, 97, 117, 108, 116]), (.bool false), (.bool false), (.func (.func 56) #[] #[]), (mkS [114, 101, 112, 97, 105, 114]), (.bool false), (.bool false), (.func (.func 57) #[] #[]), (mkS [114, 101, 112, 108, 97, 99, 101]), (.bool true), (.bool false), (.func (.func 58) #[] #[]), (mkS [114, 101, 109, 111, 118, 101]), (.bool false), (.bool false), (.func (.func 59) #[] #[])], .row 61 (encItem).size l3.length (.slice ao5 l3.length cap5) xs3, .blk b3 36 [(.slice none 0 0), (.int .i64 0)], .blk b2 24 [(.int .i64 p_x.kind), (mkS p_x.name), (.int .i64 p_x.count), (.int .i64 p_x.strokes)]] H) 10 rfl (by kernel_rfl) (fun w' s => (s.select [0, 1, 3, 4, 5] (by decide) rfl)) (fun _ s => s.drew) ?_
           refine tq (i := 0) rfl (by kernel_rfl) rfl rfl rfl (ov_move rfl rfl) ?_
           refine tq (i := 1) rfl (by kernel_rfl) rfl rfl rfl (ov_nilCheckB rfl rfl) ?_
           refine tq (i := 2) rfl (by kernel_rfl) rfl rfl rfl (ov_fieldAddr Tryz.underlying36 rfl rfl rfl Tryz.sizeOf3 rfl rfl) ?_
           refine tq (i := 4) rfl (by kernel_rfl) rfl rfl rfl (ov_fieldAddr Tryz.underlying24 rfl rfl rfl Tryz.sizeOf3 rfl rfl) ?_
           refine tq (i := 5) rfl (by kernel_rfl) rfl rfl rfl (ov_load_box (i := 0) Tryz.isAgg3 rfl rfl rfl rfl) ?_
           refine AL.any (rs := [3]) (by kernel_rfl) (by decide) ?_
           refine ALs.cons (i := 3) rfl (Runs.free rfl) rfl rfl ?_ ?_
           ·
            skip
            refine OQ.step (OV.quiet (ov_load_box (i := 2) Tryz.isAgg3 rfl rfl rfl rfl)) ?_
            refine ⟨fun w' s => (s.select [0, 1, 3, 4, 5] (by decide) rfl), ?_⟩
            refine tq (i := 6) rfl (by kernel_rfl) rfl rfl rfl (ov_add rfl rfl rfl) ?_
            refine tq (i := 7) rfl (by kernel_rfl) rfl rfl rfl (ov_nilCheckB rfl rfl) ?_
            refine tq (i := 8) rfl (by kernel_rfl) rfl rfl rfl (ov_fieldAddr Tryz.underlying36 rfl rfl rfl Tryz.sizeOf3 rfl rfl) ?_
            refine AL.any (rs := [9]) (by kernel_rfl) (by decide) ?_
            refine ALs.cons0 (i := 9) rfl (Runs.free rfl) rfl ?_ ?_
            ·
             skip
             refine os_store (i := 2) (vs := [(.int .i64 (IntKind.wrap .i64 (p_m.cycles + p_x.count)))]) (cs' := [(.slice ao5 l3.length cap5), (.int .i64 (IntKind.wrap .i64 (p_m.cycles + p_x.count)))]) Tryz.sizeOf3 rfl rfl rfl rfl rfl rfl rfl rfl rfl ?_
             refine ⟨fun w' s => (s.select [0, 1, 3, 4, 5] (by decide) rfl), ?_⟩
             refine AL.done (by kernel_rfl) ?_
             refine then_normal (WP.seq ?_)
             refine WP.region_any (S₀ := St w H [.blk b16 24 [(.int .i64 p_x.kind), (mkS p_x.name), (.int .i64 p_x.count), (.int .i64 p_x.strokes)], .blk b7 88 [(mkS [112, 97, 114, 116]), (.bool true), (.bool false), (.func (.func 54) #[] #[]), (mkS [99, 121, 99, 108, 101, 115]), (.bool true), (.bool true), (.func (.func 55) #[] #[]), (mkS [102, 97, 117, 108, 116]), (.bool false), (.bool false), (.func (.func 56) #[] #[]), (mkS [114, 101, 112, 97, 105, 114]), (.bool false), (.bool false), (.func (.func 57) #[] #[]), (mkS [114, 101, 112, 108, 97, 99, 101]), (.bool true), (.bool false), (.func (.func 58) #[] #[]), (mkS [114, 101, 109, 111, 118, 101]), (.bool false), (.bool false), (.func (.func 59) #[] #[])], .blk b3 36 [(.slice none 0 0), (.int .i64 0)], .blk b2 24 [(.int .i64 p_x.kind), (mkS p_x.name), (.int .i64 p_x.count), (.int .i64 p_x.strokes)]] H) 16 rfl (by kernel_rfl) (fun w' s => (s.select [0, 1, 4, 5] (by decide) rfl)) (fun _ s => s.drew) ?_
             refine tq (i := 0) rfl (by kernel_rfl) rfl rfl rfl (ov_move rfl rfl) ?_
             refine tq (i := 1) rfl (by kernel_rfl) rfl rfl rfl (ov_move rfl rfl) ?_
             refine tq (i := 2) rfl (by kernel_rfl) rfl rfl rfl (ov_move rfl rfl) ?_
             refine tq (i := 3) rfl (by kernel_rfl) rfl rfl rfl (ov_nilCheckE rfl rfl) ?_
             refine tq (i := 4) rfl (by kernel_rfl) rfl rfl rfl (ov_fieldAddrE Tryz.underlying61 rfl rfl rfl Tryz.sizeOf3 rfl rfl) ?_
             refine tq (i := 6) rfl (by kernel_rfl) rfl rfl rfl (ov_fieldAddr Tryz.underlying24 rfl rfl rfl Tryz.sizeOf3 rfl rfl) ?_
             refine tq (i := 7) rfl (by kernel_rfl) rfl rfl rfl (ov_load_box (i := 0) Tryz.isAgg3 rfl rfl rfl rfl) ?_
             refine tq (i := 9) rfl (by kernel_rfl) rfl rfl rfl (ov_move rfl rfl) ?_
             refine AL.any (rs := [5]) (by kernel_rfl) (by decide) ?_
             refine ALs.cons (i := 5) rfl (Runs.free rfl) rfl rfl ?_ ?_
             ·
              skip
              refine OQ.step (OV.quiet (ov_load_own (i := 3) Tryz.isAgg3 rfl rfl rfl (own_pos h3 h4) (elem_cell h7 (off := 6) rfl))) ?_
              refine ⟨fun w' s => (s.select [0, 1, 4, 5] (by decide) rfl), ?_⟩
              refine tq (i := 8) rfl (by kernel_rfl) rfl rfl rfl (ov_add rfl rfl rfl) ?_
              refine tq (i := 10) rfl (by kernel_rfl) rfl rfl rfl (ov_nilCheckE rfl rfl) ?_
              refine tq (i := 11) rfl (by kernel_rfl) rfl rfl rfl (ov_fieldAddrE Tryz.underlying61 rfl rfl rfl Tryz.sizeOf3 rfl rfl) ?_
              refine AL.any (rs := [12]) (by kernel_rfl) (by decide) ?_
              refine ALs.cons0 (i := 12) rfl (Runs.free rfl) rfl ?_ ?_
              ·
               skip
               have rl11 := RL.set rl3 (y := (Item.mk x1.name x1.life x1.used x1.faults x1.faulty x1.since (IntKind.wrap .i64 (x1.cycles + p_x.count)))) (off := 6) (vs := [(.int .i64 (IntKind.wrap .i64 (x1.cycles + p_x.count)))]) e7 h7 rfl (Nat.le_of_ble_eq_true rfl)
               have e8 := at?_set (y := (Item.mk x1.name x1.life x1.used x1.faults x1.faulty x1.since (IntKind.wrap .i64 (x1.cycles + p_x.count)))) e7
               refine os_store_own (i := 3) (vs := [(.int .i64 (IntKind.wrap .i64 (x1.cycles + p_x.count)))]) Tryz.sizeOf3 rfl rfl rfl rfl (own_pos h3 h4) rfl rfl (elem_le (off := 6) h5 (Nat.le_of_ble_eq_true rfl)) rfl ?_
               rw [show l3.length = (List.set l3 (Int.toNat r1.1) (Item.mk x1.name x1.life x1.used x1.faults x1.faulty x1.since (IntKind.wrap .i64 (x1.cycles + p_x.count)))).length from List.length_set.symm]
               obtain ⟨h8, h9, h10, cs2, h11, h12⟩ := rl11.get e8
               obtain rfl : cs2 = [(mkS x1.name), (.int .i64 x1.life), (.int .i64 x1.used), (.int .i64 x1.faults), (.bool x1.faulty), (.int .i64 x1.since), (.int .i64 (IntKind.wrap .i64 (x1.cycles + p_x.count)))] := h11
               refine ⟨fun w' s => (s.select [0, 1, 4, 5] (by decide) rfl), ?_⟩
               refine tq (i := 13) rfl (by kernel_rfl) rfl rfl rfl (ov_nilCheckE rfl rfl) ?_
               refine tq (i := 14) rfl (by kernel_rfl) rfl rfl rfl (ov_fieldAddrE Tryz.underlying61 rfl rfl rfl Tryz.sizeOf3 rfl rfl) ?_
               refine AL.any (rs := [15]) (by kernel_rfl) (by decide) ?_
               refine ALs.cons0 (i := 15) rfl (Runs.free rfl) rfl ?_ ?_
               ·
                skip
                have rl12 := RL.set rl11 (y := (Item.mk x1.name x1.life (IntKind.wrap .i64 (x1.used + (IntKind.wrap .i64 (p_x.count * p_x.strokes)))) x1.faults x1.faulty x1.since (IntKind.wrap .i64 (x1.cycles + p_x.count)))) (off := 2) (vs := [(.int .i64 (IntKind.wrap .i64 (x1.used + (IntKind.wrap .i64 (p_x.count * p_x.strokes)))))]) e8 h12 rfl (Nat.le_of_ble_eq_true rfl)
                have e9 := at?_set (y := (Item.mk x1.name x1.life (IntKind.wrap .i64 (x1.used + (IntKind.wrap .i64 (p_x.count * p_x.strokes)))) x1.faults x1.faulty x1.since (IntKind.wrap .i64 (x1.cycles + p_x.count)))) e8
                refine os_store_own (i := 3) (vs := [(.int .i64 (IntKind.wrap .i64 (x1.used + (IntKind.wrap .i64 (p_x.count * p_x.strokes)))))]) Tryz.sizeOf3 rfl rfl rfl rfl (own_pos h8 h9) rfl rfl (elem_le (off := 2) h10 (Nat.le_of_ble_eq_true rfl)) rfl ?_
                rw [show (List.set l3 (Int.toNat r1.1) (Item.mk x1.name x1.life x1.used x1.faults x1.faulty x1.since (IntKind.wrap .i64 (x1.cycles + p_x.count)))).length = (List.set (List.set l3 (Int.toNat r1.1) (Item.mk x1.name x1.life x1.used x1.faults x1.faulty x1.since (IntKind.wrap .i64 (x1.cycles + p_x.count)))) (Int.toNat r1.1) (Item.mk x1.name x1.life (IntKind.wrap .i64 (x1.used + (IntKind.wrap .i64 (p_x.count * p_x.strokes)))) x1.faults x1.faulty x1.since (IntKind.wrap .i64 (x1.cycles + p_x.count)))).length from List.length_set.symm]
                obtain ⟨h13, h14, h15, cs3, h16, h17⟩ := rl12.get e9
                obtain rfl : cs3 = [(mkS x1.name), (.int .i64 x1.life), (.int .i64 (IntKind.wrap .i64 (x1.used + (IntKind.wrap .i64 (p_x.count * p_x.strokes))))), (.int .i64 x1.faults), (.bool x1.faulty), (.int .i64 x1.since), (.int .i64 (IntKind.wrap .i64 (x1.cycles + p_x.count)))] := h16
                refine ⟨fun w' s => (s.select [0, 1, 4, 5] (by decide) rfl), ?_⟩
                refine AL.done (by kernel_rfl) ?_
                refine then_normal (WP.seq (WP.region ?_))
                refine wq rfl rfl rfl (ov_assign rfl rfl) ?_
                refine WL.nil (then_normal (WP.ret ?_))
                refine retQ_ret (v := (.int .i64 0)) Tryz.results55 (Res.tmp rfl Res.nil) rfl (fun w' s => ⟨_, ?_, s⟩)
                refine ⟨fun w' s => (s.select [4, 5] (by decide) rfl), ?_⟩
                refine tq (i := 8) rfl (by kernel_rfl) rfl rfl rfl (ov_assign rfl rfl) ?_
                refine AL.done (by kernel_rfl) ?_
                refine then_normal ?_
                exact ⟨0, (IntKind.wrap .i64 (p_m.cycles + p_x.count)), (List.set (List.set l3 (Int.toNat r1.1) (Item.mk x1.name x1.life x1.used x1.faults x1.faulty x1.since (IntKind.wrap .i64 (x1.cycles + p_x.count)))) (Int.toNat r1.1) (Item.mk x1.name x1.life (IntKind.wrap .i64 (x1.used + (IntKind.wrap .i64 (p_x.count * p_x.strokes)))) x1.faults x1.faulty x1.since (IntKind.wrap .i64 (x1.cycles + p_x.count)))), ao5, cap5, (spl (spl xs3 (Int.toNat r1.1 * encItem.size + 6) [(.int .i64 (IntKind.wrap .i64 (x1.cycles + p_x.count)))]) (Int.toNat r1.1 * encItem.size + 2) [(.int .i64 (IntKind.wrap .i64 (x1.used + (IntKind.wrap .i64 (p_x.count * p_x.strokes)))))]), rl12, (Sub.cons rfl (Sub.cons rfl (Sub.cons rfl (Sub.cons rfl (Sub.nil _))))), fun w' s => (s.select [2, 3, 4] (by decide) rfl), hm⟩
               exact ALs.nil
              exact ALs.nil
             exact ALs.nil
            exact ALs.nil
           exact ALs.nil
        exact ALs.nil
       ·
        replace hm := ite_f hc9 hm
        rcases Bool.eq_false_or_eq_true (p_x.kind == 2) with hc13 | hc13
        ·
         replace hm := ite_t hc13 hm
         refine tq (i := 3) rfl (by kernel_rfl) rfl rfl rfl (ov_index_at (j := 2) (cs := [(mkS [112, 97, 114, 116]), (.bool true), (.bool false), (.func (.func 54) #[] #[]), (mkS [99, 121, 99, 108, 101, 115]), (.bool true), (.bool true), (.func (.func 55) #[] #[]), (mkS [102, 97, 117, 108, 116]), (.bool false), (.bool false), (.func (.func 56) #[] #[]), (mkS [114, 101, 112, 97, 105, 114]), (.bool false), (.bool false), (.func (.func 57) #[] #[]), (mkS [114, 101, 112, 108, 97, 99, 101]), (.bool true), (.bool false), (.func (.func 58) #[] #[]), (mkS [114, 101, 109, 111, 118, 101]), (.bool false), (.bool false), (.func (.func 59) #[] #[])]) (r := (.agg #[(mkS [102, 97, 117, 108, 116]), (.bool false), (.bool false), (.func (.func 56) #[] #[])])) (eq_of_beq hc13) rfl rfl rfl (fun _ => by kernel_rfl)) ?_
         refine tq (i := 4) rfl (by kernel_rfl) rfl rfl rfl (ov_field (cs := [(mkS [102, 97, 117, 108, 116]), (.bool false), (.bool false), (.func (.func 56) #[] #[])]) (r := (.func (.func 56) #[] #[])) rfl rfl (fun _ => by kernel_rfl)) ?_
         refine AL.any (rs := [7]) (by kernel_rfl) (by decide) ?_
         refine ALs.cons (i := 7) rfl (Runs.free rfl) rfl rfl ?_ ?_
         ·
          skip
          refine os_inline (cap := []) (vs := [(pB b6 0), (.int .i64 r1.1), (.agg #[(.int .i64 p_x.kind), (mkS p_x.name), (.int .i64 p_x.count), (.int .i64 p_x.strokes)])]) Tryz.call56 rfl rfl rfl Tryz.func56 rfl 35 Tryz.ntmps56 rfl (fun w' s => ?_)
          refine WP.seq (WP.region ?_)
          refine WL.step (Runs.free rfl) rfl rfl (os_box (cs := [(.int .i64 p_x.kind), (mkS p_x.name), (.int .i64 p_x.count), (.int .i64 p_x.strokes)]) rfl rfl rfl (fun b17 => ?_))
          refine wq rfl rfl rfl (ov_assign rfl rfl) ?_
          refine WL.nil (then_normal (WP.seq (WP.region ?_)))
          refine wq rfl rfl rfl (ov_move rfl rfl) ?_
          refine wq rfl rfl rfl (ov_nilCheckB rfl rfl) ?_
          refine wq rfl rfl rfl (ov_fieldAddr Tryz.underlying36 rfl rfl rfl Tryz.sizeOf34 rfl rfl) ?_
          refine wq rfl rfl rfl (ov_load_box (i := 2) Tryz.isAgg34 rfl rfl rfl rfl) ?_
          refine wq rfl rfl rfl (ov_move rfl rfl) ?_
          obtain ⟨x2, e10, hm⟩ := bind_some hm
          obtain ⟨h18, h19, h20, cs4, h21, h22⟩ := RL.get rl3 e10
          obtain rfl : cs4 = [(mkS x2.name), (.int .i64 x2.life), (.int .i64 x2.used), (.int .i64 x2.faults), (.bool x2.faulty), (.int .i64 x2.since), (.int .i64 x2.cycles)] := h21
          refine wq rfl rfl rfl (ov_indexAddr_own (i := 3) Tryz.underlying34 Tryz.sizeOf61 rfl rfl rfl rfl h18 h19) ?_
          refine wq rfl rfl rfl (ov_assign rfl rfl) ?_
          refine WL.nil (then_normal (WP.seq (WP.block (WP.seq (WP.region ?_)))))
          refine wq rfl rfl rfl (ov_move rfl rfl) ?_
          refine wq rfl rfl rfl (ov_nilCheckE rfl rfl) ?_
          refine wq rfl rfl rfl (ov_fieldAddrE Tryz.underlying61 rfl rfl rfl Tryz.sizeOf4 rfl rfl) ?_
          refine wq rfl rfl rfl (ov_load_own (i := 3) Tryz.isAgg4 rfl rfl rfl (own_pos h18 h19) (elem_cell h22 (off := 4) rfl)) ?_
          refine wq rfl rfl rfl (ov_assign rfl rfl) ?_
          refine WL.nil (then_normal ?_)
          refine WP.cond rfl (fun hc14 => ?_) (fun hc14 => ?_)
          ·
           replace hm := ite_t hc14 hm
           refine WP.seq (WP.region ?_)
           refine wq rfl rfl rfl (ov_assign rfl rfl) ?_
           refine WL.nil (then_normal (WP.ret (block_ret (then_ret ?_))))
           refine retQ_ret (v := (.int .i64 14)) Tryz.results56 (Res.tmp rfl Res.nil) rfl (fun w' s => ⟨_, ?_, s⟩)
           refine ⟨fun w' s => (s.select [4, 5] (by decide) rfl), ?_⟩
           refine tq (i := 8) rfl (by kernel_rfl) rfl rfl rfl (ov_assign rfl rfl) ?_
           refine AL.done (by kernel_rfl) ?_
           refine then_normal ?_
           exact ⟨14, p_m.cycles, l3, ao5, cap5, xs3, rl3, (Sub.cons rfl (Sub.cons rfl (Sub.cons rfl (Sub.cons rfl (Sub.nil _))))), fun w' s => (s.select [2, 3, 4] (by decide) rfl), hm⟩
          ·
           replace hm := ite_f hc14 hm
           refine WP.seq (WP.region ?_)
           refine wq rfl rfl rfl (ov_move rfl rfl) ?_
           refine wq rfl rfl rfl (ov_nilCheckE rfl rfl) ?_
           refine wq rfl rfl rfl (ov_fieldAddrE Tryz.underlying61 rfl rfl rfl Tryz.sizeOf3 rfl rfl) ?_
           refine wq rfl rfl rfl (ov_load_own (i := 3) Tryz.isAgg3 rfl rfl rfl (own_pos h18 h19) (elem_cell h22 (off := 3) rfl)) ?_
           refine wq rfl rfl rfl (ov_eql rfl rfl rfl) ?_
           refine wq rfl rfl rfl (ov_assign rfl rfl) ?_
           refine WL.nil (then_normal ?_)
           refine WP.cond rfl (fun hc15 => ?_) (fun hc15 => ?_)
           ·
            replace hm := ite_t hc15 hm
            refine WP.seq (WP.region ?_)
            refine wq rfl rfl rfl (ov_assign rfl rfl) ?_
            refine WL.nil (then_normal (WP.ret (block_ret (then_ret ?_))))
            refine retQ_ret (v := (.int .i64 5)) Tryz.results56 (Res.tmp rfl Res.nil) rfl (fun w' s => ⟨_, ?_, s⟩)
            refine ⟨fun w' s => (s.select [4, 5] (by decide) rfl), ?_⟩
            refine tq (i := 8) rfl (by kernel_rfl) rfl rfl rfl (ov_assign rfl rfl) ?_
            refine AL.done (by kernel_rfl) ?_
            refine then_normal ?_
            exact ⟨5, p_m.cycles, l3, ao5, cap5, xs3, rl3, (Sub.cons rfl (Sub.cons rfl (Sub.cons rfl (Sub.cons rfl (Sub.nil _))))), fun w' s => (s.select [2, 3, 4] (by decide) rfl), hm⟩
           ·
            replace hm := ite_f hc15 hm
            refine WP.skip (block_normal (then_normal (WP.seq (WP.region ?_))))
            refine wq rfl rfl rfl (ov_move rfl rfl) ?_
            refine wq rfl rfl rfl (ov_nilCheckE rfl rfl) ?_
            refine wq rfl rfl rfl (ov_fieldAddrE Tryz.underlying61 rfl rfl rfl Tryz.sizeOf4 rfl rfl) ?_
            have rl13 := RL.set rl3 (y := (Item.mk x2.name x2.life x2.used x2.faults true x2.since x2.cycles)) (off := 4) (vs := [(.bool true)]) e10 h22 rfl (Nat.le_of_ble_eq_true rfl)
            have e11 := at?_set (y := (Item.mk x2.name x2.life x2.used x2.faults true x2.since x2.cycles)) e10
            refine WL.step0 (Runs.free rfl) rfl (os_store_own (i := 3) (vs := [(.bool true)]) Tryz.sizeOf4 rfl rfl rfl rfl (own_pos h18 h19) rfl rfl (elem_le (off := 4) h20 (Nat.le_of_ble_eq_true rfl)) rfl ?_)
            rw [show l3.length = (List.set l3 (Int.toNat r1.1) (Item.mk x2.name x2.life x2.used x2.faults true x2.since x2.cycles)).length from List.length_set.symm]
            obtain ⟨h23, h24, h25, cs5, h26, h27⟩ := rl13.get e11
            obtain rfl : cs5 = [(mkS x2.name), (.int .i64 x2.life), (.int .i64 x2.used), (.int .i64 x2.faults), (.bool true), (.int .i64 x2.since), (.int .i64 x2.cycles)] := h26
            refine WL.nil (then_normal (WP.seq (WP.region ?_)))
            refine wq rfl rfl rfl (ov_move rfl rfl) ?_
            refine wq rfl rfl rfl (ov_nilCheckE rfl rfl) ?_
            refine wq rfl rfl rfl (ov_fieldAddrE Tryz.underlying61 rfl rfl rfl Tryz.sizeOf3 rfl rfl) ?_
            refine wq rfl rfl rfl (ov_load_own (i := 3) Tryz.isAgg3 rfl rfl rfl (own_pos h23 h24) (elem_cell h27 (off := 3) rfl)) ?_
            refine wq rfl rfl rfl (ov_add rfl rfl rfl) ?_
            refine wq rfl rfl rfl (ov_nilCheckE rfl rfl) ?_
            refine wq rfl rfl rfl (ov_fieldAddrE Tryz.underlying61 rfl rfl rfl Tryz.sizeOf3 rfl rfl) ?_
            have rl14 := RL.set rl13 (y := (Item.mk x2.name x2.life x2.used (IntKind.wrap .i64 (x2.faults + 1)) true x2.since x2.cycles)) (off := 3) (vs := [(.int .i64 (IntKind.wrap .i64 (x2.faults + 1)))]) e11 h27 rfl (Nat.le_of_ble_eq_true rfl)
            have e12 := at?_set (y := (Item.mk x2.name x2.life x2.used (IntKind.wrap .i64 (x2.faults + 1)) true x2.since x2.cycles)) e11
            refine WL.step0 (Runs.free rfl) rfl (os_store_own (i := 3) (vs := [(.int .i64 (IntKind.wrap .i64 (x2.faults + 1)))]) Tryz.sizeOf3 rfl rfl rfl rfl (own_pos h23 h24) rfl rfl (elem_le (off := 3) h25 (Nat.le_of_ble_eq_true rfl)) rfl ?_)
            rw [show (List.set l3 (Int.toNat r1.1) (Item.mk x2.name x2.life x2.used x2.faults true x2.since x2.cycles)).length = (List.set (List.set l3 (Int.toNat r1.1) (Item.mk x2.name x2.life x2.used x2.faults true x2.since x2.cycles)) (Int.toNat r1.1) (Item.mk x2.name x2.life x2.used (IntKind.wrap .i64 (x2.faults + 1)) true x2.since x2.cycles)).length from List.length_set.symm]
            obtain ⟨h28, h29, h30, cs6, h31, h32⟩ := rl14.get e12
            obtain rfl : cs6 = [(mkS x2.name), (.int .i64 x2.life), (.int .i64 x2.used), (.int .i64 (IntKind.wrap .i64 (x2.faults + 1))), (.bool true), (.int .i64 x2.since), (.int .i64 x2.cycles)] := h31
            refine WL.nil (then_normal (WP.seq (WP.region ?_)))
            refine wq rfl rfl rfl (ov_assign rfl rfl) ?_
            refine WL.nil (then_normal (WP.ret ?_))
            refine retQ_ret (v := (.int .i64 0)) Tryz.results56 (Res.tmp rfl Res.nil) rfl (fun w' s => ⟨_, ?_, s⟩)
            refine ⟨fun w' s => (s.select [4, 5] (by decide) rfl), ?_⟩
            refine tq (i := 8) rfl (by kernel_rfl) rfl rfl rfl (ov_assign rfl rfl) ?_
            refine AL.done (by kernel_rfl) ?_
            refine then_normal ?_
            exact ⟨0, p_m.cycles, (List.set (List.set l3 (Int.toNat r1.1) (Item.mk x2.name x2.life x2.used x2.faults true x2.since x2.cycles)) (Int.toNat r1.1) (Item.mk x2.name x2.life x2.used (IntKind.wrap .i64 (x2.faults + 1)) true x2.since x2.cycles)), ao5, cap5, (spl (spl xs3 (Int.toNat r1.1 * encItem.size + 4) [(.bool true)]) (Int.toNat r1.1 * encItem.size + 3) [(.int .i64 (IntKind.wrap .i64 (x2.faults + 1)))]), rl14, (Sub.cons rfl (Sub.cons rfl (Sub.cons rfl (Sub.cons rfl (Sub.nil _))))), fun w' s => (s.select [2, 3, 4] (by decide) rfl), hm⟩
         exact ALs.nil
        ·
         replace hm := ite_f hc13 hm
         rcases Bool.eq_false_or_eq_true (p_x.kind == 3) with hc16 | hc16
         ·
          replace hm := ite_t hc16 hm
          refine tq (i := 3) rfl (by kernel_rfl) rfl rfl rfl (ov_index_at (j := 3) (cs := [(mkS [112, 97, 114, 116]), (.bool true), (.bool false), (.func (.func 54) #[] #[]), (mkS [99, 121, 99, 108, 101, 115]), (.bool true), (.bool true), (.func (.func 55) #[] #[]), (mkS [102, 97, 117, 108, 116]), (.bool false), (.bool false), (.func (.func 56) #[] #[]), (mkS [114, 101, 112, 97, 105, 114]), (.bool false), (.bool false), (.func (.func 57) #[] #[]), (mkS [114, 101, 112, 108, 97, 99, 101]), (.bool true), (.bool false), (.func (.func 58) #[] #[]), (mkS [114, 101, 109, 111, 118, 101]), (.bool false), (.bool false), (.func (.func 59) #[] #[])]) (r := (.agg #[(mkS [114, 101, 112, 97, 105, 114]), (.bool false), (.bool false), (.func (.func 57) #[] #[])])) (eq_of_beq hc16) rfl rfl rfl (fun _ => by kernel_rfl)) ?_
          refine tq (i := 4) rfl (by kernel_rfl) rfl rfl rfl (ov_field (cs := [(mkS [114, 101, 112, 97, 105, 114]), (.bool false), (.bool false), (.func (.func 57) #[] #[])]) (r := (.func (.func 57) #[] #[])) rfl rfl (fun _ => by kernel_rfl)) ?_
          refine AL.any (rs := [7]) (by kernel_rfl) (by decide) ?_
          refine ALs.cons (i := 7) rfl (Runs.free rfl) rfl rfl ?_ ?_
          ·
           skip
           refine os_inline (cap := []) (vs := [(pB b6 0), (.int .i64 r1.1), (.agg #[(.int .i64 p_x.kind), (mkS p_x.name), (.int .i64 p_x.count), (.int .i64 p_x.strokes)])]) Tryz.call57 rfl rfl rfl Tryz.func57 rfl 23 Tryz.ntmps57 rfl (fun w' s => ?_)
           refine WP.seq (WP.region ?_)
           refine WL.step (Runs.free rfl) rfl rfl (os_box (cs := [(.int .i64 p_x.kind), (mkS p_x.name), (.int .i64 p_x.count), (.int .i64 p_x.strokes)]) rfl rfl rfl (fun b18 => ?_))
           refine wq rfl rfl rfl (ov_assign rfl rfl) ?_
           refine WL.nil (then_normal (WP.seq (WP.seq (WP.region ?_))))
           refine wq rfl rfl rfl (ov_move rfl rfl) ?_
           refine wq rfl rfl rfl (ov_nilCheckB rfl rfl) ?_
           refine wq rfl rfl rfl (ov_fieldAddr Tryz.underlying36 rfl rfl rfl Tryz.sizeOf34 rfl rfl) ?_
           refine wq rfl rfl rfl (ov_load_box (i := 2) Tryz.isAgg34 rfl rfl rfl rfl) ?_
           refine wq rfl rfl rfl (ov_move rfl rfl) ?_
           obtain ⟨x3, e13, hm⟩ := bind_some hm
           obtain ⟨h33, h34, h35, cs7, h36, h37⟩ := RL.get rl3 e13
           obtain rfl : cs7 = [(mkS x3.name), (.int .i64 x3.life), (.int .i64 x3.used), (.int .i64 x3.faults), (.bool x3.faulty), (.int .i64 x3.since), (.int .i64 x3.cycles)] := h36
           refine wq rfl rfl rfl (ov_indexAddr_own (i := 3) Tryz.underlying34 Tryz.sizeOf61 rfl rfl rfl rfl h33 h34) ?_
           refine wq rfl rfl rfl (ov_fieldAddrE Tryz.underlying61 rfl rfl rfl Tryz.sizeOf4 rfl rfl) ?_
           refine wq rfl rfl rfl (ov_load_own (i := 3) Tryz.isAgg4 rfl rfl rfl (own_pos h33 h34) (elem_cell h37 (off := 4) rfl)) ?_
           refine wq rfl rfl rfl (ov_not rfl rfl) ?_
           refine WL.nil (then_normal ?_)
           refine WP.cond rfl (fun hc17 => ?_) (fun hc17 => ?_)
           ·
            replace hm := ite_t hc17 hm
            refine WP.seq (WP.region ?_)
            refine wq rfl rfl rfl (ov_assign rfl rfl) ?_
            refine WL.nil (then_normal (WP.ret (then_ret ?_)))
            refine retQ_ret (v := (.int .i64 14)) Tryz.results57 (Res.tmp rfl Res.nil) rfl (fun w' s => ⟨_, ?_, s⟩)
            refine ⟨fun w' s => (s.select [4, 5] (by decide) rfl), ?_⟩
            refine tq (i := 8) rfl (by kernel_rfl) rfl rfl rfl (ov_assign rfl rfl) ?_
            refine AL.done (by kernel_rfl) ?_
            refine then_normal ?_
            exact ⟨14, p_m.cycles, l3, ao5, cap5, xs3, rl3, (Sub.cons rfl (Sub.cons rfl (Sub.cons rfl (Sub.cons rfl (Sub.nil _))))), fun w' s => (s.select [2, 3, 4] (by decide) rfl), hm⟩
           ·
            replace hm := ite_f hc17 hm
            refine WP.skip (then_normal (WP.seq (WP.region ?_)))
            refine wq rfl rfl rfl (ov_move rfl rfl) ?_
            refine wq rfl rfl rfl (ov_nilCheckB rfl rfl) ?_
            refine wq rfl rfl rfl (ov_fieldAddr Tryz.underlying36 rfl rfl rfl Tryz.sizeOf34 rfl rfl) ?_
            refine wq rfl rfl rfl (ov_load_box (i := 2) Tryz.isAgg34 rfl rfl rfl rfl) ?_
            refine wq rfl rfl rfl (ov_move rfl rfl) ?_
            refine wq rfl rfl rfl (ov_indexAddr_own (i := 3) Tryz.underlying34 Tryz.sizeOf61 rfl rfl rfl rfl h33 h34) ?_
            refine wq rfl rfl rfl (ov_fieldAddrE Tryz.underlying61 rfl rfl rfl Tryz.sizeOf4 rfl rfl) ?_
            have rl15 := RL.set rl3 (y := (Item.mk x3.name x3.life x3.used x3.faults false x3.since x3.cycles)) (off := 4) (vs := [(.bool false)]) e13 h37 rfl (Nat.le_of_ble_eq_true rfl)
            have e14 := at?_set (y := (Item.mk x3.name x3.life x3.used x3.faults false x3.since x3.cycles)) e13
            refine WL.step0 (Runs.free rfl) rfl (os_store_own (i := 3) (vs := [(.bool false)]) Tryz.sizeOf4 rfl rfl rfl rfl (own_pos h33 h34) rfl rfl (elem_le (off := 4) h35 (Nat.le_of_ble_eq_true rfl)) rfl ?_)
            rw [show l3.length = (List.set l3 (Int.toNat r1.1) (Item.mk x3.name x3.life x3.used x3.faults false x3.since x3.cycles)).length from List.length_set.symm]
            obtain ⟨h38, h39, h40, cs8, h41, h42⟩ := rl15.get e14
            obtain rfl : cs8 = [(mkS x3.name), (.int .i64 x3.life), (.int .i64 x3.used), (.int .i64 x3.faults), (.bool false), (.int .i64 x3.since), (.int .i64 x3.cycles)] := h41
            refine WL.nil (then_normal (WP.seq (WP.region ?_)))
            refine wq rfl rfl rfl (ov_assign rfl rfl) ?_
            refine WL.nil (then_normal (WP.ret ?_))
            refine retQ_ret (v := (.int .i64 0)) Tryz.results57 (Res.tmp rfl Res.nil) rfl (fun w' s => ⟨_, ?_, s⟩)
            refine ⟨fun w' s => (s.select [4, 5] (by decide) rfl), ?_⟩
            refine tq (i := 8) rfl (by kernel_rfl) rfl rfl rfl (ov_assign rfl rfl) ?_
            refine AL.done (by kernel_rfl) ?_
            refine then_normal ?_
            exact ⟨0, p_m.cycles, (List.set l3 (Int.toNat r1.1) (Item.mk x3.name x3.life x3.used x3.faults false x3.since x3.cycles)), ao5, cap5, (spl xs3 (Int.toNat r1.1 * encItem.size + 4) [(.bool false)]), rl15, (Sub.cons rfl (Sub.cons rfl (Sub.cons rfl (Sub.cons rfl (Sub.nil _))))), fun w' s => (s.select [2, 3, 4] (by decide) rfl), hm⟩
          exact ALs.nil
         ·
          replace hm := ite_f hc16 hm
          rcases Bool.eq_false_or_eq_true (p_x.kind == 4) with hc18 | hc18
          ·
           replace hm := ite_t hc18 hm
           refine tq (i := 3) rfl (by kernel_rfl) rfl rfl rfl (ov_index_at (j := 4) (cs := [(mkS [112, 97, 114, 116]), (.bool true), (.bool false), (.func (.func 54) #[] #[]), (mkS [99, 121, 99, 108, 101, 115]), (.bool true), (.bool true), (.func (.func 55) #[] #[]), (mkS [102, 97, 117, 108, 116]), (.bool false), (.bool false), (.func (.func 56) #[] #[]), (mkS [114, 101, 112, 97, 105, 114]), (.bool false), (.bool false), (.func (.func 57) #[] #[]), (mkS [114, 101, 112, 108, 97, 99, 101]), (.bool true), (.bool false), (.func (.func 58) #[] #[]), (mkS [114, 101, 109, 111, 118, 101]), (.bool false), (.bool false), (.func (.func 59) #[] #[])]) (r := (.agg #[(mkS [114, 101, 112, 108, 97, 99, 101]), (.bool true), (.bool false), (.func (.func 58) #[] #[])])) (eq_of_beq hc18) rfl rfl rfl (fun _ => by kernel_rfl)) ?_
           refine tq (i := 4) rfl (by kernel_rfl) rfl rfl rfl (ov_field (cs := [(mkS [114, 101, 112, 108, 97, 99, 101]), (.bool true), (.bool false), (.func (.func 58) #[] #[])]) (r := (.func (.func 58) #[] #[])) rfl rfl (fun _ => by kernel_rfl)) ?_
           refine AL.any (rs := [7]) (by kernel_rfl) (by decide) ?_
           refine ALs.cons (i := 7) rfl (Runs.free rfl) rfl rfl ?_ ?_
           ·
            skip
            refine os_inline (cap := []) (vs := [(pB b6 0), (.int .i64 r1.1), (.agg #[(.int .i64 p_x.kind), (mkS p_x.name), (.int .i64 p_x.count), (.int .i64 p_x.strokes)])]) Tryz.call58 rfl rfl rfl Tryz.func58 rfl 16 Tryz.ntmps58 rfl (fun w' s => ?_)
            refine WP.seq (WP.region ?_)
            refine WL.step (Runs.free rfl) rfl rfl (os_box (cs := [(.int .i64 p_x.kind), (mkS p_x.name), (.int .i64 p_x.count), (.int .i64 p_x.strokes)]) rfl rfl rfl (fun b19 => ?_))
            refine wq rfl rfl rfl (ov_assign rfl rfl) ?_
            refine WL.nil (then_normal ?_)
            obtain ⟨k4, hk4, hm⟩ := joinK_some hm
            refine WP.seq_join (fun g' S' => ∃ (l8 : (List Item)) (ao10 : Option Addr) (cap10 : Nat) (xs5 : List Value), RL H encItem l8 xs5 ∧ Sub [(1000000007, (.bool false))] g' ∧ (∀ w', S' w' → St w H [.blk b6 36 [(.slice ao10 l8.length cap10), (.int .i64 p_m.cycles)], .row 61 (encItem).size l8.length (.slice ao10 l8.length cap10) xs5, .blk b3 36 [(.slice none 0 0), (.int .i64 0)], .blk b2 24 [(.int .i64 p_x.kind), (mkS p_x.name), (.int .i64 p_x.count), (.int .i64 p_x.strokes)]] H w') ∧ k4 l8 = some r) ?_ ?_
            ·
             skip
             refine WP.region_any (S₀ := St w H [.blk b19 24 [(.int .i64 p_x.kind), (mkS p_x.name), (.int .i64 p_x.count), (.int .i64 p_x.strokes)], .blk b7 88 [(mkS [112, 97, 114, 116]), (.bool true), (.bool false), (.func (.func 54) #[] #[]), (mkS [99, 121, 99, 108, 101, 115]), (.bool true), (.bool true), (.func (.func 55) #[] #[]), (mkS [102, 97, 117, 108, 116]), (.bool false), (.bool false), (.func (.func 56) #[] #[]), (mkS [114, 101, 112, 97, 105, 114]), (.bool false), (.bool false), (.func (.func 57) #[] #[]), (mkS [114, 101, 112, 108, 97, 99, 101]), (.bool true), (.bool false), (.func (.func 58) #[] #[]), (mkS [114, 101, 109, 111, 118, 101]), (.bool false), (.bool false), (.func (.func 59) #[] #[])], .blk b3 36 [(.slice none 0 0), (.int .i64 0)], .blk b2 24 [(.int .i64 p_x.kind), (mkS p_x.name), (.int .i64 p_x.count), (.int .i64 p_x.strokes)]] H) 10 rfl (by kernel_rfl) (fun w' s => (s.select [0, 1, 4, 5] (by decide) rfl)) (fun _ s => s.drew) ?_
             refine tq (i := 0) rfl (by kernel_rfl) rfl rfl rfl (ov_move rfl rfl) ?_
             refine tq (i := 1) rfl (by kernel_rfl) rfl rfl rfl (ov_nilCheckB rfl rfl) ?_
             refine tq (i := 2) rfl (by kernel_rfl) rfl rfl rfl (ov_fieldAddr Tryz.underlying36 rfl rfl rfl Tryz.sizeOf34 rfl rfl) ?_
             refine tq (i := 4) rfl (by kernel_rfl) rfl rfl rfl (ov_move rfl rfl) ?_
             refine tq (i := 5) rfl (by kernel_rfl) rfl rfl rfl (ov_move rfl rfl) ?_
             refine tq (i := 6) rfl (by kernel_rfl) rfl rfl rfl (ov_load_whole (i := 0) Tryz.isAgg24 Tryz.sizeOf24 rfl rfl rfl rfl) ?_
             refine AL.any (rs := [3, 7]) (by kernel_rfl) (by decide) ?_
             refine ALs.cons (i := 3) rfl (Runs.free rfl) rfl rfl ?_ ?_
             ·
              skip
              refine OQ.step (OV.quiet (ov_load_box (i := 2) Tryz.isAgg34 rfl rfl rfl rfl)) ?_
              refine ⟨fun w' s => (s.select [0, 1, 4, 5] (by decide) rfl), ?_⟩
              refine AL.any (rs := [7]) (by kernel_rfl) (by decide) ?_
              refine ALs.cons (i := 7) rfl (Runs.free rfl) rfl rfl ?_ ?_
              ·
               skip
               refine os_inline (cap := []) (vs := [(pB b6 0), (.agg #[(.int .i64 p_x.kind), (mkS p_x.name), (.int .i64 p_x.count), (.int .i64 p_x.strokes)])]) Tryz.call71 rfl rfl rfl Tryz.func71 rfl 14 Tryz.ntmps71 rfl (fun w' s => ?_)
               refine WP.seq (WP.region ?_)
               refine WL.step (Runs.free rfl) rfl rfl (os_box (cs := [(.int .i64 p_x.kind), (mkS p_x.name), (.int .i64 p_x.count), (.int .i64 p_x.strokes)]) rfl rfl rfl (fun b20 => ?_))
               refine WL.step (Runs.free rfl) rfl rfl (os_alloc (cs := [(mkS []), (.int .i64 0), (.int .i64 0), (.int .i64 0), (.bool false), (.int .i64 0), (.int .i64 0)]) Tryz.zeroValue61 rfl rfl (fun b21 => ?_))
               refine WL.nil (then_normal (WP.seq ?_))
               refine WP.region_any (S₀ := St w H [.blk b20 24 [(.int .i64 p_x.kind), (mkS p_x.name), (.int .i64 p_x.count), (.int .i64 p_x.strokes)], .blk b19 24 [(.int .i64 p_x.kind), (mkS p_x.name), (.int .i64 p_x.count), (.int .i64 p_x.strokes)], .blk b7 88 [(mkS [112, 97, 114, 116]), (.bool true), (.bool false), (.func (.func 54) #[] #[]), (mkS [99, 121, 99, 108, 101, 115]), (.bool true), (.bool true), (.func (.func 55) #[] #[]), (mkS [102, 97, 117, 108, 116]), (.bool false), (.bool false), (.func (.func 56) #[] #[]), (mkS [114, 101, 112, 97, 105, 114]), (.bool false), (.bool false), (.func (.func 57) #[] #[]), (mkS [114, 101, 112, 108, 97, 99, 101]), (.bool true), (.bool false), (.func (.func 58) #[] #[]), (mkS [114, 101, 109, 111, 118, 101]), (.bool false), (.bool false), (.func (.func 59) #[] #[])], .blk b6 36 [(.slice ao5 l3.length cap5), (.int .i64 p_m.cycles)], .row 61 (encItem).size l3.length (.slice ao5 l3.length cap5) xs3, .blk b3 36 [(.slice none 0 0), (.int .i64 0)], .blk b2 24 [(.int .i64 p_x.kind), (mkS p_x.name), (.int .i64 p_x.count), (.int .i64 p_x.strokes)]] H) 10 rfl (by kernel_rfl) (fun w' s => (s.select [1, 2, 3, 4, 5, 6, 7] (by decide) rfl)) (fun _ s => s.drew) ?_
               refine tq (i := 0) rfl (by kernel_rfl) rfl rfl rfl (ov_fieldAddr Tryz.underlying24 rfl rfl rfl Tryz.sizeOf9 rfl rfl) ?_
               refine tq (i := 1) rfl (by kernel_rfl) rfl rfl rfl (ov_load_box (i := 0) Tryz.isAgg9 rfl rfl rfl rfl) ?_
               refine tq (i := 2) rfl (by kernel_rfl) rfl rfl rfl (ov_fieldAddr Tryz.underlying24 rfl rfl rfl Tryz.sizeOf3 rfl rfl) ?_
               refine tq (i := 3) rfl (by kernel_rfl) rfl rfl rfl (ov_load_box (i := 0) Tryz.isAgg3 rfl rfl rfl rfl) ?_
               refine tq (i := 4) rfl (by kernel_rfl) rfl rfl rfl (ov_move rfl rfl) ?_
               refine tq (i := 5) rfl (by kernel_rfl) rfl rfl rfl (ov_nilCheckB rfl rfl) ?_
               refine tq (i := 6) rfl (by kernel_rfl) rfl rfl rfl (ov_fieldAddr Tryz.underlying36 rfl rfl rfl Tryz.sizeOf3 rfl rfl) ?_
               refine tq (i := 7) rfl (by kernel_rfl) rfl rfl rfl (ov_load_box (i := 3) Tryz.isAgg3 rfl rfl rfl rfl) ?_
               refine tq (i := 8) rfl (by kernel_rfl) rfl rfl rfl (ov_build (r := (.agg #[(mkS p_x.name), (.int .i64 p_x.count), (.int .i64 0), (.int .i64 0), (.bool false), (.int .i64 p_m.cycles), (.int .i64 0)])) rfl rfl (fun _ => by kernel_rfl)) ?_
               refine AL.any (rs := [9]) (by kernel_rfl) (by decide) ?_
               refine ALs.cons0 (i := 9) rfl (Runs.free rfl) rfl ?_ ?_
               ·
                skip
                refine os_store (i := 0) (vs := [(mkS p_x.name), (.int .i64 p_x.count), (.int .i64 0), (.int .i64 0), (.bool false), (.int .i64 p_m.cycles), (.int .i64 0)]) (cs' := [(mkS p_x.name), (.int .i64 p_x.count), (.int .i64 0), (.int .i64 0), (.bool false), (.int .i64 p_m.cycles), (.int .i64 0)]) Tryz.sizeOf61 rfl rfl rfl rfl rfl rfl rfl rfl rfl ?_
                refine ⟨fun w' s => (s.select [1, 2, 3, 4, 5, 6, 7] (by decide) rfl), ?_⟩
                refine AL.done (by kernel_rfl) ?_
                refine then_normal (WP.ret ?_)
                refine retQ_ret (v := (.agg #[(mkS p_x.name), (.int .i64 p_x.count), (.int .i64 0), (.int .i64 0), (.bool false), (.int .i64 p_m.cycles), (.int .i64 0)])) Tryz.results71 (Res.cell rfl (box_loads (i := 0) Tryz.isAgg61 Tryz.sizeOf61 rfl rfl) Res.nil) rfl (fun w' s => ⟨_, ?_, s⟩)
                refine ⟨fun w' s => (s.select [2, 3, 6, 7] (by decide) rfl), ?_⟩
                refine AL.any (rs := [8]) (by kernel_rfl) (by decide) ?_
                refine ALs.cons (i := 8) rfl (Runs.free rfl) rfl rfl ?_ ?_
                ·
                 skip
                 obtain ⟨x4, e15, hm⟩ := bind_some hm
                 obtain ⟨h43, h44, h45, cs9, h46, h47⟩ := RL.get rl3 e15
                 obtain rfl : cs9 = [(mkS x4.name), (.int .i64 x4.life), (.int .i64 x4.used), (.int .i64 x4.faults), (.bool x4.faulty), (.int .i64 x4.since), (.int .i64 x4.cycles)] := h46
                 refine OQ.step (OV.quiet (ov_indexAddr_own (i := 5) Tryz.underlying34 Tryz.sizeOf61 rfl rfl rfl rfl h43 h44)) ?_
                 refine ⟨fun w' s => (s.select [2, 3, 6, 7] (by decide) rfl), ?_⟩
                 refine AL.any (rs := [9]) (by kernel_rfl) (by decide) ?_
                 refine ALs.cons0 (i := 9) rfl (Runs.free rfl) rfl ?_ ?_
                 ·
                  skip
                  have rl16 := RL.set rl3 (y := (Item.mk p_x.name p_x.count 0 0 false p_m.cycles 0)) (off := 0) (vs := [(mkS p_x.name), (.int .i64 p_x.count), (.int .i64 0), (.int .i64 0), (.bool false), (.int .i64 p_m.cycles), (.int .i64 0)]) e15 h47 rfl (Nat.le_of_ble_eq_true rfl)
                  have e16 := at?_set (y := (Item.mk p_x.name p_x.count 0 0 false p_m.cycles 0)) e15
                  refine os_store_own (i := 5) (vs := [(mkS p_x.name), (.int .i64 p_x.count), (.int .i64 0), (.int .i64 0), (.bool false), (.int .i64 p_m.cycles), (.int .i64 0)]) Tryz.sizeOf61 rfl rfl rfl rfl (own_pos h43 h44) rfl rfl (elem_le (off := 0) h45 (Nat.le_of_ble_eq_true rfl)) rfl ?_
                  rw [show l3.length = (List.set l3 (Int.toNat r1.1) (Item.mk p_x.name p_x.count 0 0 false p_m.cycles 0)).length from List.length_set.symm]
                  obtain ⟨h48, h49, h50, cs10, h51, h52⟩ := rl16.get e16
                  obtain rfl : cs10 = [(mkS p_x.name), (.int .i64 p_x.count), (.int .i64 0), (.int .i64 0), (.bool false), (.int .i64 p_m.cycles), (.int .i64 0)] := h51
                  refine ⟨fun w' s => (s.select [2, 3, 6, 7] (by decide) rfl), ?_⟩
                  refine AL.done (by kernel_rfl) ?_
                  refine then_normal ?_
                  exact ⟨(List.set l3 (Int.toNat r1.1) (Item.mk p_x.name p_x.count 0 0 false p_m.cycles 0)), ao5, cap5, (spl xs3 (Int.toNat r1.1 * encItem.size + 0) [(mkS p_x.name), (.int .i64 p_x.count), (.int .i64 0), (.int .i64 0), (.bool false), (.int .i64 p_m.cycles), (.int .i64 0)]), rl16, (Sub.cons rfl (Sub.nil _)), fun w' s => (s.select [4, 5, 6, 7] (by decide) rfl), hm⟩
                 exact ALs.nil
                exact ALs.nil
               exact ALs.nil
              exact ALs.nil
             refine ALs.cons (i := 7) rfl (Runs.free rfl) rfl rfl ?_ ?_
             ·
              skip
              refine os_inline (cap := []) (vs := [(pB b6 0), (.agg #[(.int .i64 p_x.kind), (mkS p_x.name), (.int .i64 p_x.count), (.int .i64 p_x.strokes)])]) Tryz.call71 rfl rfl rfl Tryz.func71 rfl 14 Tryz.ntmps71 rfl (fun w' s => ?_)
              refine WP.seq (WP.region ?_)
              refine WL.step (Runs.free rfl) rfl rfl (os_box (cs := [(.int .i64 p_x.kind), (mkS p_x.name), (.int .i64 p_x.count), (.int .i64 p_x.strokes)]) rfl rfl rfl (fun b22 => ?_))
              refine WL.step (Runs.free rfl) rfl rfl (os_alloc (cs := [(mkS []), (.int .i64 0), (.int .i64 0), (.int .i64 0), (.bool false), (.int .i64 0), (.int .i64 0)]) Tryz.zeroValue61 rfl rfl (fun b23 => ?_))
              refine WL.nil (then_normal (WP.seq ?_))
              refine WP.region_any (S₀ := St w H [.blk b22 24 [(.int .i64 p_x.kind), (mkS p_x.name), (.int .i64 p_x.count), (.int .i64 p_x.strokes)], .blk b19 24 [(.int .i64 p_x.kind), (mkS p_x.name), (.int .i64 p_x.count), (.int .i64 p_x.strokes)], .blk b7 88 [(mkS [112, 97, 114, 116]), (.bool true), (.bool false), (.func (.func 54) #[] #[]), (mkS [99, 121, 99, 108, 101, 115]), (.bool true), (.bool true), (.func (.func 55) #[] #[]), (mkS [102, 97, 117, 108, 116]), (.bool false), (.bool false), (.func (.func 56) #[] #[]), (mkS [114, 101, 112, 97, 105, 114]), (.bool false), (.bool false), (.func (.func 57) #[] #[]), (mkS [114, 101, 112, 108, 97, 99, 101]), (.bool true), (.bool false), (.func (.func 58) #[] #[]), (mkS [114, 101, 109, 111, 118, 101]), (.bool false), (.bool false), (.func (.func 59) #[] #[])], .blk b6 36 [(.slice ao5 l3.length cap5), (.int .i64 p_m.cycles)], .row 61 (encItem).size l3.length (.slice ao5 l3.length cap5) xs3, .blk b3 36 [(.slice none 0 0), (.int .i64 0)], .blk b2 24 [(.int .i64 p_x.kind), (mkS p_x.name), (.int .i64 p_x.count), (.int .i64 p_x.strokes)]] H) 10 rfl (by kernel_rfl) (fun w' s => (s.select [1, 2, 3, 4, 5, 6, 7] (by decide) rfl)) (fun _ s => s.drew) ?_
              refine tq (i := 0) rfl (by kernel_rfl) rfl rfl rfl (ov_fieldAddr Tryz.underlying24 rfl rfl rfl Tryz.sizeOf9 rfl rfl) ?_
              refine tq (i := 1) rfl (by kernel_rfl) rfl rfl rfl (ov_load_box (i := 0) Tryz.isAgg9 rfl rfl rfl rfl) ?_
              refine tq (i := 2) rfl (by kernel_rfl) rfl rfl rfl (ov_fieldAddr Tryz.underlying24 rfl rfl rfl Tryz.sizeOf3 rfl rfl) ?_
              refine tq (i := 3) rfl (by kernel_rfl) rfl rfl rfl (ov_load_box (i := 0) Tryz.isAgg3 rfl rfl rfl rfl) ?_
              refine tq (i := 4) rfl (by kernel_rfl) rfl rfl rfl (ov_move rfl rfl) ?_
              refine tq (i := 5) rfl (by kernel_rfl) rfl rfl rfl (ov_nilCheckB rfl rfl) ?_
              refine tq (i := 6) rfl (by kernel_rfl) rfl rfl rfl (ov_fieldAddr Tryz.underlying36 rfl rfl rfl Tryz.sizeOf3 rfl rfl) ?_
              refine tq (i := 7) rfl (by kernel_rfl) rfl rfl rfl (ov_load_box (i := 3) Tryz.isAgg3 rfl rfl rfl rfl) ?_
              refine tq (i := 8) rfl (by kernel_rfl) rfl rfl rfl (ov_build (r := (.agg #[(mkS p_x.name), (.int .i64 p_x.count), (.int .i64 0), (.int .i64 0), (.bool false), (.int .i64 p_m.cycles), (.int .i64 0)])) rfl rfl (fun _ => by kernel_rfl)) ?_
              refine AL.any (rs := [9]) (by kernel_rfl) (by decide) ?_
              refine ALs.cons0 (i := 9) rfl (Runs.free rfl) rfl ?_ ?_
              ·
               skip
               refine os_store (i := 0) (vs := [(mkS p_x.name), (.int .i64 p_x.count), (.int .i64 0), (.int .i64 0), (.bool false), (.int .i64 p_m.cycles), (.int .i64 0)]) (cs' := [(mkS p_x.name), (.int .i64 p_x.count), (.int .i64 0), (.int .i64 0), (.bool false), (.int .i64 p_m.cycles), (.int .i64 0)]) Tryz.sizeOf61 rfl rfl rfl rfl rfl rfl rfl rfl rfl ?_
               refine ⟨fun w' s => (s.select [1, 2, 3, 4, 5, 6, 7] (by decide) rfl), ?_⟩
               refine AL.done (by kernel_rfl) ?_
               refine then_normal (WP.ret ?_)
               refine retQ_ret (v := (.agg #[(mkS p_x.name), (.int .i64 p_x.count), (.int .i64 0), (.int .i64 0), (.bool false), (.int .i64 p_m.cycles), (.int .i64 0)])) Tryz.results71 (Res.cell rfl (box_loads (i := 0) Tryz.isAgg61 Tryz.sizeOf61 rfl rfl) Res.nil) rfl (fun w' s => ⟨_, ?_, s⟩)
               refine ⟨fun w' s => (s.select [2, 3, 6, 7] (by decide) rfl), ?_⟩
               refine AL.any (rs := [3]) (by kernel_rfl) (by decide) ?_
               refine ALs.cons (i := 3) rfl (Runs.free rfl) rfl rfl ?_ ?_
               ·
                skip
                refine OQ.step (OV.quiet (ov_load_box (i := 4) Tryz.isAgg34 rfl rfl rfl rfl)) ?_
                refine ⟨fun w' s => (s.select [2, 3, 6, 7] (by decide) rfl), ?_⟩
                refine AL.any (rs := [8]) (by kernel_rfl) (by decide) ?_
                refine ALs.cons (i := 8) rfl (Runs.free rfl) rfl rfl ?_ ?_
                ·
                 skip
                 obtain ⟨x5, e17, hm⟩ := bind_some hm
                 obtain ⟨h53, h54, h55, cs11, h56, h57⟩ := RL.get rl3 e17
                 obtain rfl : cs11 = [(mkS x5.name), (.int .i64 x5.life), (.int .i64 x5.used), (.int .i64 x5.faults), (.bool x5.faulty), (.int .i64 x5.since), (.int .i64 x5.cycles)] := h56
                 refine OQ.step (OV.quiet (ov_indexAddr_own (i := 5) Tryz.underlying34 Tryz.sizeOf61 rfl rfl rfl rfl h53 h54)) ?_
                 refine ⟨fun w' s => (s.select [2, 3, 6, 7] (by decide) rfl), ?_⟩
                 refine AL.any (rs := [9]) (by kernel_rfl) (by decide) ?_
                 refine ALs.cons0 (i := 9) rfl (Runs.free rfl) rfl ?_ ?_
                 ·
                  skip
                  have rl17 := RL.set rl3 (y := (Item.mk p_x.name p_x.count 0 0 false p_m.cycles 0)) (off := 0) (vs := [(mkS p_x.name), (.int .i64 p_x.count), (.int .i64 0), (.int .i64 0), (.bool false), (.int .i64 p_m.cycles), (.int .i64 0)]) e17 h57 rfl (Nat.le_of_ble_eq_true rfl)
                  have e18 := at?_set (y := (Item.mk p_x.name p_x.count 0 0 false p_m.cycles 0)) e17
                  refine os_store_own (i := 5) (vs := [(mkS p_x.name), (.int .i64 p_x.count), (.int .i64 0), (.int .i64 0), (.bool false), (.int .i64 p_m.cycles), (.int .i64 0)]) Tryz.sizeOf61 rfl rfl rfl rfl (own_pos h53 h54) rfl rfl (elem_le (off := 0) h55 (Nat.le_of_ble_eq_true rfl)) rfl ?_
                  rw [show l3.length = (List.set l3 (Int.toNat r1.1) (Item.mk p_x.name p_x.count 0 0 false p_m.cycles 0)).length from List.length_set.symm]
                  obtain ⟨h58, h59, h60, cs12, h61, h62⟩ := rl17.get e18
                  obtain rfl : cs12 = [(mkS p_x.name), (.int .i64 p_x.count), (.int .i64 0), (.int .i64 0), (.bool false), (.int .i64 p_m.cycles), (.int .i64 0)] := h61
                  refine ⟨fun w' s => (s.select [2, 3, 6, 7] (by decide) rfl), ?_⟩
                  refine AL.done (by kernel_rfl) ?_
                  refine then_normal ?_
                  exact ⟨(List.set l3 (Int.toNat r1.1) (Item.mk p_x.name p_x.count 0 0 false p_m.cycles 0)), ao5, cap5, (spl xs3 (Int.toNat r1.1 * encItem.size + 0) [(mkS p_x.name), (.int .i64 p_x.count), (.int .i64 0), (.int .i64 0), (.bool false), (.int .i64 p_m.cycles), (.int .i64 0)]), rl17, (Sub.cons rfl (Sub.nil _)), fun w' s => (s.select [4, 5, 6, 7] (by decide) rfl), hm⟩
                 exact ALs.nil
                exact ALs.nil
               exact ALs.nil
              exact ALs.nil
             exact ALs.nil
            ·
             rintro g' S' ⟨l8, ao10, cap10, xs5, rl18, hsub3, hS3, hm⟩
             refine WP.sub hsub3 (WP.weaken hS3 ?_)
             replace hm := (congrFun hk4 l8).symm.trans hm
             refine WP.seq (WP.region ?_)
             refine wq rfl rfl rfl (ov_assign rfl rfl) ?_
             refine WL.nil (then_normal (WP.ret ?_))
             refine retQ_ret (v := (.int .i64 0)) Tryz.results58 (Res.tmp rfl Res.nil) rfl (fun w' s => ⟨_, ?_, s⟩)
             refine ⟨fun w' s => (s.select [2, 3] (by decide) rfl), ?_⟩
             refine tq (i := 8) rfl (by kernel_rfl) rfl rfl rfl (ov_assign rfl rfl) ?_
             refine AL.done (by kernel_rfl) ?_
             refine then_normal ?_
             exact ⟨0, p_m.cycles, l8, ao10, cap10, xs5, rl18, (Sub.cons rfl (Sub.cons rfl (Sub.cons rfl (Sub.cons rfl (Sub.nil _))))), fun w' s => (s.select [0, 1, 2] (by decide) rfl), hm⟩
           exact ALs.nil
          ·
           replace hm := ite_f hc18 hm
           rcases Bool.eq_false_or_eq_true (p_x.kind == 5) with hc19 | hc19
           ·
            replace hm := ite_t hc19 hm
            refine tq (i := 3) rfl (by kernel_rfl) rfl rfl rfl (ov_index_at (j := 5) (cs := [(mkS [112, 97, 114, 116]), (.bool true), (.bool false), (.func (.func 54) #[] #[]), (mkS [99, 121, 99, 108, 101, 115]), (.bool true), (.bool true), (.func (.func 55) #[] #[]), (mkS [102, 97, 117, 108, 116]), (.bool false), (.bool false), (.func (.func 56) #[] #[]), (mkS [114, 101, 112, 97, 105, 114]), (.bool false), (.bool false), (.func (.func 57) #[] #[]), (mkS [114, 101, 112, 108, 97, 99, 101]), (.bool true), (.bool false), (.func (.func 58) #[] #[]), (mkS [114, 101, 109, 111, 118, 101]), (.bool false), (.bool false), (.func (.func 59) #[] #[])]) (r := (.agg #[(mkS [114, 101, 109, 111, 118, 101]), (.bool false), (.bool false), (.func (.func 59) #[] #[])])) (eq_of_beq hc19) rfl rfl rfl (fun _ => by kernel_rfl)) ?_
            refine tq (i := 4) rfl (by kernel_rfl) rfl rfl rfl (ov_field (cs := [(mkS [114, 101, 109, 111, 118, 101]), (.bool false), (.bool false), (.func (.func 59) #[] #[])]) (r := (.func (.func 59) #[] #[])) rfl rfl (fun _ => by kernel_rfl)) ?_
            refine AL.any (rs := [7]) (by kernel_rfl) (by decide) ?_
            refine ALs.cons (i := 7) rfl (Runs.free rfl) rfl rfl ?_ ?_
            ·
             skip
             refine os_inline (cap := []) (vs := [(pB b6 0), (.int .i64 r1.1), (.agg #[(.int .i64 p_x.kind), (mkS p_x.name), (.int .i64 p_x.count), (.int .i64 p_x.strokes)])]) Tryz.call59 rfl rfl rfl Tryz.func59 rfl 18 Tryz.ntmps59 rfl (fun w' s => ?_)
             refine WP.seq (WP.region ?_)
             refine WL.step (Runs.free rfl) rfl rfl (os_box (cs := [(.int .i64 p_x.kind), (mkS p_x.name), (.int .i64 p_x.count), (.int .i64 p_x.strokes)]) rfl rfl rfl (fun b24 => ?_))
             refine wq rfl rfl rfl (ov_assign rfl rfl) ?_
             refine WL.nil (then_normal (WP.seq (WP.region ?_)))
             refine wq rfl rfl rfl (ov_move rfl rfl) ?_
             refine wq rfl rfl rfl (ov_move rfl rfl) ?_
             refine wq rfl rfl rfl (ov_nilCheckB rfl rfl) ?_
             refine wq rfl rfl rfl (ov_fieldAddr Tryz.underlying36 rfl rfl rfl Tryz.sizeOf34 rfl rfl) ?_
             refine wq rfl rfl rfl (ov_load_box (i := 2) Tryz.isAgg34 rfl rfl rfl rfl) ?_
             refine wq rfl rfl rfl (ov_move rfl rfl) ?_
             refine wq rfl rfl rfl (ov_move rfl rfl) ?_
             refine wq rfl rfl rfl (ov_add rfl rfl rfl) ?_
             obtain ⟨l9, e19, hm⟩ := bind_some hm
             refine WL.step (Runs.free rfl) rfl rfl (os_delete (i := 3) rfl rfl rfl rfl rfl rl3 e19 (fun ao11 cap11 ys4 rl19 => ?_))
             refine wq rfl rfl rfl (ov_nilCheckB rfl rfl) ?_
             refine wq rfl rfl rfl (ov_fieldAddr Tryz.underlying36 rfl rfl rfl Tryz.sizeOf34 rfl rfl) ?_
             refine WL.step0 (Runs.free rfl) rfl (os_store (i := 2) (vs := [(.slice ao11 l9.length cap11)]) (cs' := [(.slice ao11 l9.length cap11), (.int .i64 p_m.cycles)]) Tryz.sizeOf34 rfl rfl rfl rfl rfl rfl rfl rfl rfl ?_)
             refine WL.nil (then_normal (WP.seq (WP.region ?_)))
             refine wq rfl rfl rfl (ov_assign rfl rfl) ?_
             refine WL.nil (then_normal (WP.ret ?_))
             refine retQ_ret (v := (.int .i64 0)) Tryz.results59 (Res.tmp rfl Res.nil) rfl (fun w' s => ⟨_, ?_, s⟩)
             refine ⟨fun w' s => (s.select [4, 5] (by decide) rfl), ?_⟩
             refine tq (i := 8) rfl (by kernel_rfl) rfl rfl rfl (ov_assign rfl rfl) ?_
             refine AL.done (by kernel_rfl) ?_
             refine then_normal ?_
             exact ⟨0, p_m.cycles, l9, ao11, cap11, ys4, rl19, (Sub.cons rfl (Sub.cons rfl (Sub.cons rfl (Sub.cons rfl (Sub.nil _))))), fun w' s => (s.select [2, 3, 4] (by decide) rfl), hm⟩
            exact ALs.nil
           ·
            replace hm := ite_f hc19 hm
            exact (none_some hm).elim
     exact ALs.nil
    ·
     rintro g' S' ⟨i1, i2, l10, ao12, cap12, xs6, rl20, hsub4, hS4, hm⟩
     refine WP.sub hsub4 (WP.weaken hS4 ?_)
     replace hm := (congrFun (congrFun (congrFun hk2 i1) i2) l10).symm.trans hm
     refine WP.seq (WP.region ?_)
     refine wq rfl rfl rfl (ov_move rfl rfl) ?_
     refine wq rfl rfl rfl (ov_neq rfl rfl rfl) ?_
     refine WL.nil (then_normal ?_)
     refine WP.cond rfl (fun hc20 => ?_) (fun hc20 => ?_)
     ·
      replace hm := ite_t hc20 hm
      refine WP.seq (WP.region ?_)
      refine wq rfl rfl rfl (ov_build (r := (.agg #[(.slice none 0 0), (.int .i64 0)])) rfl rfl (fun _ => by kernel_rfl)) ?_
      refine wq rfl rfl rfl (ov_move rfl rfl) ?_
      refine WL.step0 (Runs.free rfl) rfl (os_store (i := 2) (vs := [(.slice none 0 0), (.int .i64 0)]) (cs' := [(.slice none 0 0), (.int .i64 0)]) Tryz.sizeOf36 rfl rfl rfl rfl rfl rfl rfl rfl rfl ?_)
      refine wq rfl rfl rfl (ov_assign rfl rfl) ?_
      refine WL.nil (then_normal (WP.ret (then_ret ?_)))
      obtain rfl := Option.some.inj hm
      refine retQ_ret Tryz.results21 (Res.cell rfl (box_loads (i := 2) Tryz.isAgg36 Tryz.sizeOf36 rfl rfl) (Res.tmp rfl Res.nil)) rfl (fun w' s => ⟨s.below, ?_⟩)
      exact ⟨none, 0, rfl, SL.nil _ _ _, Nat.le_refl _⟩
     ·
      replace hm := ite_f hc20 hm
      refine WP.skip (then_normal (WP.seq (WP.region ?_)))
      refine wq rfl rfl rfl (ov_load_whole (i := 0) Tryz.isAgg36 Tryz.sizeOf36 rfl rfl rfl rfl) ?_
      refine WL.step0 (Runs.free rfl) rfl (os_store (i := 2) (vs := [(.slice ao12 l10.length cap12), (.int .i64 i2)]) (cs' := [(.slice ao12 l10.length cap12), (.int .i64 i2)]) Tryz.sizeOf36 rfl rfl rfl rfl rfl rfl rfl rfl rfl ?_)
      refine wq rfl rfl rfl (ov_assign rfl rfl) ?_
      refine WL.nil (then_normal (WP.ret ?_))
      obtain rfl := Option.some.inj hm
      refine retQ_ret Tryz.results21 (Res.cell rfl (box_loads (i := 2) Tryz.isAgg36 Tryz.sizeOf36 rfl rfl) (Res.tmp rfl Res.nil)) rfl (fun w' s => ⟨s.below, ?_⟩)
      obtain ⟨h63, hc21⟩ := s.ret_row (i := 1) rfl rl20
      exact ⟨ao12, cap12, rfl, h63, hc21⟩

end Go.Proofs.YtpocodofhkaddaaGreatDoor.W
