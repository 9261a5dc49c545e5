import Derived.Test.YtgpfgnpdbmbknaaGreatDoorPlain
import Derived.Test.YtgpfgnpdbmbknaaGreatDoorEqs
import Derived.Test.YtgpfgnpdbmbknaaGreatDoorProg
import Derived.Test.YtgpfgnpdbmbknaaGreatDoorExt
import Derived.Test.YtgpfgnpdbmbknaaGreatDoorClone
import Derived.Test.YtgpfgnpdbmbknaaGreatDoorSort
import Derived.Test.YtgpfgnpdbmbknaaGreatDoorWalk0
import Derived.Test.YtgpfgnpdbmbknaaGreatDoorWalk2
set_option linter.unusedVariables false
set_option maxRecDepth 100000
set_option maxHeartbeats 4000000
namespace Go.Proofs.YtgpfgnpdbmbknaaGreatDoor.W
open Go Go.RowKit Go.Proofs.Tryz
theorem program_reader_takes_con (p_r : Rdr) (p_kind : Int) (p_text : (List UInt8)) (bp1 : Nat) (ao1 : Option Addr) (cap1 : Nat) (w0 : World) (H0 : Heap) (tl : List Ent) (H : Heap) (h1 : SL H encToken ao1 p_r.tokens) (hc1 : p_r.tokens.length ≤ cap1) (hG : Glob H) (r : (Bool × Int × Bool)) (hm : program_reader_takes p_r p_kind p_text = some r) :
  BCon prog 84 [(pB bp1 0), (.int .i64 p_kind), (mkS p_text)] w0 H0 (.blk bp1 86 [(.slice ao1 p_r.tokens.length cap1), (.int .i64 p_r.at_), (.bool p_r.bad)] :: tl) H (fun v _ ms' => v = (.bool r.1) ∧ ms' = (.blk bp1 86 [(.slice ao1 p_r.tokens.length cap1), (.int .i64 r.2.1), (.bool r.2.2)] :: tl)) := by
 unfold program_reader_takes at hm
 refine bcon_of func84 rfl 37 ntmps84 rfl ?_
 refine WP.seq (WP.region (Va rfl (WL.nil (tn (WP.seq (WP.region (Vm rfl ?_)))))))
 refine ws rfl (os_inline (cap := []) (vs := [(pB bp1 0)]) call46 rfl rfl rfl func46 rfl 13 ntmps46 rfl (fun w' s => ?_))
 refine WP.seq (WP.region ?_)
 refine ws rfl (os_alloc (cs := [(.int .i64 0), (mkS []), (.int .i64 0)]) zeroValue89 rfl rfl (fun b1 => ?_))
 refine WL.nil (tn (WP.seq ?_))
 refine WP.region_any (S₀ := St w0 H0 (.blk bp1 86 [(.slice ao1 p_r.tokens.length cap1), (.int .i64 p_r.at_), (.bool p_r.bad)] :: tl) H) 11 rfl (by kernel_rfl) (fun w' s => (s.selectT 2 [1] (by decide) rfl rfl)) (fun _ s => s.drew) ?_
 refine TQ 0 (by kernel_rfl) rfl (ov_move rfl rfl) (TQ 1 (by kernel_rfl) rfl (ov_nilCheckB rfl rfl) (TQ 2 (by kernel_rfl) rfl (ov_fieldAddr underlying86 rfl rfl rfl sizeOf81 rfl rfl) (TQ 3 (by kernel_rfl) rfl (ov_load_box (i := 0) isAgg81 rfl rfl rfl rfl) (TQ 4 (by kernel_rfl) rfl (ov_move rfl rfl) (TQ 5 (by kernel_rfl) rfl (ov_nilCheckB rfl rfl) (TQ 6 (by kernel_rfl) rfl (ov_fieldAddr underlying86 rfl rfl rfl sizeOf3 rfl rfl) (TQ 7 (by kernel_rfl) rfl (ov_load_box (i := 0) isAgg3 rfl rfl rfl rfl) ?_)))))))
 obtain ⟨x1, e1, hm⟩ := bind_some hm
 obtain ⟨h2, h3, h4, cs1, h5, h6⟩ := h1.get e1 (by decide)
 obtain rfl : cs1 = [(.int .i64 x1.kind), (mkS x1.text), (.int .i64 x1.at_)] := h5
 refine TQ 8 (by kernel_rfl) rfl (ov_indexAddr underlying81 sizeOf89 rfl rfl rfl h2 h3 h4) (TQ 9 (by kernel_rfl) rfl (ov_load_elems (vs := [(.int .i64 x1.kind), (mkS x1.text), (.int .i64 x1.at_)]) isAgg89 sizeOf89 rfl rfl rfl h6 h4) ?_)
 refine AL.any (rs := [10]) (by kernel_rfl) (by decide) ?_
 refine ALs.cons0 (i := 10) rfl (Runs.free rfl) rfl ?_ ?_
 ·
  refine os_store (i := 0) (vs := [(.int .i64 x1.kind), (mkS x1.text), (.int .i64 x1.at_)]) (cs' := [(.int .i64 x1.kind), (mkS x1.text), (.int .i64 x1.at_)]) sizeOf89 rfl rfl rfl rfl rfl rfl rfl rfl rfl ?_
  refine ⟨fun w' s => (s.selectT 2 [1] (by decide) rfl rfl), ?_⟩
  refine AL.done (by kernel_rfl) ?_
  refine tn (WP.ret ?_)
  refine retQ_ret (v := (.agg #[(.int .i64 x1.kind), (mkS x1.text), (.int .i64 x1.at_)])) results46 (Res.cell rfl (box_loads (i := 0) isAgg89 sizeOf89 rfl rfl) Res.nil) rfl (fun w' s => ⟨_, ?_, s⟩)
  refine ws rfl (os_alloc (cs := [(.int .i64 0), (mkS []), (.int .i64 0)]) zeroValue89 rfl rfl (fun b2 => ?_))
  refine ws0 rfl (os_store (i := 0) (vs := [(.int .i64 x1.kind), (mkS x1.text), (.int .i64 x1.at_)]) (cs' := [(.int .i64 x1.kind), (mkS x1.text), (.int .i64 x1.at_)]) sizeOf89 rfl rfl rfl rfl rfl rfl rfl rfl rfl ?_)
  refine WL.nil (tn (WP.seq (WP.seq (WP.region (Vm rfl (V rfl (ov_nilCheckB rfl rfl) (V rfl (ov_fieldAddr underlying86 rfl rfl rfl sizeOf4 rfl rfl) (Vl 2 isAgg4 rfl (Vm rfl ?_)))))))))
  refine WL.cut_bool 5 19 (x := (p_r.bad || (x1.kind != p_kind))) ?_ ?_
  ·
   rcases Bool.eq_false_or_eq_true p_r.bad with hc2 | hc2
   ·
    refine Vi rfl (Idle.no rfl rfl rfl hc2) (Vi rfl (Idle.no rfl rfl rfl hc2) (Vi rfl (Idle.no rfl rfl rfl hc2) (Vi rfl (Idle.no rfl rfl rfl hc2) (V rfl (ov_pick_true rfl (guard_eq rfl hc2) rfl) ?_))))
    exact WL.nil ⟨Sub.cons' rfl (congrArg Value.bool (orT hc2)) (Sub.dropn 5 rfl), fun _ s => s⟩
   refine wy hc2 rfl (ov_fieldAddr underlying89 rfl rfl rfl sizeOf3 rfl rfl) ?_
   refine wy hc2 rfl (ov_load_box (i := 0) isAgg3 rfl rfl rfl rfl) ?_
   refine wy hc2 rfl (ov_move rfl rfl) ?_
   refine wy hc2 rfl (ov_neq rfl rfl rfl) ?_
   refine V rfl (ov_pick_false rfl (guard_eq rfl hc2) rfl) ?_
   exact WL.nil ⟨Sub.cons' rfl (congrArg Value.bool (orF hc2)) (Sub.dropn 5 rfl), fun _ s => s⟩
  refine Vm rfl ?_
  refine WL.cut_bool 9 29 (x := ((p_r.bad || (x1.kind != p_kind)) || ((!(p_text == [])) && (!(x1.text == p_text))))) ?_ ?_
  ·
   rcases Bool.eq_false_or_eq_true (p_r.bad || (x1.kind != p_kind)) with hc3 | hc3
   ·
    refine Vi rfl (Idle.no rfl rfl rfl hc3) (Vi rfl (Idle.no rfl rfl rfl hc3) (Vi rfl (Idle.no rfl rfl rfl hc3) (Vi rfl (Idle.undef rfl rfl rfl) (Vi rfl (Idle.undef rfl rfl rfl) (Vi rfl (Idle.undef rfl rfl rfl) (Vi rfl (Idle.undef rfl rfl rfl) (Vi rfl (Idle.no rfl rfl rfl hc3) (V rfl (ov_pick_true rfl (guard_eq rfl hc3) rfl) ?_))))))))
    exact WL.nil ⟨Sub.cons' rfl (congrArg Value.bool (orT hc3)) (Sub.dropn 9 rfl), fun _ s => s⟩
   refine wy hc3 rfl (ov_move rfl rfl) ?_
   refine wy hc3 rfl (ov_sneq rfl rfl rfl) ?_
   refine wy hc3 rfl (ov_move rfl rfl) ?_
   refine WL.cut_bool 5 28 (x := ((!(p_text == [])) && (!(x1.text == p_text)))) ?_ ?_
   ·
    rcases Bool.eq_false_or_eq_true (!(p_text == [])) with hc4 | hc4
    ·
     refine wy hc4 rfl (ov_fieldAddr underlying89 rfl rfl rfl sizeOf9 rfl rfl) ?_
     refine wy hc4 rfl (ov_load_box (i := 0) isAgg9 rfl rfl rfl rfl) ?_
     refine wy hc4 rfl (ov_move rfl rfl) ?_
     refine wy hc4 rfl (ov_sneq rfl rfl rfl) ?_
     refine wy hc3 rfl (ov_pick_true rfl (guard_eq rfl hc4) rfl) ?_
     exact WL.nil ⟨Sub.cons' rfl (congrArg Value.bool (andT hc4)) (Sub.dropn 5 rfl), fun _ s => s⟩
    refine Vi rfl (Idle.no rfl rfl rfl hc4) (Vi rfl (Idle.no rfl rfl rfl hc4) (Vi rfl (Idle.no rfl rfl rfl hc4) (Vi rfl (Idle.no rfl rfl rfl hc4) ?_)))
    refine wy hc3 rfl (ov_pick_false rfl (guard_eq rfl hc4) rfl) ?_
    exact WL.nil ⟨Sub.cons' rfl (congrArg Value.bool (andF hc4)) (Sub.dropn 5 rfl), fun _ s => s⟩
   refine V rfl (ov_pick_false rfl (guard_eq rfl hc3) rfl) ?_
   exact WL.nil ⟨Sub.cons' rfl (congrArg Value.bool (orF hc3)) (Sub.dropn 5 rfl), fun _ s => s⟩
  refine WL.nil (tn ?_)
  refine WP.cond rfl (fun hc5 => ?_) (fun hc5 => ?_)
  ·
   replace hm := ite_t hc5 hm
   refine WP.seq (WP.region (Va rfl (WL.nil (tn (WP.ret (then_ret ?_))))))
   obtain rfl := Option.some.inj hm
   refine retQ_ret results84 (Res.tmp rfl Res.nil) rfl (fun w' s => ?_)
   exact ⟨H, _, (Le.refl _), ⟨rfl, rfl⟩, (s.selectT 3 [2] (by decide) rfl rfl)⟩
  replace hm := ite_f hc5 hm
  refine WP.skip (tn (WP.seq (WP.region (Vm rfl (V rfl (ov_nilCheckB rfl rfl) (V rfl (ov_fieldAddr underlying86 rfl rfl rfl sizeOf3 rfl rfl) (Vl 2 isAgg3 rfl (V rfl (ov_add rfl rfl rfl) (V rfl (ov_nilCheckB rfl rfl) (V rfl (ov_fieldAddr underlying86 rfl rfl rfl sizeOf3 rfl rfl) ?_))))))))))
  refine ws0 rfl (os_store (i := 2) (vs := [(.int .i64 (IntKind.wrap .i64 (p_r.at_ + 1)))]) (cs' := [(.slice ao1 p_r.tokens.length cap1), (.int .i64 (IntKind.wrap .i64 (p_r.at_ + 1))), (.bool p_r.bad)]) sizeOf3 rfl rfl rfl rfl rfl rfl rfl rfl rfl ?_)
  refine WL.nil (tn (WP.seq (WP.region (Va rfl (WL.nil (tn (WP.ret ?_)))))))
  obtain rfl := Option.some.inj hm
  refine retQ_ret results84 (Res.tmp rfl Res.nil) rfl (fun w' s => ?_)
  exact ⟨H, _, (Le.refl _), ⟨rfl, rfl⟩, (s.selectT 3 [2] (by decide) rfl rfl)⟩
 exact ALs.nil
theorem program_reader_needs_con (p_r : Rdr) (p_kind : Int) (p_text : (List UInt8)) (bp1 : Nat) (ao1 : Option Addr) (cap1 : Nat) (w0 : World) (H0 : Heap) (tl : List Ent) (H : Heap) (h1 : SL H encToken ao1 p_r.tokens) (hc1 : p_r.tokens.length ≤ cap1) (hG : Glob H) (r : ((List UInt8) × Int × Bool)) (hm : program_reader_needs p_r p_kind p_text = some r) :
  BCon prog 85 [(pB bp1 0), (.int .i64 p_kind), (mkS p_text)] w0 H0 (.blk bp1 86 [(.slice ao1 p_r.tokens.length cap1), (.int .i64 p_r.at_), (.bool p_r.bad)] :: tl) H (fun v _ ms' => v = (mkS r.1) ∧ ms' = (.blk bp1 86 [(.slice ao1 p_r.tokens.length cap1), (.int .i64 r.2.1), (.bool r.2.2)] :: tl)) := by
 unfold program_reader_needs at hm
 refine bcon_of func85 rfl 20 ntmps85 rfl ?_
 refine WP.seq (WP.region (Va rfl (WL.nil (tn (WP.seq (WP.region (Vm rfl ?_)))))))
 refine ws rfl (os_inline (cap := []) (vs := [(pB bp1 0)]) call46 rfl rfl rfl func46 rfl 13 ntmps46 rfl (fun w' s => ?_))
 refine WP.seq (WP.region ?_)
 refine ws rfl (os_alloc (cs := [(.int .i64 0), (mkS []), (.int .i64 0)]) zeroValue89 rfl rfl (fun b1 => ?_))
 refine WL.nil (tn (WP.seq ?_))
 refine WP.region_any (S₀ := St w0 H0 (.blk bp1 86 [(.slice ao1 p_r.tokens.length cap1), (.int .i64 p_r.at_), (.bool p_r.bad)] :: tl) H) 11 rfl (by kernel_rfl) (fun w' s => (s.selectT 2 [1] (by decide) rfl rfl)) (fun _ s => s.drew) ?_
 refine TQ 0 (by kernel_rfl) rfl (ov_move rfl rfl) (TQ 1 (by kernel_rfl) rfl (ov_nilCheckB rfl rfl) (TQ 2 (by kernel_rfl) rfl (ov_fieldAddr underlying86 rfl rfl rfl sizeOf81 rfl rfl) (TQ 3 (by kernel_rfl) rfl (ov_load_box (i := 0) isAgg81 rfl rfl rfl rfl) (TQ 4 (by kernel_rfl) rfl (ov_move rfl rfl) (TQ 5 (by kernel_rfl) rfl (ov_nilCheckB rfl rfl) (TQ 6 (by kernel_rfl) rfl (ov_fieldAddr underlying86 rfl rfl rfl sizeOf3 rfl rfl) (TQ 7 (by kernel_rfl) rfl (ov_load_box (i := 0) isAgg3 rfl rfl rfl rfl) ?_)))))))
 obtain ⟨x1, e1, hm⟩ := bind_some hm
 obtain ⟨h2, h3, h4, cs1, h5, h6⟩ := h1.get e1 (by decide)
 obtain rfl : cs1 = [(.int .i64 x1.kind), (mkS x1.text), (.int .i64 x1.at_)] := h5
 refine TQ 8 (by kernel_rfl) rfl (ov_indexAddr underlying81 sizeOf89 rfl rfl rfl h2 h3 h4) (TQ 9 (by kernel_rfl) rfl (ov_load_elems (vs := [(.int .i64 x1.kind), (mkS x1.text), (.int .i64 x1.at_)]) isAgg89 sizeOf89 rfl rfl rfl h6 h4) ?_)
 refine AL.any (rs := [10]) (by kernel_rfl) (by decide) ?_
 refine ALs.cons0 (i := 10) rfl (Runs.free rfl) rfl ?_ ?_
 ·
  refine os_store (i := 0) (vs := [(.int .i64 x1.kind), (mkS x1.text), (.int .i64 x1.at_)]) (cs' := [(.int .i64 x1.kind), (mkS x1.text), (.int .i64 x1.at_)]) sizeOf89 rfl rfl rfl rfl rfl rfl rfl rfl rfl ?_
  refine ⟨fun w' s => (s.selectT 2 [1] (by decide) rfl rfl), ?_⟩
  refine AL.done (by kernel_rfl) ?_
  refine tn (WP.ret ?_)
  refine retQ_ret (v := (.agg #[(.int .i64 x1.kind), (mkS x1.text), (.int .i64 x1.at_)])) results46 (Res.cell rfl (box_loads (i := 0) isAgg89 sizeOf89 rfl rfl) Res.nil) rfl (fun w' s => ⟨_, ?_, s⟩)
  refine V rfl (ov_field (cs := [(.int .i64 x1.kind), (mkS x1.text), (.int .i64 x1.at_)]) (r := (mkS x1.text)) rfl rfl (fun _ => by kernel_rfl)) (Va rfl (WL.nil (tn (WP.seq (WP.seq (WP.region (Vm rfl (Vm rfl (Vm rfl ?_)))))))))
  refine WL.weaken (fun _ s => s.selectT 2 [1, 0] (by decide) rfl rfl) ?_
  obtain ⟨r1, e2, hm⟩ := bind_some hm
  refine ws rfl (os_bcon call84 rfl rfl (program_reader_takes_con p_r p_kind p_text bp1 ao1 cap1 w0 H0 (.blk b1 89 [(.int .i64 x1.kind), (mkS x1.text), (.int .i64 x1.at_)] :: tl) H h1 hc1 hG r1 e2) (fun rr1 H1 ms1 hle1 hR1 => ?_))
  obtain ⟨rfl, rfl⟩ := hR1
  refine V rfl (ov_not rfl rfl) (WL.nil (tn ?_))
  refine WP.cond rfl (fun hc2 => ?_) (fun hc2 => ?_)
  ·
   replace hm := ite_t hc2 hm
   refine WP.seq (WP.region (Vm rfl (V rfl (ov_nilCheckB rfl rfl) (V rfl (ov_fieldAddr underlying86 rfl rfl rfl sizeOf4 rfl rfl) ?_))))
   refine ws0 rfl (os_store (i := 0) (vs := [(.bool true)]) (cs' := [(.slice ao1 p_r.tokens.length cap1), (.int .i64 r1.2.1), (.bool true)]) sizeOf4 rfl rfl rfl rfl rfl rfl rfl rfl rfl ?_)
   refine WL.nil (tn (WP.seq (WP.region (Va rfl (WL.nil (tn (WP.ret (then_ret ?_))))))))
   obtain rfl := Option.some.inj hm
   refine retQ_ret results85 (Res.tmp rfl Res.nil) rfl (fun w' s => ?_)
   exact ⟨H1, _, hle1, ⟨rfl, rfl⟩, (s.selectT 2 [0] (by decide) rfl rfl)⟩
  replace hm := ite_f hc2 hm
  refine WP.skip (tn (WP.seq (WP.region (Vm rfl (Va rfl (WL.nil (tn (WP.ret ?_))))))))
  obtain rfl := Option.some.inj hm
  refine retQ_ret results85 (Res.tmp rfl Res.nil) rfl (fun w' s => ?_)
  exact ⟨H1, _, hle1, ⟨rfl, rfl⟩, (s.selectT 2 [0] (by decide) rfl rfl)⟩
 exact ALs.nil
theorem internal_stringslite_HasPrefix_con (p_s : (List UInt8)) (p_prefix : (List UInt8)) (w : World) (H : Heap) (hH : Le H (hp w)) (hG : Glob H) (r : Bool) (hm : internal_stringslite_HasPrefix p_s p_prefix = some r) :
  Con prog 188 [(mkS p_s), (mkS p_prefix)] w H (fun v _ => v = (.bool r)) := by
 unfold internal_stringslite_HasPrefix at hm
 refine con_of hH func188 rfl 18 ntmps188 rfl ?_
 refine WP.seq (WP.region (Va rfl (WL.nil (tn (WP.seq (WP.region (Vm rfl (V rfl (ov_len_string underlying9 rfl rfl) (Vm rfl (V rfl (ov_len_string underlying9 rfl rfl) (V rfl (ov_geq rfl rfl rfl) (Vm rfl ?_))))))))))))
 obtain ⟨c1, e1, hm⟩ := bind_some hm
 refine WL.cut_bool 7 17 (x := c1) ?_ ?_
 ·
  rcases Bool.eq_false_or_eq_true (decide ((p_s.length : Int) ≥ (p_prefix.length : Int))) with hc1 | hc1
  ·
   replace hm := ite_t hc1 e1
   refine wy hc1 rfl (ov_move rfl rfl) ?_
   refine wy hc1 rfl (ov_move rfl rfl) ?_
   refine wy hc1 rfl (ov_len_string underlying9 rfl rfl) ?_
   obtain ⟨s1, e2, hm⟩ := bind_some hm
   refine wy hc1 rfl (ov_slice_string_to underlying9 rfl rfl rfl e2) ?_
   refine wy hc1 rfl (ov_move rfl rfl) ?_
   refine wy hc1 rfl (ov_seql rfl rfl rfl) ?_
   refine V rfl (ov_pick_true rfl (guard_eq rfl hc1) rfl) ?_
   exact WL.nil ⟨Sub.cons' rfl (congrArg Value.bool (Option.some.inj hm)) (Sub.dropn 7 rfl), fun _ s => s⟩
  replace hm := ite_f hc1 e1
  refine Vi rfl (Idle.no rfl rfl rfl hc1) (Vi rfl (Idle.no rfl rfl rfl hc1) (Vi rfl (Idle.no rfl rfl rfl hc1) (Vi rfl (Idle.no rfl rfl rfl hc1) (Vi rfl (Idle.no rfl rfl rfl hc1) (Vi rfl (Idle.no rfl rfl rfl hc1) (V rfl (ov_pick_false rfl (guard_eq rfl hc1) rfl) ?_))))))
  exact WL.nil ⟨Sub.cons' rfl (congrArg Value.bool (Option.some.inj hm)) (Sub.dropn 7 rfl), fun _ s => s⟩
 refine Va rfl (WL.nil (tn (WP.ret ?_)))
 obtain rfl := Option.some.inj hm
 refine retQ_ret results188 (Res.tmp rfl Res.nil) rfl (fun w' s => ⟨s.below, ?_⟩)
 exact rfl
theorem internal_stringslite_CutPrefix_con (p_s : (List UInt8)) (p_prefix : (List UInt8)) (w : World) (H : Heap) (hH : Le H (hp w)) (hG : Glob H) (r : ((List UInt8) × Bool)) (hm : internal_stringslite_CutPrefix p_s p_prefix = some r) :
  Con prog 169 [(mkS p_s), (mkS p_prefix)] w H (fun v _ => v = (.tuple #[(mkS r.1), (.bool r.2)])) := by
 unfold internal_stringslite_CutPrefix at hm
 refine con_of hH func169 rfl 15 ntmps169 rfl ?_
 refine WP.seq (WP.region (Va rfl (Va rfl (WL.nil (tn (WP.seq (WP.seq (WP.region (Vm rfl (Vm rfl ?_))))))))))
 obtain ⟨r1, e1, hm⟩ := bind_some hm
 refine wo rfl (oq_con (r := (.bool r1)) call188 rfl rfl (fun w' s => ⟨_, (internal_stringslite_HasPrefix_con p_s p_prefix  w' H s.hold hG r1 e1)⟩)) ?_
 refine V rfl (ov_not rfl rfl) (WL.nil (tn ?_))
 refine WP.cond rfl (fun hc1 => ?_) (fun hc1 => ?_)
 ·
  replace hm := ite_t hc1 hm
  refine WP.seq (WP.region (Vm rfl (Va rfl (Va rfl (WL.nil (tn (WP.ret (then_ret ?_))))))))
  obtain rfl := Option.some.inj hm
  refine retQ_ret results169 (Res.tmp rfl (Res.tmp rfl Res.nil)) rfl (fun w' s => ⟨s.below, ?_⟩)
  exact rfl
 replace hm := ite_f hc1 hm
 refine WP.skip (tn (WP.seq (WP.region (Vm rfl (Vm rfl (V rfl (ov_len_string underlying9 rfl rfl) ?_))))))
 obtain ⟨s1, e2, hm⟩ := bind_some hm
 refine V rfl (ov_slice_string_from underlying9 rfl rfl rfl e2) (Va rfl (Va rfl (WL.nil (tn (WP.ret ?_)))))
 obtain rfl := Option.some.inj hm
 refine retQ_ret results169 (Res.tmp rfl (Res.tmp rfl Res.nil)) rfl (fun w' s => ⟨s.below, ?_⟩)
 exact rfl
theorem strings_CutPrefix_con (p_s : (List UInt8)) (p_prefix : (List UInt8)) (w : World) (H : Heap) (hH : Le H (hp w)) (hG : Glob H) (r : ((List UInt8) × Bool)) (hm : strings_CutPrefix p_s p_prefix = some r) :
  Con prog 149 [(mkS p_s), (mkS p_prefix)] w H (fun v _ => v = (.tuple #[(mkS r.1), (.bool r.2)])) := by
 unfold strings_CutPrefix at hm
 refine con_of hH func149 rfl 11 ntmps149 rfl ?_
 refine WP.seq (WP.region (Va rfl (Va rfl (WL.nil (tn (WP.seq (WP.region (Vm rfl (Vm rfl ?_)))))))))
 obtain ⟨r1, e1, hm⟩ := bind_some hm
 refine wo rfl (oq_con (r := (.tuple #[(mkS r1.1), (.bool r1.2)])) call169 rfl rfl (fun w' s => ⟨_, (internal_stringslite_CutPrefix_con p_s p_prefix  w' H s.hold hG r1 e1)⟩)) ?_
 refine Ve rfl (Ve rfl (Va rfl (Va rfl (WL.nil (tn (WP.ret ?_))))))
 obtain rfl := Option.some.inj hm
 refine retQ_ret results149 (Res.tmp rfl (Res.tmp rfl Res.nil)) rfl (fun w' s => ⟨s.below, ?_⟩)
 exact rfl
theorem internal_strconv_Atoi_con (p_s : (List UInt8)) (w : World) (H : Heap) (hH : Le H (hp w)) (hG : Glob H) (r : (Int × Unit)) (hm : internal_strconv_Atoi p_s = some r) :
  Con prog 170 [(mkS p_s)] w H (fun v _ => v = (.tuple #[(.int .i64 r.1), .nilIface])) := by
 unfold internal_strconv_Atoi at hm
 refine con_of hH func170 rfl 77 ntmps170 rfl ?_
 refine WP.seq (WP.region (Va rfl (Va rfl (WL.nil (tn (WP.seq (WP.region (Vm rfl (V rfl (ov_len_string underlying9 rfl rfl) (Va rfl (WL.nil (tn ?_))))))))))))
 obtain ⟨k1, hk1, hm⟩ := joinK_some hm
 refine WP.seq_join (fun g' S' => Sub [(0, (mkS p_s)), (1000000007, (.bool false))] g' ∧ (∀ w', S' w' → St w H [] H w') ∧ k1 = some r) ?_ ?_
 ·
  refine WP.seq (WP.region (Vm rfl (Vi rfl (Idle.no rfl rfl rfl rfl) (Vi rfl (Idle.no rfl rfl rfl rfl) (Vi rfl (Idle.no rfl rfl rfl rfl) (Vi rfl (Idle.undef rfl rfl rfl) (Vi rfl (Idle.undef rfl rfl rfl) (Vi rfl (Idle.no rfl rfl rfl rfl) (V rfl (ov_pick_false rfl (guard_eq rfl rfl) rfl) (Vm rfl ?_))))))))))
  refine wy rfl rfl (ov_move rfl rfl) ?_
  refine wy rfl rfl (ov_move rfl rfl) ?_
  refine wy rfl rfl (ov_lss rfl rfl rfl) ?_
  refine wy rfl rfl (ov_move rfl rfl) ?_
  refine WL.cut_bool 3 28 (x := ((decide ((0 : Int) < (p_s.length : Int))) && (decide ((p_s.length : Int) < 19)))) ?_ ?_
  ·
   rcases Bool.eq_false_or_eq_true (decide ((0 : Int) < (p_s.length : Int))) with hc1 | hc1
   ·
    refine wy hc1 rfl (ov_move rfl rfl) ?_
    refine wy hc1 rfl (ov_lss rfl rfl rfl) ?_
    refine wy rfl rfl (ov_pick_true rfl (guard_eq rfl hc1) rfl) ?_
    exact WL.nil ⟨Sub.cons' rfl (congrArg Value.bool (andT hc1)) (Sub.dropn 3 rfl), fun _ s => s⟩
   refine Vi rfl (Idle.no rfl rfl rfl hc1) (Vi rfl (Idle.no rfl rfl rfl hc1) ?_)
   refine wy rfl rfl (ov_pick_false rfl (guard_eq rfl hc1) rfl) ?_
   exact WL.nil ⟨Sub.cons' rfl (congrArg Value.bool (andF hc1)) (Sub.dropn 3 rfl), fun _ s => s⟩
  refine wy rfl rfl (ov_pick_true rfl (guard_eq rfl rfl) rfl) ?_
  refine V rfl (ov_pick_false rfl (guard_eq rfl rfl) rfl) (WL.nil (tn ?_))
  refine WP.cond rfl (fun hc2 => ?_) (fun hc2 => ?_)
  ·
   replace hm := ite_t hc2 hm
   refine WP.seq (WP.region (Vm rfl (Va rfl (WL.nil (tn ?_)))))
   obtain ⟨k2, hk2, hm⟩ := joinK_some hm
   refine WP.seq_join (fun g' S' => ∃ (s2 : (List UInt8)), Sub [(0, (mkS s2)), (5, (mkS p_s)), (1000000007, (.bool false))] g' ∧ (∀ w', S' w' → St w H [] H w') ∧ k2 s2 = some r) ?_ ?_
   ·
    refine WP.seq (WP.region (Vm rfl ?_))
    obtain ⟨b1, e1, hm⟩ := bind_some hm
    refine V rfl (ov_index_string underlying9 rfl rfl rfl e1) (V rfl (ov_eql rfl rfl rfl) (Vm rfl ?_))
    obtain ⟨c1, e2, hm⟩ := bind_some hm
    refine WL.cut_bool 4 39 (x := c1) ?_ ?_
    ·
     rcases Bool.eq_false_or_eq_true ((b1.toNat : Int) == 45) with hc3 | hc3
     ·
      replace hm := ite_t hc3 e2
      refine Vi rfl (Idle.no rfl rfl rfl hc3) (Vi rfl (Idle.no rfl rfl rfl hc3) (Vi rfl (Idle.no rfl rfl rfl hc3) (V rfl (ov_pick_true rfl (guard_eq rfl hc3) rfl) ?_)))
      exact WL.nil ⟨Sub.cons' rfl (congrArg Value.bool (Option.some.inj hm)) (Sub.dropn 4 rfl), fun _ s => s⟩
     replace hm := ite_f hc3 e2
     refine wy hc3 rfl (ov_move rfl rfl) ?_
     obtain ⟨b2, e3, hm⟩ := bind_some hm
     refine wy hc3 rfl (ov_index_string underlying9 rfl rfl rfl e3) ?_
     refine wy hc3 rfl (ov_eql rfl rfl rfl) ?_
     refine V rfl (ov_pick_false rfl (guard_eq rfl hc3) rfl) ?_
     exact WL.nil ⟨Sub.cons' rfl (congrArg Value.bool (Option.some.inj hm)) (Sub.dropn 4 rfl), fun _ s => s⟩
    refine WL.nil (tn ?_)
    refine WP.cond rfl (fun hc4 => ?_) (fun hc4 => ?_)
    ·
     replace hm := ite_t hc4 hm
     refine WP.seq (WP.region (Vm rfl ?_))
     obtain ⟨s1, e4, hm⟩ := bind_some hm
     refine V rfl (ov_slice_string_from underlying9 rfl rfl rfl e4) (Va rfl (WL.nil (tn (WP.seq (WP.region (Vm rfl (V rfl (ov_len_string underlying9 rfl rfl) (V rfl (ov_lss rfl rfl rfl) (WL.nil (tn ?_))))))))))
     refine WP.cond rfl (fun hc5 => ?_) (fun hc5 => ?_)
     ·
      replace hm := ite_t hc5 hm
      exact (none_some hm).elim
     replace hm := ite_f hc5 hm
     refine WP.skip (tn ?_)
     exact ⟨s1, (Sub.all rfl), fun w' s => s, hm⟩
    replace hm := ite_f hc4 hm
    refine WP.skip (tn ?_)
    exact ⟨p_s, (Sub.all rfl), fun w' s => s, hm⟩
   rintro g' S' ⟨s2, hsub1, hS1, hm⟩
   refine WP.sub hsub1 (WP.weaken hS1 ?_)
   replace hm := (congrFun hk2 s2).symm.trans hm
   refine WP.seq (WP.region (Va rfl (WL.nil (tn ?_))))
   obtain ⟨k3, hk3, hm⟩ := joinK_some hm
   refine WP.seq_join (fun g' S' => ∃ (H2 : Heap) (i3 : Int), Le H H2 ∧ Sub [(5, (mkS p_s)), (6, (.int .i64 i3)), (1000000007, (.bool false))] g' ∧ (∀ w', S' w' → St w H [] H2 w') ∧ k3 i3 = some r) ?_ ?_
   ·
    refine WP.seq (WP.region (Vm rfl ?_))
    refine ws rfl (os_bytes underlying9 underlying193 underlying5 rfl rfl (fun ao1 cap1 H1 hle1 h1 hc6 => ?_))
    refine V rfl (ov_len_slice underlying193 rfl rfl) (Vm rfl (WL.nil (tn (WP.block ?_))))
    refine WP.loop (fun m1 g' S' => ∃ (i1 : Int) (i2 : Int), Sub [(5, (mkS p_s)), (6, (.int .i64 i1)), (47, (.slice ao1 (bytesI s2).length cap1)), (48, (.int .i64 ((bytesI s2).length : Int))), (49, (.int .i64 i2)), (1000000007, (.bool false))] g' ∧ (∀ w', S' w' → St w H [] H1 w') ∧ internal_strconv_Atoi_loop1 s2 k3 m1 i1 i2 = some r) ((Int.toNat (((bytesI s2).length : Int) - 0) + 1)) ⟨0, 0, (Sub.all rfl), fun w' s => s, hm⟩ ?_ ?_
    ·
     rintro g' S' ⟨_, _, _, _, hm⟩
     exact none_some hm
    rintro m1 g' S' ⟨i1, i2, hsub2, hS2, hm⟩
    refine WP.sub hsub2 (WP.weaken hS2 ?_)
    rw [internal_strconv_Atoi_loop1] at hm
    refine WP.seq (WP.region (V rfl (ov_lss rfl rfl rfl) (WL.nil (tn (WP.seq ?_)))))
    refine WP.cond rfl (fun hc7 => ?_) (fun hc7 => ?_)
    ·
     replace hm := ite_t hc7 hm
     refine WP.skip (tn (WP.seq (WP.block (WP.seq (WP.region ?_)))))
     obtain ⟨x1, e5, hm⟩ := bind_some hm
     obtain ⟨h2, h3, h4, cs1, h5, h6⟩ := h1.get e5 (by decide)
     obtain rfl : cs1 = [(.int .u8 x1)] := h5
     refine V rfl (ov_indexAddr underlying193 sizeOf5 rfl rfl rfl h2 h3 h4) (V rfl (ov_load_elem (v := (.int .u8 x1)) isAgg5 rfl rfl h6) (Va rfl (WL.nil (tn (WP.seq (WP.region (Vm rfl (V rfl (ov_sub rfl rfl rfl) (Va rfl (WL.nil (tn (WP.seq (WP.seq ?_)))))))))))))
     refine WP.region (Vm rfl (V rfl (ov_gtr rfl rfl rfl) (WL.nil (tn ?_))))
     refine WP.cond rfl (fun hc8 => ?_) (fun hc8 => ?_)
     ·
      replace hm := ite_t hc8 hm
      exact (none_some hm).elim
     replace hm := ite_f hc8 hm
     refine WP.skip (tn (WP.region (Vm rfl (V rfl (ov_mul rfl rfl rfl) (Vm rfl (V rfl (ov_convert_int underlying5 underlying3 rfl rfl) (V rfl (ov_add rfl rfl rfl) (Va rfl (WL.nil (bn (tn (WP.region (V rfl (ov_add rfl rfl rfl) ?_)))))))))))))
     refine Vm rfl (WL.nil (tn ?_))
     exact ⟨(IntKind.wrap .i64 ((IntKind.wrap .i64 (i1 * 10)) + (IntKind.wrap .i64 (IntKind.wrap .u8 (x1 - 48))))), (IntKind.wrap .i64 (i2 + 1)), (Sub.all rfl), fun w' s => s, hm⟩
    replace hm := ite_f hc7 hm
    refine WP.exit (then_exit (then_exit (block_here (tn ?_))))
    exact ⟨H1, i1, hle1, (Sub.all rfl), fun w' s => s, hm⟩
   rintro g' S' ⟨H2, i3, hle2, hsub3, hS3, hm⟩
   refine WP.sub hsub3 (WP.weaken hS3 ?_)
   replace hm := (congrFun hk3 i3).symm.trans hm
   obtain ⟨k4, hk4, hm⟩ := joinK_some hm
   refine WP.seq_join (fun g' S' => ∃ (i4 : Int), Sub [(6, (.int .i64 i4)), (1000000007, (.bool false))] g' ∧ (∀ w', S' w' → St w H [] H2 w') ∧ k4 i4 = some r) ?_ ?_
   ·
    refine WP.seq (WP.region (Vm rfl ?_))
    obtain ⟨b3, e6, hm⟩ := bind_some hm
    refine V rfl (ov_index_string underlying9 rfl rfl rfl e6) (V rfl (ov_eql rfl rfl rfl) (WL.nil (tn ?_)))
    refine WP.cond rfl (fun hc9 => ?_) (fun hc9 => ?_)
    ·
     replace hm := ite_t hc9 hm
     refine WP.region (Vm rfl (V rfl (ov_neg rfl rfl) (Va rfl (WL.nil (tn ?_)))))
     exact ⟨(IntKind.wrap .i64 (0 - i3)), (Sub.all rfl), fun w' s => s, hm⟩
    replace hm := ite_f hc9 hm
    refine WP.skip (tn ?_)
    exact ⟨i3, (Sub.all rfl), fun w' s => s, hm⟩
   rintro g' S' ⟨i4, hsub4, hS4, hm⟩
   refine WP.sub hsub4 (WP.weaken hS4 ?_)
   replace hm := (congrFun hk4 i4).symm.trans hm
   refine WP.seq (WP.region (Vm rfl (Va rfl (Va rfl (WL.nil (tn (WP.ret (then_ret ?_))))))))
   obtain rfl := Option.some.inj hm
   refine retQ_ret results170 (Res.tmp rfl (Res.tmp rfl Res.nil)) rfl (fun w' s => ⟨s.below, ?_⟩)
   exact rfl
  replace hm := ite_f hc2 hm
  refine WP.skip (tn ?_)
  exact ⟨(Sub.all rfl), fun w' s => s, hm⟩
 rintro g' S' ⟨hsub5, hS5, hm⟩
 refine WP.sub hsub5 (WP.weaken hS5 ?_)
 replace hm := hk1.symm.trans hm
 exact (none_some hm).elim
theorem strconv_Atoi_con (p_s : (List UInt8)) (w : World) (H : Heap) (hH : Le H (hp w)) (hG : Glob H) (r : (Int × Unit)) (hm : strconv_Atoi p_s = some r) :
  Con prog 150 [(mkS p_s)] w H (fun v _ => v = (.tuple #[(.int .i64 r.1), .nilIface])) := by
 unfold strconv_Atoi at hm
 refine con_of hH func150 rfl 18 ntmps150 rfl ?_
 refine WP.seq (WP.region (Va rfl (Va rfl (WL.nil (tn (WP.seq (WP.region (Vm rfl ?_))))))))
 obtain ⟨r1, e1, hm⟩ := bind_some hm
 refine wo rfl (oq_con (r := (.tuple #[(.int .i64 r1.1), .nilIface])) call170 rfl rfl (fun w' s => ⟨_, (internal_strconv_Atoi_con p_s  w' H s.hold hG r1 e1)⟩)) ?_
 refine Vm rfl (Ve rfl (Ve rfl (Va rfl (Va rfl (WL.nil (tn (WP.seq (WP.seq (WP.region (Vm rfl (V rfl (ov_neq_nilI (by kernel_rfl) rfl rfl rfl) (WL.nil (tn ?_)))))))))))))
 refine WP.cond_false rfl (WP.skip (tn (WP.seq (WP.region (Vm rfl (Va rfl (Va rfl (WL.nil (tn (WP.ret ?_))))))))))
 obtain rfl := Option.some.inj hm
 refine retQ_ret results150 (Res.tmp rfl (Res.tmp rfl Res.nil)) rfl (fun w' s => ⟨s.below, ?_⟩)
 exact rfl
theorem lexer_Value_con (p_s : (List UInt8)) (w : World) (H : Heap) (hH : Le H (hp w)) (hG : Glob H) (r : (Int × Int)) (hm : lexer_Value p_s = some r) :
  Con prog 123 [(mkS p_s)] w H (fun v _ => v = (.tuple #[(.int .i64 r.1), (.int .i64 r.2)])) := by
 unfold lexer_Value at hm
 refine con_of hH func123 rfl 30 ntmps123 rfl ?_
 refine WP.seq (WP.region (Va rfl (Va rfl (WL.nil (tn (WP.seq (WP.region (Vm rfl ?_))))))))
 obtain ⟨r1, e1, hm⟩ := bind_some hm
 refine wo rfl (oq_con (r := (.tuple #[(mkS r1.1), (.bool r1.2)])) call149 rfl rfl (fun w' s => ⟨_, (strings_CutPrefix_con p_s [45]  w' H s.hold hG r1 e1)⟩)) ?_
 refine Vm rfl (Ve rfl (Ve rfl (Va rfl (Va rfl (WL.nil (tn (WP.seq (WP.seq (WP.region (Vm rfl ?_))))))))))
 obtain ⟨r2, e2, hm⟩ := bind_some hm
 refine wo rfl (oq_con (r := (.int .i64 r2)) call146 rfl rfl (fun w' s => ⟨_, (lexer_Number_con r1.1  w' H s.hold hG r2 e2)⟩)) ?_
 refine Va rfl (WL.nil (tn (WP.seq (WP.region (Vm rfl (V rfl (ov_neq rfl rfl rfl) (WL.nil (tn ?_))))))))
 refine WP.cond rfl (fun hc1 => ?_) (fun hc1 => ?_)
 ·
  replace hm := ite_t hc1 hm
  refine WP.seq (WP.region (Vm rfl (Va rfl (Va rfl (WL.nil (tn (WP.ret (then_ret ?_))))))))
  obtain rfl := Option.some.inj hm
  refine retQ_ret results123 (Res.tmp rfl (Res.tmp rfl Res.nil)) rfl (fun w' s => ⟨s.below, ?_⟩)
  exact rfl
 replace hm := ite_f hc1 hm
 refine WP.skip (tn (WP.seq (WP.seq (WP.region (Vm rfl (Vm rfl ?_))))))
 refine WL.cut_bool 3 23 (x := (r1.2 && (r1.1 == [48]))) ?_ ?_
 ·
  rcases Bool.eq_false_or_eq_true r1.2 with hc2 | hc2
  ·
   refine wy hc2 rfl (ov_move rfl rfl) ?_
   refine wy hc2 rfl (ov_seql rfl rfl rfl) ?_
   refine V rfl (ov_pick_true rfl (guard_eq rfl hc2) rfl) ?_
   exact WL.nil ⟨Sub.cons' rfl (congrArg Value.bool (andT hc2)) (Sub.dropn 3 rfl), fun _ s => s⟩
  refine Vi rfl (Idle.no rfl rfl rfl hc2) (Vi rfl (Idle.no rfl rfl rfl hc2) (V rfl (ov_pick_false rfl (guard_eq rfl hc2) rfl) ?_))
  exact WL.nil ⟨Sub.cons' rfl (congrArg Value.bool (andF hc2)) (Sub.dropn 3 rfl), fun _ s => s⟩
 refine WL.nil (tn ?_)
 refine WP.cond rfl (fun hc3 => ?_) (fun hc3 => ?_)
 ·
  replace hm := ite_t hc3 hm
  refine WP.seq (WP.region (Va rfl (Va rfl (WL.nil (tn (WP.ret (then_ret ?_)))))))
  obtain rfl := Option.some.inj hm
  refine retQ_ret results123 (Res.tmp rfl (Res.tmp rfl Res.nil)) rfl (fun w' s => ⟨s.below, ?_⟩)
  exact rfl
 replace hm := ite_f hc3 hm
 refine WP.skip (tn (WP.seq (WP.region (Vm rfl ?_))))
 obtain ⟨r3, e3, hm⟩ := bind_some hm
 refine wo rfl (oq_con (r := (.tuple #[(.int .i64 r3.1), .nilIface])) call150 rfl rfl (fun w' s => ⟨_, (strconv_Atoi_con p_s  w' H s.hold hG r3 e3)⟩)) ?_
 refine Vm rfl (Ve rfl (Ve rfl (Va rfl (Va rfl (WL.nil (tn (WP.seq (WP.region (Vm rfl (Va rfl (Va rfl (WL.nil (tn ?_)))))))))))))
 refine WP.ret ?_
 obtain rfl := Option.some.inj hm
 refine retQ_ret results123 (Res.tmp rfl (Res.tmp rfl Res.nil)) rfl (fun w' s => ⟨s.below, ?_⟩)
 exact rfl
theorem program_value_con (p_s : (List UInt8)) (w : World) (H : Heap) (hH : Le H (hp w)) (hG : Glob H) (r : Int) (hm : program_value p_s = some r) :
  Con prog 86 [(mkS p_s)] w H (fun v _ => v = (.int .i64 r)) := by
 unfold program_value at hm
 refine con_of hH func86 rfl 11 ntmps86 rfl ?_
 refine WP.seq (WP.region (Va rfl (WL.nil (tn (WP.seq (WP.region (Vm rfl ?_)))))))
 obtain ⟨r1, e1, hm⟩ := bind_some hm
 refine wo rfl (oq_con (r := (.tuple #[(.int .i64 r1.1), (.int .i64 r1.2)])) call123 rfl rfl (fun w' s => ⟨_, (lexer_Value_con p_s  w' H s.hold hG r1 e1)⟩)) ?_
 refine Vm rfl (Ve rfl (Ve rfl (Va rfl (Va rfl (WL.nil (tn (WP.seq (WP.region (Vm rfl (Va rfl (WL.nil (tn (WP.ret ?_)))))))))))))
 obtain rfl := Option.some.inj hm
 refine retQ_ret results86 (Res.tmp rfl Res.nil) rfl (fun w' s => ⟨s.below, ?_⟩)
 exact rfl
theorem program_reader_step_con (p_r : Rdr) (bp1 : Nat) (ao1 : Option Addr) (cap1 : Nat) (w0 : World) (H0 : Heap) (tl : List Ent) (H : Heap) (h1 : SL H encToken ao1 p_r.tokens) (hc1 : p_r.tokens.length ≤ cap1) (hG : Glob H) (r : (Node × Int × Bool)) (hm : program_reader_step p_r = some r) :
  BCon prog 87 [(pB bp1 0)] w0 H0 (.blk bp1 86 [(.slice ao1 p_r.tokens.length cap1), (.int .i64 p_r.at_), (.bool p_r.bad)] :: tl) H (fun v H' ms' => ∃ (ao2 : Option Addr) (cap2 : Nat) (ao3 : Option Addr) (cap3 : Nat), v = (.agg #[(.int .i64 r.1.kind), (.slice ao2 r.1.step.strokes.length cap2), (.int .i64 r.1.step.wait), (.int .i64 r.1.count), (mkS r.1.name), (.slice ao3 r.1.nodes.length cap3)]) ∧ ms' = (.blk bp1 86 [(.slice ao1 p_r.tokens.length cap1), (.int .i64 r.2.1), (.bool r.2.2)] :: tl) ∧ SL H' encStroke ao2 r.1.step.strokes ∧ r.1.step.strokes.length ≤ cap2 ∧ SL H' encNode ao3 r.1.nodes ∧ r.1.nodes.length ≤ cap3) := by
 unfold program_reader_step at hm
 refine bcon_of func87 rfl 69 ntmps87 rfl ?_
 refine WP.seq (WP.region ?_)
 refine ws rfl (os_alloc (cs := [(.int .i64 0), (.slice none 0 0), (.int .i64 0), (.int .i64 0), (mkS []), (.slice none 0 0)]) zeroValue28 rfl rfl (fun b1 => ?_))
 refine WL.nil (tn (WP.seq (WP.region ?_)))
 refine ws rfl (os_alloc (cs := [(.slice none 0 0), (.int .i64 0)]) zeroValue25 rfl rfl (fun b2 => ?_))
 refine WL.nil (tn ?_)
 obtain ⟨k1, hk1, hm⟩ := joinK_some hm
 refine WP.seq_join (fun g' S' => ∃ (H5 : Heap) (i3 : Int) (c3 : Bool) (l3 : (List Stroke)) (ao6 : Option Addr) (cap6 : Nat) (xs2 : List Value), Le H H5 ∧ RL H5 encStroke l3 xs2 ∧ Sub [(0, (pB bp1 0)), (2, (pB b1 0)), (3, (pB b2 0)), (1000000007, (.bool false))] g' ∧ (∀ w', S' w' → St w0 H0 (.row 112 (encStroke).size l3.length (.slice ao6 l3.length cap6) xs2 :: .blk b2 25 [(.slice ao6 l3.length cap6), (.int .i64 0)] :: .blk b1 28 [(.int .i64 0), (.slice none 0 0), (.int .i64 0), (.int .i64 0), (mkS []), (.slice none 0 0)] :: .blk bp1 86 [(.slice ao1 p_r.tokens.length cap1), (.int .i64 i3), (.bool c3)] :: tl) H5 w') ∧ k1 i3 c3 l3 = some r) ?_ ?_
 ·
  refine WP.block ?_
  have rl1 := RL.nil (α := Stroke) H encStroke
  refine WP.weaken (fun _ s => s.nilrow 112 (encStroke).size) ?_
  refine WP.loop (fun m1 g' S' => ∃ (H1 : Heap) (i1 : Int) (c1 : Bool) (l1 : (List Stroke)) (ao4 : Option Addr) (cap4 : Nat) (xs1 : List Value), Le H H1 ∧ RL H1 encStroke l1 xs1 ∧ Sub [(0, (pB bp1 0)), (2, (pB b1 0)), (3, (pB b2 0)), (1000000007, (.bool false))] g' ∧ (∀ w', S' w' → St w0 H0 (.row 112 (encStroke).size l1.length (.slice ao4 l1.length cap4) xs1 :: .blk b2 25 [(.slice ao4 l1.length cap4), (.int .i64 0)] :: .blk b1 28 [(.int .i64 0), (.slice none 0 0), (.int .i64 0), (.int .i64 0), (mkS []), (.slice none 0 0)] :: .blk bp1 86 [(.slice ao1 p_r.tokens.length cap1), (.int .i64 i1), (.bool c1)] :: tl) H1 w') ∧ program_reader_step_loop1 p_r k1 m1 i1 c1 l1 = some r) ((p_r.tokens.length + 2)) ⟨H, p_r.at_, p_r.bad, ([] : List Stroke), none, 0, [], (Le.refl _), rl1, (Sub.all rfl), fun w' s => s, hm⟩ ?_ ?_
  ·
   rintro g' S' ⟨_, _, _, _, _, _, _, _, _, _, _, hm⟩
   exact none_some hm
  rintro m1 g' S' ⟨H1, i1, c1, l1, ao4, cap4, xs1, hle1, rl2, hsub1, hS1, hm⟩
  refine WP.sub hsub1 (WP.weaken hS1 ?_)
  rw [program_reader_step_loop1] at hm
  replace h1 := h1.mono hle1
  replace hG := hG.mono hle1
  refine WP.seq (WP.seq (WP.region (Vm rfl (V rfl (ov_nilCheckB rfl rfl) (V rfl (ov_fieldAddr underlying86 rfl rfl rfl sizeOf4 rfl rfl) (Vl 3 isAgg4 rfl (V rfl (ov_not rfl rfl) (WL.nil (tn ?_)))))))))
  refine WP.cond rfl (fun hc4 => ?_) (fun hc4 => ?_)
  ·
   replace hm := ite_t hc4 hm
   refine WP.skip (tn (WP.block (WP.seq (WP.region (Vm rfl ?_)))))
   refine ws rfl (os_inline (cap := []) (vs := [(pB bp1 0)]) call46 rfl rfl rfl func46 rfl 13 ntmps46 rfl (fun w' s => ?_))
   refine WP.seq (WP.region ?_)
   refine ws rfl (os_alloc (cs := [(.int .i64 0), (mkS []), (.int .i64 0)]) zeroValue89 rfl rfl (fun b3 => ?_))
   refine WL.nil (tn (WP.seq ?_))
   refine WP.region_any (S₀ := St w0 H0 (.row 112 (encStroke).size l1.length (.slice ao4 l1.length cap4) xs1 :: .blk b2 25 [(.slice ao4 l1.length cap4), (.int .i64 0)] :: .blk b1 28 [(.int .i64 0), (.slice none 0 0), (.int .i64 0), (.int .i64 0), (mkS []), (.slice none 0 0)] :: .blk bp1 86 [(.slice ao1 p_r.tokens.length cap1), (.int .i64 i1), (.bool c1)] :: tl) H1) 11 rfl (by kernel_rfl) (fun w' s => (s.selectT 5 [1, 2, 3, 4] (by decide) rfl rfl)) (fun _ s => s.drew) ?_
   refine TQ 0 (by kernel_rfl) rfl (ov_move rfl rfl) (TQ 1 (by kernel_rfl) rfl (ov_nilCheckB rfl rfl) (TQ 2 (by kernel_rfl) rfl (ov_fieldAddr underlying86 rfl rfl rfl sizeOf81 rfl rfl) (TQ 3 (by kernel_rfl) rfl (ov_load_box (i := 3) isAgg81 rfl rfl rfl rfl) (TQ 4 (by kernel_rfl) rfl (ov_move rfl rfl) (TQ 5 (by kernel_rfl) rfl (ov_nilCheckB rfl rfl) (TQ 6 (by kernel_rfl) rfl (ov_fieldAddr underlying86 rfl rfl rfl sizeOf3 rfl rfl) (TQ 7 (by kernel_rfl) rfl (ov_load_box (i := 3) isAgg3 rfl rfl rfl rfl) ?_)))))))
   obtain ⟨x1, e1, hm⟩ := bind_some hm
   obtain ⟨h4, h5, h6, cs1, h7, h8⟩ := h1.get e1 (by decide)
   obtain rfl : cs1 = [(.int .i64 x1.kind), (mkS x1.text), (.int .i64 x1.at_)] := h7
   refine TQ 8 (by kernel_rfl) rfl (ov_indexAddr underlying81 sizeOf89 rfl rfl rfl h4 h5 h6) (TQ 9 (by kernel_rfl) rfl (ov_load_elems (vs := [(.int .i64 x1.kind), (mkS x1.text), (.int .i64 x1.at_)]) isAgg89 sizeOf89 rfl rfl rfl h8 h6) ?_)
   refine AL.any (rs := [10]) (by kernel_rfl) (by decide) ?_
   refine ALs.cons0 (i := 10) rfl (Runs.free rfl) rfl ?_ ?_
   ·
    refine os_store (i := 0) (vs := [(.int .i64 x1.kind), (mkS x1.text), (.int .i64 x1.at_)]) (cs' := [(.int .i64 x1.kind), (mkS x1.text), (.int .i64 x1.at_)]) sizeOf89 rfl rfl rfl rfl rfl rfl rfl rfl rfl ?_
    refine ⟨fun w' s => (s.selectT 5 [1, 2, 3, 4] (by decide) rfl rfl), ?_⟩
    refine AL.done (by kernel_rfl) ?_
    refine tn (WP.ret ?_)
    refine retQ_ret (v := (.agg #[(.int .i64 x1.kind), (mkS x1.text), (.int .i64 x1.at_)])) results46 (Res.cell rfl (box_loads (i := 0) isAgg89 sizeOf89 rfl rfl) Res.nil) rfl (fun w' s => ⟨_, ?_, s⟩)
    refine ws rfl (os_alloc (cs := [(.int .i64 0), (mkS []), (.int .i64 0)]) zeroValue89 rfl rfl (fun b4 => ?_))
    refine ws0 rfl (os_store (i := 0) (vs := [(.int .i64 x1.kind), (mkS x1.text), (.int .i64 x1.at_)]) (cs' := [(.int .i64 x1.kind), (mkS x1.text), (.int .i64 x1.at_)]) sizeOf89 rfl rfl rfl rfl rfl rfl rfl rfl rfl ?_)
    refine WL.nil (tn (WP.seq (WP.region (V rfl (ov_fieldAddr underlying89 rfl rfl rfl sizeOf9 rfl rfl) (Vl 0 isAgg9 rfl ?_)))))
    obtain ⟨r1, e2, hm⟩ := bind_some hm
    refine wo rfl (oq_con (r := (.int .i64 r1)) call124 rfl rfl (fun w' s => ⟨_, (indexS_con [65, 66, 67, 68, 69, 70] x1.text  w' H1 s.hold hG r1 e2)⟩)) ?_
    refine Va rfl (WL.nil (tn (WP.seq (WP.seq (WP.region (V rfl (ov_fieldAddr underlying89 rfl rfl rfl sizeOf3 rfl rfl) (Vl 0 isAgg3 rfl (V rfl (ov_neq rfl rfl rfl) (Vm rfl ?_)))))))))
    refine WL.cut_bool 5 26 (x := ((x1.kind != 0) || ((x1.text.length : Int) != 1))) ?_ ?_
    ·
     rcases Bool.eq_false_or_eq_true (x1.kind != 0) with hc5 | hc5
     ·
      refine Vi rfl (Idle.no rfl rfl rfl hc5) (Vi rfl (Idle.no rfl rfl rfl hc5) (Vi rfl (Idle.no rfl rfl rfl hc5) (Vi rfl (Idle.no rfl rfl rfl hc5) (V rfl (ov_pick_true rfl (guard_eq rfl hc5) rfl) ?_))))
      exact WL.nil ⟨Sub.cons' rfl (congrArg Value.bool (orT hc5)) (Sub.dropn 5 rfl), fun _ s => s⟩
     refine wy hc5 rfl (ov_fieldAddr underlying89 rfl rfl rfl sizeOf9 rfl rfl) ?_
     refine wy hc5 rfl (ov_load_box (i := 0) isAgg9 rfl rfl rfl rfl) ?_
     refine wy hc5 rfl (ov_len_string underlying9 rfl rfl) ?_
     refine wy hc5 rfl (ov_neq rfl rfl rfl) ?_
     refine V rfl (ov_pick_false rfl (guard_eq rfl hc5) rfl) ?_
     exact WL.nil ⟨Sub.cons' rfl (congrArg Value.bool (orF hc5)) (Sub.dropn 5 rfl), fun _ s => s⟩
    refine Vm rfl ?_
    refine WL.cut_bool 3 30 (x := (((x1.kind != 0) || ((x1.text.length : Int) != 1)) || (decide (r1 < 0)))) ?_ ?_
    ·
     rcases Bool.eq_false_or_eq_true ((x1.kind != 0) || ((x1.text.length : Int) != 1)) with hc6 | hc6
     ·
      refine Vi rfl (Idle.no rfl rfl rfl hc6) (Vi rfl (Idle.no rfl rfl rfl hc6) (V rfl (ov_pick_true rfl (guard_eq rfl hc6) rfl) ?_))
      exact WL.nil ⟨Sub.cons' rfl (congrArg Value.bool (orT hc6)) (Sub.dropn 3 rfl), fun _ s => s⟩
     refine wy hc6 rfl (ov_move rfl rfl) ?_
     refine wy hc6 rfl (ov_lss rfl rfl rfl) ?_
     refine V rfl (ov_pick_false rfl (guard_eq rfl hc6) rfl) ?_
     exact WL.nil ⟨Sub.cons' rfl (congrArg Value.bool (orF hc6)) (Sub.dropn 3 rfl), fun _ s => s⟩
    refine WL.nil (tn ?_)
    refine WP.cond rfl (fun hc7 => ?_) (fun hc7 => ?_)
    ·
     replace hm := ite_t hc7 hm
     refine WP.seq (WP.region (Vm rfl (V rfl (ov_fieldAddr underlying25 rfl rfl rfl sizeOf23 rfl rfl) (Vl 3 isAgg23 rfl (V rfl (ov_len_slice underlying23 rfl rfl) (V rfl (ov_eql rfl rfl rfl) (V rfl (ov_nilCheckB rfl rfl) (V rfl (ov_fieldAddr underlying86 rfl rfl rfl sizeOf4 rfl rfl) ?_))))))))
     refine ws0 rfl (os_store (i := 5) (vs := [(.bool ((l1.length : Int) == 0))]) (cs' := [(.slice ao1 p_r.tokens.length cap1), (.int .i64 i1), (.bool ((l1.length : Int) == 0))]) sizeOf4 rfl rfl rfl rfl rfl rfl rfl rfl rfl ?_)
     refine WL.nil (tn (WP.exit (then_exit (block_pass rfl (then_exit (block_here (tn ?_)))))))
     exact ⟨H1, i1, ((l1.length : Int) == 0), l1, ao4, cap4, xs1, hle1, rl2, (Sub.all rfl), fun w' s => (s.selectT 6 [2, 3, 4, 5] (by decide) rfl rfl), hm⟩
    replace hm := ite_f hc7 hm
    refine WP.skip (tn (WP.seq (WP.region (Vm rfl (V rfl (ov_nilCheckB rfl rfl) (V rfl (ov_fieldAddr underlying86 rfl rfl rfl sizeOf3 rfl rfl) (Vl 5 isAgg3 rfl (V rfl (ov_add rfl rfl rfl) (V rfl (ov_nilCheckB rfl rfl) (V rfl (ov_fieldAddr underlying86 rfl rfl rfl sizeOf3 rfl rfl) ?_))))))))))
    refine ws0 rfl (os_store (i := 5) (vs := [(.int .i64 (IntKind.wrap .i64 (i1 + 1)))]) (cs' := [(.slice ao1 p_r.tokens.length cap1), (.int .i64 (IntKind.wrap .i64 (i1 + 1))), (.bool c1)]) sizeOf3 rfl rfl rfl rfl rfl rfl rfl rfl rfl ?_)
    refine WL.nil (tn (WP.seq (WP.region (Vm rfl ?_))))
    refine WL.weaken (fun _ s => s.selectT 6 [5, 0, 1, 2, 3, 4] (by decide) rfl rfl) ?_
    obtain ⟨r2, e3, hm⟩ := bind_some hm
    refine ws rfl (os_bcon call84 rfl rfl (program_reader_takes_con (Rdr.mk p_r.tokens (IntKind.wrap .i64 (i1 + 1)) c1) 2 [43] bp1 ao1 cap1 w0 H0 (.blk b4 89 [(.int .i64 x1.kind), (mkS x1.text), (.int .i64 x1.at_)] :: .blk b3 89 [(.int .i64 x1.kind), (mkS x1.text), (.int .i64 x1.at_)] :: .row 112 (encStroke).size l1.length (.slice ao4 l1.length cap4) xs1 :: .blk b2 25 [(.slice ao4 l1.length cap4), (.int .i64 0)] :: .blk b1 28 [(.int .i64 0), (.slice none 0 0), (.int .i64 0), (.int .i64 0), (mkS []), (.slice none 0 0)] :: tl) H1 h1 hc1 hG r2 e3) (fun rr1 H2 ms1 hle2 hR1 => ?_))
    replace h1 := h1.mono hle2
    replace rl2 := rl2.mono hle2
    replace hG := hG.mono hle2
    obtain ⟨rfl, rfl⟩ := hR1
    refine Va rfl (WL.nil (tn ?_))
    obtain ⟨k2, hk2, hm⟩ := joinK_some hm
    refine WP.seq_join (fun g' S' => ∃ (H4 : Heap) (i2 : Int) (c2 : Bool), Le H2 H4 ∧ Sub [(0, (pB bp1 0)), (2, (pB b1 0)), (3, (pB b2 0)), (5, (.int .i64 r1)), (6, (.bool r2.1)), (1000000007, (.bool false))] g' ∧ (∀ w', S' w' → St w0 H0 (.blk bp1 86 [(.slice ao1 p_r.tokens.length cap1), (.int .i64 i2), (.bool c2)] :: .row 112 (encStroke).size l1.length (.slice ao4 l1.length cap4) xs1 :: .blk b2 25 [(.slice ao4 l1.length cap4), (.int .i64 0)] :: .blk b1 28 [(.int .i64 0), (.slice none 0 0), (.int .i64 0), (.int .i64 0), (mkS []), (.slice none 0 0)] :: tl) H4 w') ∧ k2 i2 c2 = some r) ?_ ?_
    ·
     refine WP.seq (WP.region (Vm rfl (V rfl (ov_not rfl rfl) (WL.nil (tn ?_)))))
     refine WP.cond rfl (fun hc8 => ?_) (fun hc8 => ?_)
     ·
      replace hm := ite_t hc8 hm
      refine WP.region (Vm rfl ?_)
      obtain ⟨r3, e4, hm⟩ := bind_some hm
      refine ws rfl (os_bcon call85 rfl rfl (program_reader_needs_con (Rdr.mk p_r.tokens r2.2.1 r2.2.2) 2 [45] bp1 ao1 cap1 w0 H0 (.blk b4 89 [(.int .i64 x1.kind), (mkS x1.text), (.int .i64 x1.at_)] :: .blk b3 89 [(.int .i64 x1.kind), (mkS x1.text), (.int .i64 x1.at_)] :: .row 112 (encStroke).size l1.length (.slice ao4 l1.length cap4) xs1 :: .blk b2 25 [(.slice ao4 l1.length cap4), (.int .i64 0)] :: .blk b1 28 [(.int .i64 0), (.slice none 0 0), (.int .i64 0), (.int .i64 0), (mkS []), (.slice none 0 0)] :: tl) H2 h1 hc1 hG r3 e4) (fun rr2 H3 ms2 hle3 hR2 => ?_))
      replace h1 := h1.mono hle3
      replace rl2 := rl2.mono hle3
      replace hG := hG.mono hle3
      obtain ⟨rfl, rfl⟩ := hR2
      refine WL.nil (tn ?_)
      exact ⟨H3, r3.2.1, r3.2.2, hle3, (Sub.all rfl), fun w' s => (s.selectT 6 [0, 3, 4, 5] (by decide) rfl rfl), hm⟩
     replace hm := ite_f hc8 hm
     refine WP.skip (tn ?_)
     exact ⟨H2, r2.2.1, r2.2.2, (Le.refl _), (Sub.all rfl), fun w' s => (s.selectT 6 [0, 3, 4, 5] (by decide) rfl rfl), hm⟩
    rintro g' S' ⟨H4, i2, c2, hle4, hsub2, hS2, hm⟩
    refine WP.sub hsub2 (WP.weaken hS2 ?_)
    replace hm := (congrFun (congrFun hk2 i2) c2).symm.trans hm
    replace h1 := h1.mono hle4
    replace rl2 := rl2.mono hle4
    replace hG := hG.mono hle4
    refine WP.region (V rfl (ov_fieldAddr underlying25 rfl rfl rfl sizeOf23 rfl rfl) (Vl 2 isAgg23 rfl (Vm rfl (Vm rfl (V rfl (ov_build (r := (.agg #[(.int .i64 r1), (.bool r2.1)])) rfl rfl (fun _ => by kernel_rfl)) ?_)))))
    have rl3 : RL H4 encStroke ([(Stroke.mk r1 r2.1)] : List Stroke) [(.int .i64 r1), (.bool r2.1)] := RL.cons (cs := [(.int .i64 r1), (.bool r2.1)]) (xs := []) rfl (RL.nil _ _)
    refine ws rfl (os_buildSlice (cs := [(.int .i64 r1), (.bool r2.1)]) (E := 112) (sz := 2) rfl rfl (fun _ => by kernel_rfl) rfl (by decide) (fun b5 => ?_))
    obtain ⟨l2, e5, hm⟩ := bind_some hm
    refine ws rfl (os_app (i := 2) (j := 0) (En := encStroke) (xs := xs1) (ys := [(.int .i64 r1), (.bool r2.1)]) underlying23 (by kernel_rfl : (prog.info? 112).map (fun i => (i.zero, i.size, i.bytes)) = some (some (.agg #[(.int .i64 0), (.bool false)]), (encStroke).size, 16)) rfl (by decide) rfl rfl rfl rfl rfl rfl rl2 rl3 e5 (fun ao5 cap5 rl4 => ?_))
    refine V rfl (ov_fieldAddr underlying25 rfl rfl rfl sizeOf23 rfl rfl) ?_
    refine ws0 rfl (os_store (i := 3) (vs := [(.slice ao5 (l1 ++ ([(Stroke.mk r1 r2.1)] : List Stroke)).length cap5)]) (cs' := [(.slice ao5 (l1 ++ ([(Stroke.mk r1 r2.1)] : List Stroke)).length cap5), (.int .i64 0)]) sizeOf23 rfl rfl rfl rfl rfl rfl rfl rfl rfl ?_)
    refine WL.nil (bn (tn ?_))
    exact ⟨H4, i2, c2, (l1 ++ ([(Stroke.mk r1 r2.1)] : List Stroke)), ao5, cap5, (xs1 ++ [(.int .i64 r1), (.bool r2.1)]), ((hle1.trans hle2).trans hle4), rl4, (Sub.all rfl), fun w' s => (s.selectT 5 [2, 3, 4, 1] (by decide) rfl rfl), hm⟩
   exact ALs.nil
  replace hm := ite_f hc4 hm
  refine WP.exit (then_exit (then_exit (block_here (tn ?_))))
  exact ⟨H1, i1, c1, l1, ao4, cap4, xs1, hle1, rl2, (Sub.all rfl), fun w' s => s, hm⟩
 rintro g' S' ⟨H5, i3, c3, l3, ao6, cap6, xs2, hle5, rl5, hsub3, hS3, hm⟩
 refine WP.sub hsub3 (WP.weaken hS3 ?_)
 replace hm := (congrFun (congrFun (congrFun hk1 i3) c3) l3).symm.trans hm
 replace h1 := h1.mono hle5
 replace hG := hG.mono hle5
 obtain ⟨k3, hk3, hm⟩ := joinK_some hm
 refine WP.seq_join (fun g' S' => ∃ (H7 : Heap) (i4 : Int) (c4 : Bool) (i5 : Int), Le H5 H7 ∧ Sub [(2, (pB b1 0)), (3, (pB b2 0)), (1000000007, (.bool false))] g' ∧ (∀ w', S' w' → St w0 H0 (.blk bp1 86 [(.slice ao1 p_r.tokens.length cap1), (.int .i64 i4), (.bool c4)] :: .row 112 (encStroke).size l3.length (.slice ao6 l3.length cap6) xs2 :: .blk b2 25 [(.slice ao6 l3.length cap6), (.int .i64 i5)] :: .blk b1 28 [(.int .i64 0), (.slice none 0 0), (.int .i64 0), (.int .i64 0), (mkS []), (.slice none 0 0)] :: tl) H7 w') ∧ k3 i4 c4 i5 = some r) ?_ ?_
 ·
  refine WP.seq (WP.region (Vm rfl ?_))
  refine ws rfl (os_inline (cap := []) (vs := [(pB bp1 0)]) call46 rfl rfl rfl func46 rfl 13 ntmps46 rfl (fun w' s => ?_))
  refine WP.seq (WP.region ?_)
  refine ws rfl (os_alloc (cs := [(.int .i64 0), (mkS []), (.int .i64 0)]) zeroValue89 rfl rfl (fun b6 => ?_))
  refine WL.nil (tn (WP.seq ?_))
  refine WP.region_any (S₀ := St w0 H0 (.row 112 (encStroke).size l3.length (.slice ao6 l3.length cap6) xs2 :: .blk b2 25 [(.slice ao6 l3.length cap6), (.int .i64 0)] :: .blk b1 28 [(.int .i64 0), (.slice none 0 0), (.int .i64 0), (.int .i64 0), (mkS []), (.slice none 0 0)] :: .blk bp1 86 [(.slice ao1 p_r.tokens.length cap1), (.int .i64 i3), (.bool c3)] :: tl) H5) 11 rfl (by kernel_rfl) (fun w' s => (s.selectT 5 [1, 2, 3, 4] (by decide) rfl rfl)) (fun _ s => s.drew) ?_
  refine TQ 0 (by kernel_rfl) rfl (ov_move rfl rfl) (TQ 1 (by kernel_rfl) rfl (ov_nilCheckB rfl rfl) (TQ 2 (by kernel_rfl) rfl (ov_fieldAddr underlying86 rfl rfl rfl sizeOf81 rfl rfl) (TQ 3 (by kernel_rfl) rfl (ov_load_box (i := 3) isAgg81 rfl rfl rfl rfl) (TQ 4 (by kernel_rfl) rfl (ov_move rfl rfl) (TQ 5 (by kernel_rfl) rfl (ov_nilCheckB rfl rfl) (TQ 6 (by kernel_rfl) rfl (ov_fieldAddr underlying86 rfl rfl rfl sizeOf3 rfl rfl) (TQ 7 (by kernel_rfl) rfl (ov_load_box (i := 3) isAgg3 rfl rfl rfl rfl) ?_)))))))
  obtain ⟨x2, e6, hm⟩ := bind_some hm
  obtain ⟨h9, h10, h11, cs2, h12, h13⟩ := h1.get e6 (by decide)
  obtain rfl : cs2 = [(.int .i64 x2.kind), (mkS x2.text), (.int .i64 x2.at_)] := h12
  refine TQ 8 (by kernel_rfl) rfl (ov_indexAddr underlying81 sizeOf89 rfl rfl rfl h9 h10 h11) (TQ 9 (by kernel_rfl) rfl (ov_load_elems (vs := [(.int .i64 x2.kind), (mkS x2.text), (.int .i64 x2.at_)]) isAgg89 sizeOf89 rfl rfl rfl h13 h11) ?_)
  refine AL.any (rs := [10]) (by kernel_rfl) (by decide) ?_
  refine ALs.cons0 (i := 10) rfl (Runs.free rfl) rfl ?_ ?_
  ·
   refine os_store (i := 0) (vs := [(.int .i64 x2.kind), (mkS x2.text), (.int .i64 x2.at_)]) (cs' := [(.int .i64 x2.kind), (mkS x2.text), (.int .i64 x2.at_)]) sizeOf89 rfl rfl rfl rfl rfl rfl rfl rfl rfl ?_
   refine ⟨fun w' s => (s.selectT 5 [1, 2, 3, 4] (by decide) rfl rfl), ?_⟩
   refine AL.done (by kernel_rfl) ?_
   refine tn (WP.ret ?_)
   refine retQ_ret (v := (.agg #[(.int .i64 x2.kind), (mkS x2.text), (.int .i64 x2.at_)])) results46 (Res.cell rfl (box_loads (i := 0) isAgg89 sizeOf89 rfl rfl) Res.nil) rfl (fun w' s => ⟨_, ?_, s⟩)
   refine V rfl (ov_field (cs := [(.int .i64 x2.kind), (mkS x2.text), (.int .i64 x2.at_)]) (r := (mkS x2.text)) rfl rfl (fun _ => by kernel_rfl)) (Va rfl (WL.nil (tn (WP.seq (WP.region (Vm rfl ?_))))))
   refine WL.weaken (fun _ s => s.selectT 5 [4, 0, 1, 2, 3] (by decide) rfl rfl) ?_
   obtain ⟨r4, e7, hm⟩ := bind_some hm
   refine ws rfl (os_bcon call84 rfl rfl (program_reader_takes_con (Rdr.mk p_r.tokens i3 c3) 1 [] bp1 ao1 cap1 w0 H0 (.blk b6 89 [(.int .i64 x2.kind), (mkS x2.text), (.int .i64 x2.at_)] :: .row 112 (encStroke).size l3.length (.slice ao6 l3.length cap6) xs2 :: .blk b2 25 [(.slice ao6 l3.length cap6), (.int .i64 0)] :: .blk b1 28 [(.int .i64 0), (.slice none 0 0), (.int .i64 0), (.int .i64 0), (mkS []), (.slice none 0 0)] :: tl) H5 h1 hc1 hG r4 e7) (fun rr3 H6 ms3 hle6 hR3 => ?_))
   replace rl5 := rl5.mono hle6
   replace hG := hG.mono hle6
   obtain ⟨rfl, rfl⟩ := hR3
   refine WL.nil (tn ?_)
   refine WP.cond rfl (fun hc9 => ?_) (fun hc9 => ?_)
   ·
    replace hm := ite_t hc9 hm
    refine WP.region (Vm rfl ?_)
    obtain ⟨r5, e8, hm⟩ := bind_some hm
    refine wo rfl (oq_con (r := (.int .i64 r5)) call86 rfl rfl (fun w' s => ⟨_, (program_value_con x2.text  w' H6 s.hold hG r5 e8)⟩)) ?_
    refine V rfl (ov_fieldAddr underlying25 rfl rfl rfl sizeOf3 rfl rfl) ?_
    refine ws0 rfl (os_store (i := 3) (vs := [(.int .i64 r5)]) (cs' := [(.slice ao6 l3.length cap6), (.int .i64 r5)]) sizeOf3 rfl rfl rfl rfl rfl rfl rfl rfl rfl ?_)
    refine WL.nil (tn ?_)
    exact ⟨H6, r4.2.1, r4.2.2, r5, hle6, (Sub.all rfl), fun w' s => (s.selectT 5 [0, 2, 3, 4] (by decide) rfl rfl), hm⟩
   replace hm := ite_f hc9 hm
   refine WP.skip (tn ?_)
   exact ⟨H6, r4.2.1, r4.2.2, 0, hle6, (Sub.all rfl), fun w' s => (s.selectT 5 [0, 2, 3, 4] (by decide) rfl rfl), hm⟩
  exact ALs.nil
 rintro g' S' ⟨H7, i4, c4, i5, hle7, hsub4, hS4, hm⟩
 refine WP.sub hsub4 (WP.weaken hS4 ?_)
 replace hm := (congrFun (congrFun (congrFun hk3 i4) c4) i5).symm.trans hm
 replace rl5 := rl5.mono hle7
 refine WP.seq (WP.region (V rfl (ov_load_whole (i := 2) isAgg25 sizeOf25 rfl rfl rfl rfl) (V rfl (ov_build (r := (.agg #[(.int .i64 0), (.slice ao6 l3.length cap6), (.int .i64 i5), (.int .i64 0), (mkS []), (.slice none 0 0)])) rfl rfl (fun _ => by kernel_rfl)) ?_)))
 refine ws0 rfl (os_store (i := 3) (vs := [(.int .i64 0), (.slice ao6 l3.length cap6), (.int .i64 i5), (.int .i64 0), (mkS []), (.slice none 0 0)]) (cs' := [(.int .i64 0), (.slice ao6 l3.length cap6), (.int .i64 i5), (.int .i64 0), (mkS []), (.slice none 0 0)]) sizeOf28 rfl rfl rfl rfl rfl rfl rfl rfl rfl ?_)
 refine WL.nil (tn (WP.ret ?_))
 obtain rfl := Option.some.inj hm
 refine retQ_ret results87 (Res.cell rfl (box_loads (i := 3) isAgg28 sizeOf28 rfl rfl) Res.nil) rfl (fun w' s => ?_)
 obtain ⟨H8, hc10, hle8, h14, s⟩ := St.row_held (s.selectT 4 [1, 0, 2, 3] (by decide) rfl rfl) rl5
 exact ⟨H8, _, ((hle5.trans hle7).trans hle8), ⟨ao6, cap6, none, 0, rfl, rfl, h14, hc10, SL.nil _ _ _, Nat.le_refl _⟩, (s.selectT 3 [0] (by decide) rfl rfl)⟩
theorem program_reader_node_body_con (self : Rdr → Option (Node × Int × Bool)) (hself : ∀ (p_r : Rdr) (bp1 : Nat) (ao1 : Option Addr) (cap1 : Nat) (w0 : World) (H0 : Heap) (tl : List Ent) (H : Heap) (h1 : SL H encToken ao1 p_r.tokens) (hc1 : p_r.tokens.length ≤ cap1) (hG : Glob H) (r : (Node × Int × Bool)) (hm : self p_r = some r), BCon prog 45 [(pB bp1 0)] w0 H0 (.blk bp1 86 [(.slice ao1 p_r.tokens.length cap1), (.int .i64 p_r.at_), (.bool p_r.bad)] :: tl) H (fun v H' ms' => ∃ (ao2 : Option Addr) (cap2 : Nat) (ao3 : Option Addr) (cap3 : Nat), v = (.agg #[(.int .i64 r.1.kind), (.slice ao2 r.1.step.strokes.length cap2), (.int .i64 r.1.step.wait), (.int .i64 r.1.count), (mkS r.1.name), (.slice ao3 r.1.nodes.length cap3)]) ∧ ms' = (.blk bp1 86 [(.slice ao1 p_r.tokens.length cap1), (.int .i64 r.2.1), (.bool r.2.2)] :: tl) ∧ SL H' encStroke ao2 r.1.step.strokes ∧ r.1.step.strokes.length ≤ cap2 ∧ SL H' encNode ao3 r.1.nodes ∧ r.1.nodes.length ≤ cap3)) (p_r : Rdr) (bp1 : Nat) (ao1 : Option Addr) (cap1 : Nat) (w0 : World) (H0 : Heap) (tl : List Ent) (H : Heap) (h1 : SL H encToken ao1 p_r.tokens) (hc1 : p_r.tokens.length ≤ cap1) (hG : Glob H) (r : (Node × Int × Bool)) (hm : program_reader_node_body self p_r = some r) :
  BCon prog 45 [(pB bp1 0)] w0 H0 (.blk bp1 86 [(.slice ao1 p_r.tokens.length cap1), (.int .i64 p_r.at_), (.bool p_r.bad)] :: tl) H (fun v H' ms' => ∃ (ao2 : Option Addr) (cap2 : Nat) (ao3 : Option Addr) (cap3 : Nat), v = (.agg #[(.int .i64 r.1.kind), (.slice ao2 r.1.step.strokes.length cap2), (.int .i64 r.1.step.wait), (.int .i64 r.1.count), (mkS r.1.name), (.slice ao3 r.1.nodes.length cap3)]) ∧ ms' = (.blk bp1 86 [(.slice ao1 p_r.tokens.length cap1), (.int .i64 r.2.1), (.bool r.2.2)] :: tl) ∧ SL H' encStroke ao2 r.1.step.strokes ∧ r.1.step.strokes.length ≤ cap2 ∧ SL H' encNode ao3 r.1.nodes ∧ r.1.nodes.length ≤ cap3) := by
 unfold program_reader_node_body at hm
 refine bcon_of func45 rfl 54 ntmps45 rfl ?_
 refine WP.seq (WP.region ?_)
 refine ws rfl (os_alloc (cs := [(.int .i64 0), (.slice none 0 0), (.int .i64 0), (.int .i64 0), (mkS []), (.slice none 0 0)]) zeroValue28 rfl rfl (fun b1 => ?_))
 refine WL.nil (tn ?_)
 obtain ⟨k1, hk1, hm⟩ := joinK_some hm
 refine WP.seq_join (fun g' S' => ∃ (H19 : Heap) (i3 : Int) (c3 : Bool), Le H H19 ∧ Sub [(0, (pB bp1 0)), (2, (pB b1 0)), (1000000007, (.bool false))] g' ∧ (∀ w', S' w' → St w0 H0 (.blk bp1 86 [(.slice ao1 p_r.tokens.length cap1), (.int .i64 i3), (.bool c3)] :: .blk b1 28 [(.int .i64 0), (.slice none 0 0), (.int .i64 0), (.int .i64 0), (mkS []), (.slice none 0 0)] :: tl) H19 w') ∧ k1 i3 c3 = some r) ?_ ?_
 ·
  refine WP.block (WP.seq (WP.region (Vm rfl ?_)))
  refine WL.weaken (fun _ s => s.selectT 2 [1, 0] (by decide) rfl rfl) ?_
  obtain ⟨r1, e1, hm⟩ := bind_some hm
  refine ws rfl (os_bcon call84 rfl rfl (program_reader_takes_con p_r 2 [123] bp1 ao1 cap1 w0 H0 (.blk b1 28 [(.int .i64 0), (.slice none 0 0), (.int .i64 0), (.int .i64 0), (mkS []), (.slice none 0 0)] :: tl) H h1 hc1 hG r1 e1) (fun rr1 H1 ms1 hle1 hR1 => ?_))
  replace h1 := h1.mono hle1
  replace hG := hG.mono hle1
  obtain ⟨rfl, rfl⟩ := hR1
  refine Va rfl (WL.nil (tn ?_))
  refine WP.cond rfl (fun hc4 => ?_) (fun hc4 => ?_)
  ·
   replace hm := ite_t hc4 hm
   refine WP.seq (WP.region (Vm rfl ?_))
   obtain ⟨r2, e2, hm⟩ := bind_some hm
   refine ws rfl (os_bcon call45 rfl rfl (hself (Rdr.mk p_r.tokens r1.2.1 r1.2.2) bp1 ao1 cap1 w0 H0 (.blk b1 28 [(.int .i64 0), (.slice none 0 0), (.int .i64 0), (.int .i64 0), (mkS []), (.slice none 0 0)] :: tl) H1 h1 hc1 hG r2 e2) (fun rr2 H2 ms2 hle2 hR2 => ?_))
   replace h1 := h1.mono hle2
   replace hG := hG.mono hle2
   obtain ⟨ao4, cap4, ao5, cap5, rfl, rfl, h4, hc5, h5, hc6⟩ := hR2
   have rl1 : RL H2 encNode ([r2.1] : List Node) [(.int .i64 r2.1.kind), (.slice ao4 r2.1.step.strokes.length cap4), (.int .i64 r2.1.step.wait), (.int .i64 r2.1.count), (mkS r2.1.name), (.slice ao5 r2.1.nodes.length cap5)] := RL.cons (cs := [(.int .i64 r2.1.kind), (.slice ao4 r2.1.step.strokes.length cap4), (.int .i64 r2.1.step.wait), (.int .i64 r2.1.count), (mkS r2.1.name), (.slice ao5 r2.1.nodes.length cap5)]) (xs := []) (encNode_make ⟨ao4, cap4, ao5, cap5, rfl, h4, hc5, h5, hc6⟩) (RL.nil _ _)
   refine ws rfl (os_buildSlice (cs := [(.int .i64 r2.1.kind), (.slice ao4 r2.1.step.strokes.length cap4), (.int .i64 r2.1.step.wait), (.int .i64 r2.1.count), (mkS r2.1.name), (.slice ao5 r2.1.nodes.length cap5)]) (E := 28) (sz := 6) rfl rfl (fun _ => by kernel_rfl) rfl (by decide) (fun b2 => ?_))
   refine V rfl (ov_build (r := (.agg #[(.int .i64 1), (.slice none 0 0), (.int .i64 0), (.int .i64 0), (mkS []), (.slice (some ⟨b2, 0, none⟩) ([r2.1] : List Node).length 1)])) rfl rfl (fun _ => by kernel_rfl)) ?_
   refine ws rfl (os_alloc (cs := [(.int .i64 0), (.slice none 0 0), (.int .i64 0), (.int .i64 0), (mkS []), (.slice none 0 0)]) zeroValue28 rfl rfl (fun b3 => ?_))
   refine ws0 rfl (os_store (i := 0) (vs := [(.int .i64 1), (.slice none 0 0), (.int .i64 0), (.int .i64 0), (mkS []), (.slice (some ⟨b2, 0, none⟩) ([r2.1] : List Node).length 1)]) (cs' := [(.int .i64 1), (.slice none 0 0), (.int .i64 0), (.int .i64 0), (mkS []), (.slice (some ⟨b2, 0, none⟩) ([r2.1] : List Node).length 1)]) sizeOf28 rfl rfl rfl rfl rfl rfl rfl rfl rfl ?_)
   refine WL.nil (tn ?_)
   obtain ⟨k2, hk2, hm⟩ := joinK_some hm
   refine WP.seq_join (fun g' S' => ∃ (H6 : Heap) (i2 : Int) (c2 : Bool) (l3 : (List Node)) (ao10 : Option Addr) (cap10 : Nat) (xs2 : List Value), Le H2 H6 ∧ RL H6 encNode l3 xs2 ∧ Sub [(0, (pB bp1 0)), (2, (pB b1 0)), (3, (pB b3 0)), (1000000007, (.bool false))] g' ∧ (∀ w', S' w' → St w0 H0 (.blk bp1 86 [(.slice ao1 p_r.tokens.length cap1), (.int .i64 i2), (.bool c2)] :: .blk b3 28 [(.int .i64 1), (.slice none 0 0), (.int .i64 0), (.int .i64 0), (mkS []), (.slice ao10 l3.length cap10)] :: .row 28 (encNode).size l3.length (.slice ao10 l3.length cap10) xs2 :: .blk b1 28 [(.int .i64 0), (.slice none 0 0), (.int .i64 0), (.int .i64 0), (mkS []), (.slice none 0 0)] :: tl) H6 w') ∧ k2 i2 c2 l3 = some r) ?_ ?_
   ·
    refine WP.block ?_
    refine WP.loop (fun m1 g' S' => ∃ (H3 : Heap) (i1 : Int) (c1 : Bool) (l1 : (List Node)) (ao6 : Option Addr) (cap6 : Nat) (xs1 : List Value), Le H2 H3 ∧ RL H3 encNode l1 xs1 ∧ Sub [(0, (pB bp1 0)), (2, (pB b1 0)), (3, (pB b3 0)), (1000000007, (.bool false))] g' ∧ (∀ w', S' w' → St w0 H0 (.blk b3 28 [(.int .i64 1), (.slice none 0 0), (.int .i64 0), (.int .i64 0), (mkS []), (.slice ao6 l1.length cap6)] :: .row 28 (encNode).size l1.length (.slice ao6 l1.length cap6) xs1 :: .blk bp1 86 [(.slice ao1 p_r.tokens.length cap1), (.int .i64 i1), (.bool c1)] :: .blk b1 28 [(.int .i64 0), (.slice none 0 0), (.int .i64 0), (.int .i64 0), (mkS []), (.slice none 0 0)] :: tl) H3 w') ∧ program_reader_node_loop1 p_r self k2 m1 i1 c1 l1 = some r) ((p_r.tokens.length + 2)) ⟨H2, r2.2.1, r2.2.2, ([r2.1] : List Node), (some ⟨b2, 0, none⟩), 1, [(.int .i64 r2.1.kind), (.slice ao4 r2.1.step.strokes.length cap4), (.int .i64 r2.1.step.wait), (.int .i64 r2.1.count), (mkS r2.1.name), (.slice ao5 r2.1.nodes.length cap5)], (Le.refl _), rl1, (Sub.all rfl), fun w' s => s, hm⟩ ?_ ?_
    ·
     rintro g' S' ⟨_, _, _, _, _, _, _, _, _, _, _, hm⟩
     exact none_some hm
    rintro m1 g' S' ⟨H3, i1, c1, l1, ao6, cap6, xs1, hle3, rl2, hsub1, hS1, hm⟩
    refine WP.sub hsub1 (WP.weaken hS1 ?_)
    rw [program_reader_node_loop1] at hm
    replace h1 := h1.mono hle3
    replace hG := hG.mono hle3
    refine WP.seq (WP.seq (WP.region (Vm rfl ?_)))
    refine WL.weaken (fun _ s => s.selectT 4 [2, 0, 1, 3] (by decide) rfl rfl) ?_
    obtain ⟨r3, e3, hm⟩ := bind_some hm
    refine ws rfl (os_bcon call84 rfl rfl (program_reader_takes_con (Rdr.mk p_r.tokens i1 c1) 2 [59] bp1 ao1 cap1 w0 H0 (.blk b3 28 [(.int .i64 1), (.slice none 0 0), (.int .i64 0), (.int .i64 0), (mkS []), (.slice ao6 l1.length cap6)] :: .row 28 (encNode).size l1.length (.slice ao6 l1.length cap6) xs1 :: .blk b1 28 [(.int .i64 0), (.slice none 0 0), (.int .i64 0), (.int .i64 0), (mkS []), (.slice none 0 0)] :: tl) H3 h1 hc1 hG r3 e3) (fun rr3 H4 ms3 hle4 hR3 => ?_))
    replace h1 := h1.mono hle4
    replace rl2 := rl2.mono hle4
    replace hG := hG.mono hle4
    obtain ⟨rfl, rfl⟩ := hR3
    refine WL.nil (tn ?_)
    refine WP.cond rfl (fun hc7 => ?_) (fun hc7 => ?_)
    ·
     replace hm := ite_t hc7 hm
     refine WP.skip (tn (WP.block ?_))
     refine WP.region_any (S₀ := St w0 H0 (.blk b1 28 [(.int .i64 0), (.slice none 0 0), (.int .i64 0), (.int .i64 0), (mkS []), (.slice none 0 0)] :: tl) H4) 8 rfl (by kernel_rfl) (fun w' s => (s.selectT 4 [3] (by decide) rfl rfl)) (fun _ s => s.drew) ?_
     refine TQ 0 (by kernel_rfl) rfl (ov_fieldAddr underlying28 rfl rfl rfl sizeOf26 rfl rfl) (TQ 2 (by kernel_rfl) rfl (ov_move rfl rfl) ?_)
     refine AL.any (rs := [1, 3]) (by kernel_rfl) (by decide) ?_
     refine ALs.cons (i := 1) rfl (Runs.free rfl) rfl rfl ?_ ?_
     ·
      refine OQ.step (OV.quiet (ov_load_box (i := 1) isAgg26 rfl rfl rfl rfl)) ?_
      refine ⟨fun w' s => (s.selectT 4 [3] (by decide) rfl rfl), ?_⟩
      refine AL.any (rs := [3]) (by kernel_rfl) (by decide) ?_
      refine ALs.cons (i := 3) rfl (Runs.free rfl) rfl rfl ?_ ?_
      ·
       obtain ⟨r4, e4, hm⟩ := bind_some hm
       refine os_bcon call45 rfl rfl (hself (Rdr.mk p_r.tokens r3.2.1 r3.2.2) bp1 ao1 cap1 w0 H0 (.blk b3 28 [(.int .i64 1), (.slice none 0 0), (.int .i64 0), (.int .i64 0), (mkS []), (.slice ao6 l1.length cap6)] :: .row 28 (encNode).size l1.length (.slice ao6 l1.length cap6) xs1 :: .blk b1 28 [(.int .i64 0), (.slice none 0 0), (.int .i64 0), (.int .i64 0), (mkS []), (.slice none 0 0)] :: tl) H4 h1 hc1 hG r4 e4) (fun rr4 H5 ms4 hle5 hR4 => ?_)
       replace h1 := h1.mono hle5
       replace rl2 := rl2.mono hle5
       replace hG := hG.mono hle5
       obtain ⟨ao7, cap7, ao8, cap8, rfl, rfl, h6, hc8, h7, hc9⟩ := hR4
       refine ⟨fun w' s => ((s.selectT 4 [3] (by decide) rfl rfl).heap hle5), ?_⟩
       refine AL.any (rs := [4]) (by kernel_rfl) (by decide) ?_
       refine ALs.cons (i := 4) rfl (Runs.free rfl) rfl rfl ?_ ?_
       ·
        have rl3 : RL H5 encNode ([r4.1] : List Node) [(.int .i64 r4.1.kind), (.slice ao7 r4.1.step.strokes.length cap7), (.int .i64 r4.1.step.wait), (.int .i64 r4.1.count), (mkS r4.1.name), (.slice ao8 r4.1.nodes.length cap8)] := RL.cons (cs := [(.int .i64 r4.1.kind), (.slice ao7 r4.1.step.strokes.length cap7), (.int .i64 r4.1.step.wait), (.int .i64 r4.1.count), (mkS r4.1.name), (.slice ao8 r4.1.nodes.length cap8)]) (xs := []) (encNode_make ⟨ao7, cap7, ao8, cap8, rfl, h6, hc8, h7, hc9⟩) (RL.nil _ _)
        refine os_buildSlice (cs := [(.int .i64 r4.1.kind), (.slice ao7 r4.1.step.strokes.length cap7), (.int .i64 r4.1.step.wait), (.int .i64 r4.1.count), (mkS r4.1.name), (.slice ao8 r4.1.nodes.length cap8)]) (E := 28) (sz := 6) rfl rfl (fun _ => by kernel_rfl) rfl (by decide) (fun b4 => ?_)
        refine ⟨fun w' s => ((s.selectT 5 [4] (by decide) rfl rfl).heap hle5), ?_⟩
        refine AL.any (rs := [5]) (by kernel_rfl) (by decide) ?_
        refine ALs.cons (i := 5) rfl (Runs.free rfl) rfl rfl ?_ ?_
        ·
         obtain ⟨l2, e5, hm⟩ := bind_some hm
         refine os_app (i := 3) (j := 0) (En := encNode) (xs := xs1) (ys := [(.int .i64 r4.1.kind), (.slice ao7 r4.1.step.strokes.length cap7), (.int .i64 r4.1.step.wait), (.int .i64 r4.1.count), (mkS r4.1.name), (.slice ao8 r4.1.nodes.length cap8)]) underlying26 (by kernel_rfl : (prog.info? 28).map (fun i => (i.zero, i.size, i.bytes)) = some (some (.agg #[(.int .i64 0), (.slice none 0 0), (.int .i64 0), (.int .i64 0), (mkS []), (.slice none 0 0)]), (encNode).size, 88)) rfl (by decide) rfl rfl rfl rfl rfl rfl rl2 rl3 e5 (fun ao9 cap9 rl4 => ?_)
         refine ⟨fun w' s => ((s.selectT 5 [4] (by decide) rfl rfl).heap hle5), ?_⟩
         refine TQ 6 (by kernel_rfl) rfl (ov_fieldAddr underlying28 rfl rfl rfl sizeOf26 rfl rfl) ?_
         refine AL.any (rs := [7]) (by kernel_rfl) (by decide) ?_
         refine ALs.cons0 (i := 7) rfl (Runs.free rfl) rfl ?_ ?_
         ·
          refine os_store (i := 2) (vs := [(.slice ao9 (l1 ++ ([r4.1] : List Node)).length cap9)]) (cs' := [(.int .i64 1), (.slice none 0 0), (.int .i64 0), (.int .i64 0), (mkS []), (.slice ao9 (l1 ++ ([r4.1] : List Node)).length cap9)]) sizeOf26 rfl rfl rfl rfl rfl rfl rfl rfl rfl ?_
          refine ⟨fun w' s => ((s.selectT 5 [4] (by decide) rfl rfl).heap hle5), ?_⟩
          refine AL.done (by kernel_rfl) ?_
          refine bn (tn ?_)
          exact ⟨H5, r4.2.1, r4.2.2, (l1 ++ ([r4.1] : List Node)), ao9, cap9, (xs1 ++ [(.int .i64 r4.1.kind), (.slice ao7 r4.1.step.strokes.length cap7), (.int .i64 r4.1.step.wait), (.int .i64 r4.1.count), (mkS r4.1.name), (.slice ao8 r4.1.nodes.length cap8)]), ((hle3.trans hle4).trans hle5), rl4, (Sub.all rfl), fun w' s => (s.selectT 5 [2, 3, 1, 4] (by decide) rfl rfl), hm⟩
         exact ALs.nil
        exact ALs.nil
       exact ALs.nil
      exact ALs.nil
     refine ALs.cons (i := 3) rfl (Runs.free rfl) rfl rfl ?_ ?_
     ·
      obtain ⟨r4, e4, hm⟩ := bind_some hm
      refine os_bcon call45 rfl rfl (hself (Rdr.mk p_r.tokens r3.2.1 r3.2.2) bp1 ao1 cap1 w0 H0 (.blk b3 28 [(.int .i64 1), (.slice none 0 0), (.int .i64 0), (.int .i64 0), (mkS []), (.slice ao6 l1.length cap6)] :: .row 28 (encNode).size l1.length (.slice ao6 l1.length cap6) xs1 :: .blk b1 28 [(.int .i64 0), (.slice none 0 0), (.int .i64 0), (.int .i64 0), (mkS []), (.slice none 0 0)] :: tl) H4 h1 hc1 hG r4 e4) (fun rr4 H5 ms4 hle5 hR4 => ?_)
      replace h1 := h1.mono hle5
      replace rl2 := rl2.mono hle5
      replace hG := hG.mono hle5
      obtain ⟨ao7, cap7, ao8, cap8, rfl, rfl, h6, hc8, h7, hc9⟩ := hR4
      refine ⟨fun w' s => ((s.selectT 4 [3] (by decide) rfl rfl).heap hle5), ?_⟩
      refine AL.any (rs := [1, 4]) (by kernel_rfl) (by decide) ?_
      refine ALs.cons (i := 1) rfl (Runs.free rfl) rfl rfl ?_ ?_
      ·
       refine OQ.step (OV.quiet (ov_load_box (i := 1) isAgg26 rfl rfl rfl rfl)) ?_
       refine ⟨fun w' s => ((s.selectT 4 [3] (by decide) rfl rfl).heap hle5), ?_⟩
       refine AL.any (rs := [4]) (by kernel_rfl) (by decide) ?_
       refine ALs.cons (i := 4) rfl (Runs.free rfl) rfl rfl ?_ ?_
       ·
        have rl3 : RL H5 encNode ([r4.1] : List Node) [(.int .i64 r4.1.kind), (.slice ao7 r4.1.step.strokes.length cap7), (.int .i64 r4.1.step.wait), (.int .i64 r4.1.count), (mkS r4.1.name), (.slice ao8 r4.1.nodes.length cap8)] := RL.cons (cs := [(.int .i64 r4.1.kind), (.slice ao7 r4.1.step.strokes.length cap7), (.int .i64 r4.1.step.wait), (.int .i64 r4.1.count), (mkS r4.1.name), (.slice ao8 r4.1.nodes.length cap8)]) (xs := []) (encNode_make ⟨ao7, cap7, ao8, cap8, rfl, h6, hc8, h7, hc9⟩) (RL.nil _ _)
        refine os_buildSlice (cs := [(.int .i64 r4.1.kind), (.slice ao7 r4.1.step.strokes.length cap7), (.int .i64 r4.1.step.wait), (.int .i64 r4.1.count), (mkS r4.1.name), (.slice ao8 r4.1.nodes.length cap8)]) (E := 28) (sz := 6) rfl rfl (fun _ => by kernel_rfl) rfl (by decide) (fun b4 => ?_)
        refine ⟨fun w' s => ((s.selectT 5 [4] (by decide) rfl rfl).heap hle5), ?_⟩
        refine AL.any (rs := [5]) (by kernel_rfl) (by decide) ?_
        refine ALs.cons (i := 5) rfl (Runs.free rfl) rfl rfl ?_ ?_
        ·
         obtain ⟨l2, e5, hm⟩ := bind_some hm
         refine os_app (i := 3) (j := 0) (En := encNode) (xs := xs1) (ys := [(.int .i64 r4.1.kind), (.slice ao7 r4.1.step.strokes.length cap7), (.int .i64 r4.1.step.wait), (.int .i64 r4.1.count), (mkS r4.1.name), (.slice ao8 r4.1.nodes.length cap8)]) underlying26 (by kernel_rfl : (prog.info? 28).map (fun i => (i.zero, i.size, i.bytes)) = some (some (.agg #[(.int .i64 0), (.slice none 0 0), (.int .i64 0), (.int .i64 0), (mkS []), (.slice none 0 0)]), (encNode).size, 88)) rfl (by decide) rfl rfl rfl rfl rfl rfl rl2 rl3 e5 (fun ao9 cap9 rl4 => ?_)
         refine ⟨fun w' s => ((s.selectT 5 [4] (by decide) rfl rfl).heap hle5), ?_⟩
         refine TQ 6 (by kernel_rfl) rfl (ov_fieldAddr underlying28 rfl rfl rfl sizeOf26 rfl rfl) ?_
         refine AL.any (rs := [7]) (by kernel_rfl) (by decide) ?_
         refine ALs.cons0 (i := 7) rfl (Runs.free rfl) rfl ?_ ?_
         ·
          refine os_store (i := 2) (vs := [(.slice ao9 (l1 ++ ([r4.1] : List Node)).length cap9)]) (cs' := [(.int .i64 1), (.slice none 0 0), (.int .i64 0), (.int .i64 0), (mkS []), (.slice ao9 (l1 ++ ([r4.1] : List Node)).length cap9)]) sizeOf26 rfl rfl rfl rfl rfl rfl rfl rfl rfl ?_
          refine ⟨fun w' s => ((s.selectT 5 [4] (by decide) rfl rfl).heap hle5), ?_⟩
          refine AL.done (by kernel_rfl) ?_
          refine bn (tn ?_)
          exact ⟨H5, r4.2.1, r4.2.2, (l1 ++ ([r4.1] : List Node)), ao9, cap9, (xs1 ++ [(.int .i64 r4.1.kind), (.slice ao7 r4.1.step.strokes.length cap7), (.int .i64 r4.1.step.wait), (.int .i64 r4.1.count), (mkS r4.1.name), (.slice ao8 r4.1.nodes.length cap8)]), ((hle3.trans hle4).trans hle5), rl4, (Sub.all rfl), fun w' s => (s.selectT 5 [2, 3, 1, 4] (by decide) rfl rfl), hm⟩
         exact ALs.nil
        exact ALs.nil
       exact ALs.nil
      refine ALs.cons (i := 4) rfl (Runs.free rfl) rfl rfl ?_ ?_
      ·
       have rl3 : RL H5 encNode ([r4.1] : List Node) [(.int .i64 r4.1.kind), (.slice ao7 r4.1.step.strokes.length cap7), (.int .i64 r4.1.step.wait), (.int .i64 r4.1.count), (mkS r4.1.name), (.slice ao8 r4.1.nodes.length cap8)] := RL.cons (cs := [(.int .i64 r4.1.kind), (.slice ao7 r4.1.step.strokes.length cap7), (.int .i64 r4.1.step.wait), (.int .i64 r4.1.count), (mkS r4.1.name), (.slice ao8 r4.1.nodes.length cap8)]) (xs := []) (encNode_make ⟨ao7, cap7, ao8, cap8, rfl, h6, hc8, h7, hc9⟩) (RL.nil _ _)
       refine os_buildSlice (cs := [(.int .i64 r4.1.kind), (.slice ao7 r4.1.step.strokes.length cap7), (.int .i64 r4.1.step.wait), (.int .i64 r4.1.count), (mkS r4.1.name), (.slice ao8 r4.1.nodes.length cap8)]) (E := 28) (sz := 6) rfl rfl (fun _ => by kernel_rfl) rfl (by decide) (fun b4 => ?_)
       refine ⟨fun w' s => ((s.selectT 5 [4] (by decide) rfl rfl).heap hle5), ?_⟩
       refine AL.any (rs := [1]) (by kernel_rfl) (by decide) ?_
       refine ALs.cons (i := 1) rfl (Runs.free rfl) rfl rfl ?_ ?_
       ·
        refine OQ.step (OV.quiet (ov_load_box (i := 2) isAgg26 rfl rfl rfl rfl)) ?_
        refine ⟨fun w' s => ((s.selectT 5 [4] (by decide) rfl rfl).heap hle5), ?_⟩
        refine AL.any (rs := [5]) (by kernel_rfl) (by decide) ?_
        refine ALs.cons (i := 5) rfl (Runs.free rfl) rfl rfl ?_ ?_
        ·
         obtain ⟨l2, e5, hm⟩ := bind_some hm
         refine os_app (i := 3) (j := 0) (En := encNode) (xs := xs1) (ys := [(.int .i64 r4.1.kind), (.slice ao7 r4.1.step.strokes.length cap7), (.int .i64 r4.1.step.wait), (.int .i64 r4.1.count), (mkS r4.1.name), (.slice ao8 r4.1.nodes.length cap8)]) underlying26 (by kernel_rfl : (prog.info? 28).map (fun i => (i.zero, i.size, i.bytes)) = some (some (.agg #[(.int .i64 0), (.slice none 0 0), (.int .i64 0), (.int .i64 0), (mkS []), (.slice none 0 0)]), (encNode).size, 88)) rfl (by decide) rfl rfl rfl rfl rfl rfl rl2 rl3 e5 (fun ao9 cap9 rl4 => ?_)
         refine ⟨fun w' s => ((s.selectT 5 [4] (by decide) rfl rfl).heap hle5), ?_⟩
         refine TQ 6 (by kernel_rfl) rfl (ov_fieldAddr underlying28 rfl rfl rfl sizeOf26 rfl rfl) ?_
         refine AL.any (rs := [7]) (by kernel_rfl) (by decide) ?_
         refine ALs.cons0 (i := 7) rfl (Runs.free rfl) rfl ?_ ?_
         ·
          refine os_store (i := 2) (vs := [(.slice ao9 (l1 ++ ([r4.1] : List Node)).length cap9)]) (cs' := [(.int .i64 1), (.slice none 0 0), (.int .i64 0), (.int .i64 0), (mkS []), (.slice ao9 (l1 ++ ([r4.1] : List Node)).length cap9)]) sizeOf26 rfl rfl rfl rfl rfl rfl rfl rfl rfl ?_
          refine ⟨fun w' s => ((s.selectT 5 [4] (by decide) rfl rfl).heap hle5), ?_⟩
          refine AL.done (by kernel_rfl) ?_
          refine bn (tn ?_)
          exact ⟨H5, r4.2.1, r4.2.2, (l1 ++ ([r4.1] : List Node)), ao9, cap9, (xs1 ++ [(.int .i64 r4.1.kind), (.slice ao7 r4.1.step.strokes.length cap7), (.int .i64 r4.1.step.wait), (.int .i64 r4.1.count), (mkS r4.1.name), (.slice ao8 r4.1.nodes.length cap8)]), ((hle3.trans hle4).trans hle5), rl4, (Sub.all rfl), fun w' s => (s.selectT 5 [2, 3, 1, 4] (by decide) rfl rfl), hm⟩
         exact ALs.nil
        exact ALs.nil
       exact ALs.nil
      exact ALs.nil
     exact ALs.nil
    replace hm := ite_f hc7 hm
    refine WP.exit (then_exit (then_exit (block_here (tn ?_))))
    exact ⟨H4, r3.2.1, r3.2.2, l1, ao6, cap6, xs1, (hle3.trans hle4), rl2, (Sub.all rfl), fun w' s => s, hm⟩
   rintro g' S' ⟨H6, i2, c2, l3, ao10, cap10, xs2, hle6, rl5, hsub2, hS2, hm⟩
   refine WP.sub hsub2 (WP.weaken hS2 ?_)
   replace hm := (congrFun (congrFun (congrFun hk2 i2) c2) l3).symm.trans hm
   replace h1 := h1.mono hle6
   replace hG := hG.mono hle6
   refine WP.seq (WP.region (Vm rfl ?_))
   obtain ⟨r5, e6, hm⟩ := bind_some hm
   refine ws rfl (os_bcon call85 rfl rfl (program_reader_needs_con (Rdr.mk p_r.tokens i2 c2) 2 [125] bp1 ao1 cap1 w0 H0 (.blk b3 28 [(.int .i64 1), (.slice none 0 0), (.int .i64 0), (.int .i64 0), (mkS []), (.slice ao10 l3.length cap10)] :: .row 28 (encNode).size l3.length (.slice ao10 l3.length cap10) xs2 :: .blk b1 28 [(.int .i64 0), (.slice none 0 0), (.int .i64 0), (.int .i64 0), (mkS []), (.slice none 0 0)] :: tl) H6 h1 hc1 hG r5 e6) (fun rr5 H7 ms5 hle7 hR5 => ?_))
   replace h1 := h1.mono hle7
   replace rl5 := rl5.mono hle7
   replace hG := hG.mono hle7
   obtain ⟨rfl, rfl⟩ := hR5
   refine WL.nil (tn (WP.seq (WP.region (V rfl (ov_load_whole (i := 1) isAgg28 sizeOf28 rfl rfl rfl rfl) ?_))))
   refine ws0 rfl (os_store (i := 3) (vs := [(.int .i64 1), (.slice none 0 0), (.int .i64 0), (.int .i64 0), (mkS []), (.slice ao10 l3.length cap10)]) (cs' := [(.int .i64 1), (.slice none 0 0), (.int .i64 0), (.int .i64 0), (mkS []), (.slice ao10 l3.length cap10)]) sizeOf28 rfl rfl rfl rfl rfl rfl rfl rfl rfl ?_)
   refine WL.nil (tn (WP.ret (block_ret (then_ret ?_))))
   obtain rfl := Option.some.inj hm
   refine retQ_ret results45 (Res.cell rfl (box_loads (i := 3) isAgg28 sizeOf28 rfl rfl) Res.nil) rfl (fun w' s => ?_)
   obtain ⟨H8, hc10, hle8, h8, s⟩ := St.row_held (s.selectT 4 [2, 0, 1, 3] (by decide) rfl rfl) rl5
   replace h1 := h1.mono hle8
   replace hG := hG.mono hle8
   exact ⟨H8, _, ((((hle1.trans hle2).trans hle6).trans hle7).trans hle8), ⟨none, 0, ao10, cap10, rfl, rfl, SL.nil _ _ _, Nat.le_refl _, h8, hc10⟩, (s.selectT 3 [0] (by decide) rfl rfl)⟩
  replace hm := ite_f hc4 hm
  refine WP.seq (WP.region (Vm rfl ?_))
  obtain ⟨r6, e7, hm⟩ := bind_some hm
  refine ws rfl (os_bcon call84 rfl rfl (program_reader_takes_con (Rdr.mk p_r.tokens r1.2.1 r1.2.2) 0 [114, 101, 112, 101, 97, 116] bp1 ao1 cap1 w0 H0 (.blk b1 28 [(.int .i64 0), (.slice none 0 0), (.int .i64 0), (.int .i64 0), (mkS []), (.slice none 0 0)] :: tl) H1 h1 hc1 hG r6 e7) (fun rr6 H9 ms6 hle9 hR6 => ?_))
  replace h1 := h1.mono hle9
  replace hG := hG.mono hle9
  obtain ⟨rfl, rfl⟩ := hR6
  refine Va rfl (WL.nil (tn ?_))
  refine WP.cond rfl (fun hc11 => ?_) (fun hc11 => ?_)
  ·
   replace hm := ite_t hc11 hm
   refine WP.seq (WP.region (Vm rfl ?_))
   obtain ⟨r7, e8, hm⟩ := bind_some hm
   refine ws rfl (os_bcon call85 rfl rfl (program_reader_needs_con (Rdr.mk p_r.tokens r6.2.1 r6.2.2) 1 [] bp1 ao1 cap1 w0 H0 (.blk b1 28 [(.int .i64 0), (.slice none 0 0), (.int .i64 0), (.int .i64 0), (mkS []), (.slice none 0 0)] :: tl) H9 h1 hc1 hG r7 e8) (fun rr7 H10 ms7 hle10 hR7 => ?_))
   replace h1 := h1.mono hle10
   replace hG := hG.mono hle10
   obtain ⟨rfl, rfl⟩ := hR7
   obtain ⟨r8, e9, hm⟩ := bind_some hm
   refine wo rfl (oq_con (r := (.int .i64 r8)) call86 rfl rfl (fun w' s => ⟨_, (program_value_con r7.1  w' H10 s.hold hG r8 e9)⟩)) ?_
   refine Va rfl (WL.nil (tn (WP.seq (WP.region (Vm rfl (Vm rfl ?_))))))
   obtain ⟨r9, e10, hm⟩ := bind_some hm
   refine ws rfl (os_bcon call45 rfl rfl (hself (Rdr.mk p_r.tokens r7.2.1 r7.2.2) bp1 ao1 cap1 w0 H0 (.blk b1 28 [(.int .i64 0), (.slice none 0 0), (.int .i64 0), (.int .i64 0), (mkS []), (.slice none 0 0)] :: tl) H10 h1 hc1 hG r9 e10) (fun rr8 H11 ms8 hle11 hR8 => ?_))
   replace h1 := h1.mono hle11
   replace hG := hG.mono hle11
   obtain ⟨ao11, cap11, ao12, cap12, rfl, rfl, h9, hc12, h10, hc13⟩ := hR8
   have rl6 : RL H11 encNode ([r9.1] : List Node) [(.int .i64 r9.1.kind), (.slice ao11 r9.1.step.strokes.length cap11), (.int .i64 r9.1.step.wait), (.int .i64 r9.1.count), (mkS r9.1.name), (.slice ao12 r9.1.nodes.length cap12)] := RL.cons (cs := [(.int .i64 r9.1.kind), (.slice ao11 r9.1.step.strokes.length cap11), (.int .i64 r9.1.step.wait), (.int .i64 r9.1.count), (mkS r9.1.name), (.slice ao12 r9.1.nodes.length cap12)]) (xs := []) (encNode_make ⟨ao11, cap11, ao12, cap12, rfl, h9, hc12, h10, hc13⟩) (RL.nil _ _)
   refine ws rfl (os_buildSlice (cs := [(.int .i64 r9.1.kind), (.slice ao11 r9.1.step.strokes.length cap11), (.int .i64 r9.1.step.wait), (.int .i64 r9.1.count), (mkS r9.1.name), (.slice ao12 r9.1.nodes.length cap12)]) (E := 28) (sz := 6) rfl rfl (fun _ => by kernel_rfl) rfl (by decide) (fun b5 => ?_))
   refine WL.held rl6 (fun H12 hc14 hle12 h11 => ?_)
   replace h1 := h1.mono hle12
   replace hG := hG.mono hle12
   refine V rfl (ov_build (r := (.agg #[(.int .i64 2), (.slice none 0 0), (.int .i64 0), (.int .i64 r8), (mkS []), (.slice (some ⟨b5, 0, none⟩) ([r9.1] : List Node).length 1)])) rfl rfl (fun _ => by kernel_rfl)) ?_
   refine ws0 rfl (os_store (i := 1) (vs := [(.int .i64 2), (.slice none 0 0), (.int .i64 0), (.int .i64 r8), (mkS []), (.slice (some ⟨b5, 0, none⟩) ([r9.1] : List Node).length 1)]) (cs' := [(.int .i64 2), (.slice none 0 0), (.int .i64 0), (.int .i64 r8), (mkS []), (.slice (some ⟨b5, 0, none⟩) ([r9.1] : List Node).length 1)]) sizeOf28 rfl rfl rfl rfl rfl rfl rfl rfl rfl ?_)
   refine WL.nil (tn (WP.ret (block_ret (then_ret ?_))))
   obtain rfl := Option.some.inj hm
   refine retQ_ret results45 (Res.cell rfl (box_loads (i := 1) isAgg28 sizeOf28 rfl rfl) Res.nil) rfl (fun w' s => ?_)
   exact ⟨H12, _, ((((hle1.trans hle9).trans hle10).trans hle11).trans hle12), ⟨none, 0, (some ⟨b5, 0, none⟩), 1, rfl, rfl, SL.nil _ _ _, Nat.le_refl _, h11, hc14⟩, (s.selectT 2 [0] (by decide) rfl rfl)⟩
  replace hm := ite_f hc11 hm
  refine WP.seq (WP.region (Vm rfl ?_))
  obtain ⟨r10, e11, hm⟩ := bind_some hm
  refine ws rfl (os_bcon call84 rfl rfl (program_reader_takes_con (Rdr.mk p_r.tokens r6.2.1 r6.2.2) 0 [105, 102] bp1 ao1 cap1 w0 H0 (.blk b1 28 [(.int .i64 0), (.slice none 0 0), (.int .i64 0), (.int .i64 0), (mkS []), (.slice none 0 0)] :: tl) H9 h1 hc1 hG r10 e11) (fun rr9 H13 ms9 hle13 hR9 => ?_))
  replace h1 := h1.mono hle13
  replace hG := hG.mono hle13
  obtain ⟨rfl, rfl⟩ := hR9
  refine Va rfl (WL.nil (tn ?_))
  refine WP.cond rfl (fun hc15 => ?_) (fun hc15 => ?_)
  ·
   replace hm := ite_t hc15 hm
   refine WP.seq (WP.region (Vm rfl ?_))
   obtain ⟨r11, e12, hm⟩ := bind_some hm
   refine ws rfl (os_bcon call85 rfl rfl (program_reader_needs_con (Rdr.mk p_r.tokens r10.2.1 r10.2.2) 0 [] bp1 ao1 cap1 w0 H0 (.blk b1 28 [(.int .i64 0), (.slice none 0 0), (.int .i64 0), (.int .i64 0), (mkS []), (.slice none 0 0)] :: tl) H13 h1 hc1 hG r11 e12) (fun rr10 H14 ms10 hle14 hR10 => ?_))
   replace h1 := h1.mono hle14
   replace hG := hG.mono hle14
   obtain ⟨rfl, rfl⟩ := hR10
   refine Va rfl (WL.nil (tn (WP.seq (WP.region (Vm rfl ?_)))))
   obtain ⟨r12, e13, hm⟩ := bind_some hm
   refine ws rfl (os_bcon call45 rfl rfl (hself (Rdr.mk p_r.tokens r11.2.1 r11.2.2) bp1 ao1 cap1 w0 H0 (.blk b1 28 [(.int .i64 0), (.slice none 0 0), (.int .i64 0), (.int .i64 0), (mkS []), (.slice none 0 0)] :: tl) H14 h1 hc1 hG r12 e13) (fun rr11 H15 ms11 hle15 hR11 => ?_))
   replace h1 := h1.mono hle15
   replace hG := hG.mono hle15
   obtain ⟨ao13, cap13, ao14, cap14, rfl, rfl, h12, hc16, h13, hc17⟩ := hR11
   refine ws rfl (os_alloc (cs := [(.int .i64 0), (.slice none 0 0), (.int .i64 0), (.int .i64 0), (mkS []), (.slice none 0 0)]) zeroValue28 rfl rfl (fun b6 => ?_))
   refine ws0 rfl (os_store (i := 0) (vs := [(.int .i64 r12.1.kind), (.slice ao13 r12.1.step.strokes.length cap13), (.int .i64 r12.1.step.wait), (.int .i64 r12.1.count), (mkS r12.1.name), (.slice ao14 r12.1.nodes.length cap14)]) (cs' := [(.int .i64 r12.1.kind), (.slice ao13 r12.1.step.strokes.length cap13), (.int .i64 r12.1.step.wait), (.int .i64 r12.1.count), (mkS r12.1.name), (.slice ao14 r12.1.nodes.length cap14)]) sizeOf28 rfl rfl rfl rfl rfl rfl rfl rfl rfl ?_)
   refine WL.nil (tn (WP.seq (WP.region (Vm rfl ?_))))
   refine WL.weaken (fun _ s => s.selectT 3 [1, 0, 2] (by decide) rfl rfl) ?_
   obtain ⟨r13, e14, hm⟩ := bind_some hm
   refine ws rfl (os_bcon call85 rfl rfl (program_reader_needs_con (Rdr.mk p_r.tokens r12.2.1 r12.2.2) 0 [101, 108, 115, 101] bp1 ao1 cap1 w0 H0 (.blk b6 28 [(.int .i64 r12.1.kind), (.slice ao13 r12.1.step.strokes.length cap13), (.int .i64 r12.1.step.wait), (.int .i64 r12.1.count), (mkS r12.1.name), (.slice ao14 r12.1.nodes.length cap14)] :: .blk b1 28 [(.int .i64 0), (.slice none 0 0), (.int .i64 0), (.int .i64 0), (mkS []), (.slice none 0 0)] :: tl) H15 h1 hc1 hG r13 e14) (fun rr12 H16 ms12 hle16 hR12 => ?_))
   replace h12 := h12.mono hle16
   replace h13 := h13.mono hle16
   replace h1 := h1.mono hle16
   replace hG := hG.mono hle16
   obtain ⟨rfl, rfl⟩ := hR12
   refine WL.nil (tn (WP.seq ?_))
   refine WP.region_any (S₀ := St w0 H0 (.blk b6 28 [(.int .i64 r12.1.kind), (.slice ao13 r12.1.step.strokes.length cap13), (.int .i64 r12.1.step.wait), (.int .i64 r12.1.count), (mkS r12.1.name), (.slice ao14 r12.1.nodes.length cap14)] :: tl) H16) 7 rfl (by kernel_rfl) (fun w' s => (s.selectT 3 [1] (by decide) rfl rfl)) (fun _ s => s.drew) ?_
   refine TQ 0 (by kernel_rfl) rfl (ov_move rfl rfl) (TQ 1 (by kernel_rfl) rfl (ov_load_whole (i := 0) isAgg28 sizeOf28 rfl rfl rfl rfl) (TQ 2 (by kernel_rfl) rfl (ov_move rfl rfl) ?_))
   refine AL.any (rs := [3]) (by kernel_rfl) (by decide) ?_
   refine ALs.cons (i := 3) rfl (Runs.free rfl) rfl rfl ?_ ?_
   ·
    obtain ⟨r14, e15, hm⟩ := bind_some hm
    refine os_bcon call45 rfl rfl (hself (Rdr.mk p_r.tokens r13.2.1 r13.2.2) bp1 ao1 cap1 w0 H0 (.blk b6 28 [(.int .i64 r12.1.kind), (.slice ao13 r12.1.step.strokes.length cap13), (.int .i64 r12.1.step.wait), (.int .i64 r12.1.count), (mkS r12.1.name), (.slice ao14 r12.1.nodes.length cap14)] :: .blk b1 28 [(.int .i64 0), (.slice none 0 0), (.int .i64 0), (.int .i64 0), (mkS []), (.slice none 0 0)] :: tl) H16 h1 hc1 hG r14 e15) (fun rr13 H17 ms13 hle17 hR13 => ?_)
    replace h12 := h12.mono hle17
    replace h13 := h13.mono hle17
    replace h1 := h1.mono hle17
    replace hG := hG.mono hle17
    obtain ⟨ao15, cap15, ao16, cap16, rfl, rfl, h14, hc18, h15, hc19⟩ := hR13
    refine ⟨fun w' s => ((s.selectT 3 [1] (by decide) rfl rfl).heap hle17), ?_⟩
    refine AL.any (rs := [4]) (by kernel_rfl) (by decide) ?_
    refine ALs.cons (i := 4) rfl (Runs.free rfl) rfl rfl ?_ ?_
    ·
     have rl7 : RL H17 encNode ([r12.1, r14.1] : List Node) [(.int .i64 r12.1.kind), (.slice ao13 r12.1.step.strokes.length cap13), (.int .i64 r12.1.step.wait), (.int .i64 r12.1.count), (mkS r12.1.name), (.slice ao14 r12.1.nodes.length cap14), (.int .i64 r14.1.kind), (.slice ao15 r14.1.step.strokes.length cap15), (.int .i64 r14.1.step.wait), (.int .i64 r14.1.count), (mkS r14.1.name), (.slice ao16 r14.1.nodes.length cap16)] := RL.cons (cs := [(.int .i64 r12.1.kind), (.slice ao13 r12.1.step.strokes.length cap13), (.int .i64 r12.1.step.wait), (.int .i64 r12.1.count), (mkS r12.1.name), (.slice ao14 r12.1.nodes.length cap14)]) (xs := [(.int .i64 r14.1.kind), (.slice ao15 r14.1.step.strokes.length cap15), (.int .i64 r14.1.step.wait), (.int .i64 r14.1.count), (mkS r14.1.name), (.slice ao16 r14.1.nodes.length cap16)]) (encNode_make ⟨ao13, cap13, ao14, cap14, rfl, h12, hc16, h13, hc17⟩) (RL.cons (cs := [(.int .i64 r14.1.kind), (.slice ao15 r14.1.step.strokes.length cap15), (.int .i64 r14.1.step.wait), (.int .i64 r14.1.count), (mkS r14.1.name), (.slice ao16 r14.1.nodes.length cap16)]) (xs := []) (encNode_make ⟨ao15, cap15, ao16, cap16, rfl, h14, hc18, h15, hc19⟩) (RL.nil _ _))
     refine os_buildSlice (cs := [(.int .i64 r12.1.kind), (.slice ao13 r12.1.step.strokes.length cap13), (.int .i64 r12.1.step.wait), (.int .i64 r12.1.count), (mkS r12.1.name), (.slice ao14 r12.1.nodes.length cap14), (.int .i64 r14.1.kind), (.slice ao15 r14.1.step.strokes.length cap15), (.int .i64 r14.1.step.wait), (.int .i64 r14.1.count), (mkS r14.1.name), (.slice ao16 r14.1.nodes.length cap16)]) (E := 28) (sz := 6) rfl rfl (fun _ => by kernel_rfl) rfl (by decide) (fun b7 => ?_)
     refine ⟨fun w' s => ((s.selectT 4 [2] (by decide) rfl rfl).heap hle17), ?_⟩
     refine TQ 5 (by kernel_rfl) rfl (ov_build (r := (.agg #[(.int .i64 3), (.slice none 0 0), (.int .i64 0), (.int .i64 0), (mkS r11.1), (.slice (some ⟨b7, 0, none⟩) ([r12.1, r14.1] : List Node).length 2)])) rfl rfl (fun _ => by kernel_rfl)) ?_
     refine AL.any (rs := [6]) (by kernel_rfl) (by decide) ?_
     refine ALs.cons0 (i := 6) rfl (Runs.free rfl) rfl ?_ ?_
     ·
      refine os_store (i := 3) (vs := [(.int .i64 3), (.slice none 0 0), (.int .i64 0), (.int .i64 0), (mkS r11.1), (.slice (some ⟨b7, 0, none⟩) ([r12.1, r14.1] : List Node).length 2)]) (cs' := [(.int .i64 3), (.slice none 0 0), (.int .i64 0), (.int .i64 0), (mkS r11.1), (.slice (some ⟨b7, 0, none⟩) ([r12.1, r14.1] : List Node).length 2)]) sizeOf28 rfl rfl rfl rfl rfl rfl rfl rfl rfl ?_
      refine ⟨fun w' s => ((s.selectT 4 [2] (by decide) rfl rfl).heap hle17), ?_⟩
      refine AL.done (by kernel_rfl) ?_
      refine tn (WP.ret (block_ret (then_ret ?_)))
      obtain rfl := Option.some.inj hm
      refine retQ_ret results45 (Res.cell rfl (box_loads (i := 3) isAgg28 sizeOf28 rfl rfl) Res.nil) rfl (fun w' s => ?_)
      obtain ⟨H18, hc20, hle18, h16, s⟩ := St.row_held (s.selectT 4 [0, 1, 2, 3] (by decide) rfl rfl) rl7
      replace h1 := h1.mono hle18
      replace hG := hG.mono hle18
      exact ⟨H18, _, (((((((hle1.trans hle9).trans hle13).trans hle14).trans hle15).trans hle16).trans hle17).trans hle18), ⟨none, 0, (some ⟨b7, 0, none⟩), 2, rfl, rfl, SL.nil _ _ _, Nat.le_refl _, h16, hc20⟩, (s.selectT 3 [0] (by decide) rfl rfl)⟩
     exact ALs.nil
    exact ALs.nil
   exact ALs.nil
  replace hm := ite_f hc15 hm
  refine WP.skip (bn (tn ?_))
  exact ⟨H13, r10.2.1, r10.2.2, ((hle1.trans hle9).trans hle13), (Sub.all rfl), fun w' s => s, hm⟩
 rintro g' S' ⟨H19, i3, c3, hle19, hsub3, hS3, hm⟩
 refine WP.sub hsub3 (WP.weaken hS3 ?_)
 replace hm := (congrFun (congrFun hk1 i3) c3).symm.trans hm
 replace h1 := h1.mono hle19
 replace hG := hG.mono hle19
 refine WP.seq (WP.region (Vm rfl ?_))
 obtain ⟨r15, e16, hm⟩ := bind_some hm
 refine ws rfl (os_bcon call87 rfl rfl (program_reader_step_con (Rdr.mk p_r.tokens i3 c3) bp1 ao1 cap1 w0 H0 (.blk b1 28 [(.int .i64 0), (.slice none 0 0), (.int .i64 0), (.int .i64 0), (mkS []), (.slice none 0 0)] :: tl) H19 h1 hc1 hG r15 e16) (fun rr14 H20 ms14 hle20 hR14 => ?_))
 obtain ⟨ao17, cap17, ao18, cap18, rfl, rfl, h17, hc21, h18, hc22⟩ := hR14
 refine ws0 rfl (os_store (i := 1) (vs := [(.int .i64 r15.1.kind), (.slice ao17 r15.1.step.strokes.length cap17), (.int .i64 r15.1.step.wait), (.int .i64 r15.1.count), (mkS r15.1.name), (.slice ao18 r15.1.nodes.length cap18)]) (cs' := [(.int .i64 r15.1.kind), (.slice ao17 r15.1.step.strokes.length cap17), (.int .i64 r15.1.step.wait), (.int .i64 r15.1.count), (mkS r15.1.name), (.slice ao18 r15.1.nodes.length cap18)]) sizeOf28 rfl rfl rfl rfl rfl rfl rfl rfl rfl ?_)
 refine WL.nil (tn (WP.ret ?_))
 obtain rfl := Option.some.inj hm
 refine retQ_ret results45 (Res.cell rfl (box_loads (i := 1) isAgg28 sizeOf28 rfl rfl) Res.nil) rfl (fun w' s => ?_)
 exact ⟨H20, _, (hle19.trans hle20), ⟨ao17, cap17, ao18, cap18, rfl, rfl, h17, hc21, h18, hc22⟩, (s.selectT 2 [0] (by decide) rfl rfl)⟩
theorem program_reader_node_con (n : Nat) : ∀ (p_r : Rdr) (bp1 : Nat) (ao1 : Option Addr) (cap1 : Nat) (w0 : World) (H0 : Heap) (tl : List Ent) (H : Heap) (h1 : SL H encToken ao1 p_r.tokens) (hc1 : p_r.tokens.length ≤ cap1) (hG : Glob H) (r : (Node × Int × Bool)) (hm : program_reader_node n p_r = some r),
  BCon prog 45 [(pB bp1 0)] w0 H0 (.blk bp1 86 [(.slice ao1 p_r.tokens.length cap1), (.int .i64 p_r.at_), (.bool p_r.bad)] :: tl) H (fun v H' ms' => ∃ (ao2 : Option Addr) (cap2 : Nat) (ao3 : Option Addr) (cap3 : Nat), v = (.agg #[(.int .i64 r.1.kind), (.slice ao2 r.1.step.strokes.length cap2), (.int .i64 r.1.step.wait), (.int .i64 r.1.count), (mkS r.1.name), (.slice ao3 r.1.nodes.length cap3)]) ∧ ms' = (.blk bp1 86 [(.slice ao1 p_r.tokens.length cap1), (.int .i64 r.2.1), (.bool r.2.2)] :: tl) ∧ SL H' encStroke ao2 r.1.step.strokes ∧ r.1.step.strokes.length ≤ cap2 ∧ SL H' encNode ao3 r.1.nodes ∧ r.1.nodes.length ≤ cap3) := by
 induction n with
 | zero => intro p_r bp1 ao1 cap1 w0 H0 tl H h1 hc1 hG r hm; exact (none_some hm).elim
 | succ n ih => intro p_r bp1 ao1 cap1 w0 H0 tl H h1 hc1 hG r hm; exact program_reader_node_body_con (program_reader_node n) ih p_r bp1 ao1 cap1 w0 H0 tl H h1 hc1 hG r hm
theorem program_Parse_con (p_text : (List UInt8)) (w : World) (H : Heap) (hH : Le H (hp w)) (hG : Glob H) (r : (Node × Int × Int)) (hm : program_Parse p_text = some r) :
  Con prog 12 [(mkS p_text)] w H (fun v H' => ∃ (ao1 : Option Addr) (cap1 : Nat) (ao2 : Option Addr) (cap2 : Nat), v = (.tuple #[(.agg #[(.int .i64 r.1.kind), (.slice ao1 r.1.step.strokes.length cap1), (.int .i64 r.1.step.wait), (.int .i64 r.1.count), (mkS r.1.name), (.slice ao2 r.1.nodes.length cap2)]), (.int .i64 r.2.1), (.int .i64 r.2.2)]) ∧ SL H' encStroke ao1 r.1.step.strokes ∧ r.1.step.strokes.length ≤ cap1 ∧ SL H' encNode ao2 r.1.nodes ∧ r.1.nodes.length ≤ cap2) := by
 unfold program_Parse at hm
 refine con_of hH func12 rfl 49 ntmps12 rfl ?_
 refine WP.seq (WP.region ?_)
 refine ws rfl (os_alloc (cs := [(.int .i64 0), (.slice none 0 0), (.int .i64 0), (.int .i64 0), (mkS []), (.slice none 0 0)]) zeroValue28 rfl rfl (fun b1 => ?_))
 refine Va rfl (Va rfl (WL.nil (tn (WP.seq (WP.region (Vm rfl ?_))))))
 obtain ⟨r1, e1, hm⟩ := bind_some hm
 refine ws rfl (os_con call44 rfl rfl (fun w' s => (lexer_Scan_con p_text  w' H s.hold hG r1 e1)) (fun rr1 H1 hle1 hR1 => ?_))
 replace hG := hG.mono hle1
 obtain ⟨ao3, cap3, rfl, h3, hc3⟩ := hR1
 refine Vm rfl (Ve rfl (Ve rfl (Ve rfl (Va rfl (Va rfl (Va rfl (WL.nil (tn (WP.seq (WP.seq (WP.region (Vm rfl (V rfl (ov_neq rfl rfl rfl) ?_)))))))))))))
 refine WL.nil (tn ?_)
 refine WP.cond rfl (fun hc4 => ?_) (fun hc4 => ?_)
 ·
  replace hm := ite_t hc4 hm
  refine WP.seq (WP.region (V rfl (ov_build (r := (.agg #[(.int .i64 0), (.slice none 0 0), (.int .i64 0), (.int .i64 0), (mkS []), (.slice none 0 0)])) rfl rfl (fun _ => by kernel_rfl)) (Vm rfl (Vm rfl ?_))))
  refine ws0 rfl (os_store (i := 0) (vs := [(.int .i64 0), (.slice none 0 0), (.int .i64 0), (.int .i64 0), (mkS []), (.slice none 0 0)]) (cs' := [(.int .i64 0), (.slice none 0 0), (.int .i64 0), (.int .i64 0), (mkS []), (.slice none 0 0)]) sizeOf28 rfl rfl rfl rfl rfl rfl rfl rfl rfl ?_)
  refine Va rfl (Va rfl (WL.nil (tn (WP.ret (then_ret ?_)))))
  obtain rfl := Option.some.inj hm
  refine retQ_ret results12 (Res.cell rfl (box_loads (i := 0) isAgg28 sizeOf28 rfl rfl) (Res.tmp rfl (Res.tmp rfl Res.nil))) rfl (fun w' s => ⟨s.below, ?_⟩)
  exact ⟨none, 0, none, 0, rfl, SL.nil _ _ _, Nat.le_refl _, SL.nil _ _ _, Nat.le_refl _⟩
 replace hm := ite_f hc4 hm
 refine WP.skip (tn (WP.seq (WP.region (Vm rfl (V rfl (ov_build (r := (.agg #[(.slice ao3 r1.1.length cap3), (.int .i64 0), (.bool false)])) rfl rfl (fun _ => by kernel_rfl)) ?_)))))
 refine ws rfl (os_box (cs := [(.slice ao3 r1.1.length cap3), (.int .i64 0), (.bool false)]) rfl rfl rfl (fun b2 => ?_))
 refine Va rfl (WL.nil (tn (WP.seq (WP.region (Vm rfl ?_)))))
 obtain ⟨r2, e2, hm⟩ := bind_some hm
 refine ws rfl (os_bcon call45 rfl rfl (program_reader_node_con 600 (Rdr.mk r1.1 0 false) b2 ao3 cap3 w H [.blk b1 28 [(.int .i64 0), (.slice none 0 0), (.int .i64 0), (.int .i64 0), (mkS []), (.slice none 0 0)]] H1 h3 hc3 hG r2 e2) (fun rr2 H2 ms1 hle2 hR2 => ?_))
 replace h3 := h3.mono hle2
 replace hG := hG.mono hle2
 obtain ⟨ao4, cap4, ao5, cap5, rfl, rfl, h4, hc5, h5, hc6⟩ := hR2
 refine ws rfl (os_alloc (cs := [(.int .i64 0), (.slice none 0 0), (.int .i64 0), (.int .i64 0), (mkS []), (.slice none 0 0)]) zeroValue28 rfl rfl (fun b3 => ?_))
 refine ws0 rfl (os_store (i := 0) (vs := [(.int .i64 r2.1.kind), (.slice ao4 r2.1.step.strokes.length cap4), (.int .i64 r2.1.step.wait), (.int .i64 r2.1.count), (mkS r2.1.name), (.slice ao5 r2.1.nodes.length cap5)]) (cs' := [(.int .i64 r2.1.kind), (.slice ao4 r2.1.step.strokes.length cap4), (.int .i64 r2.1.step.wait), (.int .i64 r2.1.count), (mkS r2.1.name), (.slice ao5 r2.1.nodes.length cap5)]) sizeOf28 rfl rfl rfl rfl rfl rfl rfl rfl rfl ?_)
 refine WL.nil (tn (WP.seq (WP.seq (WP.region (Vm rfl ?_)))))
 refine ws rfl (os_inline (cap := []) (vs := [(pB b2 0)]) call46 rfl rfl rfl func46 rfl 13 ntmps46 rfl (fun w' s => ?_))
 refine WP.seq (WP.region ?_)
 refine ws rfl (os_alloc (cs := [(.int .i64 0), (mkS []), (.int .i64 0)]) zeroValue89 rfl rfl (fun b4 => ?_))
 refine WL.nil (tn (WP.seq ?_))
 refine WP.region_any (S₀ := St w H [.blk b3 28 [(.int .i64 r2.1.kind), (.slice ao4 r2.1.step.strokes.length cap4), (.int .i64 r2.1.step.wait), (.int .i64 r2.1.count), (mkS r2.1.name), (.slice ao5 r2.1.nodes.length cap5)], .blk b2 86 [(.slice ao3 r1.1.length cap3), (.int .i64 r2.2.1), (.bool r2.2.2)], .blk b1 28 [(.int .i64 0), (.slice none 0 0), (.int .i64 0), (.int .i64 0), (mkS []), (.slice none 0 0)]] H2) 11 rfl (by kernel_rfl) (fun w' s => (s.select [1, 2, 3] (by decide) rfl)) (fun _ s => s.drew) ?_
 refine TQ 0 (by kernel_rfl) rfl (ov_move rfl rfl) (TQ 1 (by kernel_rfl) rfl (ov_nilCheckB rfl rfl) (TQ 2 (by kernel_rfl) rfl (ov_fieldAddr underlying86 rfl rfl rfl sizeOf81 rfl rfl) (TQ 3 (by kernel_rfl) rfl (ov_load_box (i := 1) isAgg81 rfl rfl rfl rfl) (TQ 4 (by kernel_rfl) rfl (ov_move rfl rfl) (TQ 5 (by kernel_rfl) rfl (ov_nilCheckB rfl rfl) (TQ 6 (by kernel_rfl) rfl (ov_fieldAddr underlying86 rfl rfl rfl sizeOf3 rfl rfl) (TQ 7 (by kernel_rfl) rfl (ov_load_box (i := 1) isAgg3 rfl rfl rfl rfl) ?_)))))))
 obtain ⟨x1, e3, hm⟩ := bind_some hm
 obtain ⟨h6, h7, h8, cs1, h9, h10⟩ := h3.get e3 (by decide)
 obtain rfl : cs1 = [(.int .i64 x1.kind), (mkS x1.text), (.int .i64 x1.at_)] := h9
 refine TQ 8 (by kernel_rfl) rfl (ov_indexAddr underlying81 sizeOf89 rfl rfl rfl h6 h7 h8) (TQ 9 (by kernel_rfl) rfl (ov_load_elems (vs := [(.int .i64 x1.kind), (mkS x1.text), (.int .i64 x1.at_)]) isAgg89 sizeOf89 rfl rfl rfl h10 h8) ?_)
 refine AL.any (rs := [10]) (by kernel_rfl) (by decide) ?_
 refine ALs.cons0 (i := 10) rfl (Runs.free rfl) rfl ?_ ?_
 ·
  refine os_store (i := 0) (vs := [(.int .i64 x1.kind), (mkS x1.text), (.int .i64 x1.at_)]) (cs' := [(.int .i64 x1.kind), (mkS x1.text), (.int .i64 x1.at_)]) sizeOf89 rfl rfl rfl rfl rfl rfl rfl rfl rfl ?_
  refine ⟨fun w' s => (s.select [1, 2, 3] (by decide) rfl), ?_⟩
  refine AL.done (by kernel_rfl) ?_
  refine tn (WP.ret ?_)
  refine retQ_ret (v := (.agg #[(.int .i64 x1.kind), (mkS x1.text), (.int .i64 x1.at_)])) results46 (Res.cell rfl (box_loads (i := 0) isAgg89 sizeOf89 rfl rfl) Res.nil) rfl (fun w' s => ⟨_, ?_, s⟩)
  refine ws rfl (os_alloc (cs := [(.int .i64 0), (mkS []), (.int .i64 0)]) zeroValue89 rfl rfl (fun b5 => ?_))
  refine ws0 rfl (os_store (i := 0) (vs := [(.int .i64 x1.kind), (mkS x1.text), (.int .i64 x1.at_)]) (cs' := [(.int .i64 x1.kind), (mkS x1.text), (.int .i64 x1.at_)]) sizeOf89 rfl rfl rfl rfl rfl rfl rfl rfl rfl ?_)
  refine WL.nil (tn (WP.seq (WP.region (Vm rfl (V rfl (ov_nilCheckB rfl rfl) (V rfl (ov_fieldAddr underlying86 rfl rfl rfl sizeOf4 rfl rfl) (Vl 3 isAgg4 rfl (Vm rfl ?_))))))))
  refine WL.cut_bool 4 38 (x := (r2.2.2 || (x1.kind != 3))) ?_ ?_
  ·
   rcases Bool.eq_false_or_eq_true r2.2.2 with hc7 | hc7
   ·
    refine Vi rfl (Idle.no rfl rfl rfl hc7) (Vi rfl (Idle.no rfl rfl rfl hc7) (Vi rfl (Idle.no rfl rfl rfl hc7) (V rfl (ov_pick_true rfl (guard_eq rfl hc7) rfl) ?_)))
    exact WL.nil ⟨Sub.cons' rfl (congrArg Value.bool (orT hc7)) (Sub.dropn 4 rfl), fun _ s => s⟩
   refine wy hc7 rfl (ov_fieldAddr underlying89 rfl rfl rfl sizeOf3 rfl rfl) ?_
   refine wy hc7 rfl (ov_load_box (i := 0) isAgg3 rfl rfl rfl rfl) ?_
   refine wy hc7 rfl (ov_neq rfl rfl rfl) ?_
   refine V rfl (ov_pick_false rfl (guard_eq rfl hc7) rfl) ?_
   exact WL.nil ⟨Sub.cons' rfl (congrArg Value.bool (orF hc7)) (Sub.dropn 4 rfl), fun _ s => s⟩
  refine WL.nil (tn ?_)
  refine WP.cond rfl (fun hc8 => ?_) (fun hc8 => ?_)
  ·
   replace hm := ite_t hc8 hm
   refine WP.seq ?_
   refine WP.region_any (S₀ := St w H [.blk b5 89 [(.int .i64 x1.kind), (mkS x1.text), (.int .i64 x1.at_)], .blk b4 89 [(.int .i64 x1.kind), (mkS x1.text), (.int .i64 x1.at_)], .blk b3 28 [(.int .i64 r2.1.kind), (.slice ao4 r2.1.step.strokes.length cap4), (.int .i64 r2.1.step.wait), (.int .i64 r2.1.count), (mkS r2.1.name), (.slice ao5 r2.1.nodes.length cap5)], .blk b2 86 [(.slice ao3 r1.1.length cap3), (.int .i64 r2.2.1), (.bool r2.2.2)], .blk b1 28 [(.int .i64 0), (.slice none 0 0), (.int .i64 0), (.int .i64 0), (mkS []), (.slice none 0 0)]] H2) 6 rfl (by kernel_rfl) (fun w' s => s) (fun _ s => s.drew) ?_
   refine TQ 0 (by kernel_rfl) rfl (ov_build (r := (.agg #[(.int .i64 0), (.slice none 0 0), (.int .i64 0), (.int .i64 0), (mkS []), (.slice none 0 0)])) rfl rfl (fun _ => by kernel_rfl)) (TQ 1 (by kernel_rfl) rfl (ov_fieldAddr underlying89 rfl rfl rfl sizeOf3 rfl rfl) (TQ 2 (by kernel_rfl) rfl (ov_load_box (i := 0) isAgg3 rfl rfl rfl rfl) ?_))
   refine AL.any (rs := [3]) (by kernel_rfl) (by decide) ?_
   refine ALs.cons0 (i := 3) rfl (Runs.free rfl) rfl ?_ ?_
   ·
    refine os_store (i := 4) (vs := [(.int .i64 0), (.slice none 0 0), (.int .i64 0), (.int .i64 0), (mkS []), (.slice none 0 0)]) (cs' := [(.int .i64 0), (.slice none 0 0), (.int .i64 0), (.int .i64 0), (mkS []), (.slice none 0 0)]) sizeOf28 rfl rfl rfl rfl rfl rfl rfl rfl rfl ?_
    refine ⟨fun w' s => s, ?_⟩
    refine TQ 4 (by kernel_rfl) rfl (ov_assign rfl rfl) (TQ 5 (by kernel_rfl) rfl (ov_assign rfl rfl) ?_)
    refine AL.done (by kernel_rfl) ?_
    refine tn (WP.ret (then_ret ?_))
    obtain rfl := Option.some.inj hm
    refine retQ_ret results12 (Res.cell rfl (box_loads (i := 4) isAgg28 sizeOf28 rfl rfl) (Res.tmp rfl (Res.tmp rfl Res.nil))) rfl (fun w' s => ⟨s.below, ?_⟩)
    exact ⟨none, 0, none, 0, rfl, SL.nil _ _ _, Nat.le_refl _, SL.nil _ _ _, Nat.le_refl _⟩
   exact ALs.nil
  replace hm := ite_f hc8 hm
  refine WP.skip (tn (WP.seq (WP.seq (WP.region (V rfl (ov_load_whole (i := 2) isAgg28 sizeOf28 rfl rfl rfl rfl) ?_)))))
  obtain ⟨r3, e4, hm⟩ := bind_some hm
  refine wo rfl (oq_con (r := (.int .i64 r3)) call31 rfl rfl (fun w' s => ⟨_, (program_Check_con r2.1 ao4 cap4 ao5 cap5  w' H2 s.hold h4 hc5 h5 hc6 hG r3 e4)⟩)) ?_
  refine Va rfl (WL.nil (tn (WP.seq (WP.region (Vm rfl (V rfl (ov_neq rfl rfl rfl) (WL.nil (tn ?_))))))))
  refine WP.cond rfl (fun hc9 => ?_) (fun hc9 => ?_)
  ·
   replace hm := ite_t hc9 hm
   refine WP.seq (WP.region (V rfl (ov_build (r := (.agg #[(.int .i64 0), (.slice none 0 0), (.int .i64 0), (.int .i64 0), (mkS []), (.slice none 0 0)])) rfl rfl (fun _ => by kernel_rfl)) (Vm rfl ?_)))
   refine ws0 rfl (os_store (i := 4) (vs := [(.int .i64 0), (.slice none 0 0), (.int .i64 0), (.int .i64 0), (mkS []), (.slice none 0 0)]) (cs' := [(.int .i64 0), (.slice none 0 0), (.int .i64 0), (.int .i64 0), (mkS []), (.slice none 0 0)]) sizeOf28 rfl rfl rfl rfl rfl rfl rfl rfl rfl ?_)
   refine Va rfl (Va rfl (WL.nil (tn (WP.ret (then_ret ?_)))))
   obtain rfl := Option.some.inj hm
   refine retQ_ret results12 (Res.cell rfl (box_loads (i := 4) isAgg28 sizeOf28 rfl rfl) (Res.tmp rfl (Res.tmp rfl Res.nil))) rfl (fun w' s => ⟨s.below, ?_⟩)
   exact ⟨none, 0, none, 0, rfl, SL.nil _ _ _, Nat.le_refl _, SL.nil _ _ _, Nat.le_refl _⟩
  replace hm := ite_f hc9 hm
  refine WP.skip (tn (WP.seq (WP.region (V rfl (ov_load_whole (i := 2) isAgg28 sizeOf28 rfl rfl rfl rfl) ?_))))
  refine ws0 rfl (os_store (i := 4) (vs := [(.int .i64 r2.1.kind), (.slice ao4 r2.1.step.strokes.length cap4), (.int .i64 r2.1.step.wait), (.int .i64 r2.1.count), (mkS r2.1.name), (.slice ao5 r2.1.nodes.length cap5)]) (cs' := [(.int .i64 r2.1.kind), (.slice ao4 r2.1.step.strokes.length cap4), (.int .i64 r2.1.step.wait), (.int .i64 r2.1.count), (mkS r2.1.name), (.slice ao5 r2.1.nodes.length cap5)]) sizeOf28 rfl rfl rfl rfl rfl rfl rfl rfl rfl ?_)
  refine Va rfl (Va rfl (WL.nil (tn (WP.ret ?_))))
  obtain rfl := Option.some.inj hm
  refine retQ_ret results12 (Res.cell rfl (box_loads (i := 4) isAgg28 sizeOf28 rfl rfl) (Res.tmp rfl (Res.tmp rfl Res.nil))) rfl (fun w' s => ⟨s.below, ?_⟩)
  exact ⟨ao4, cap4, ao5, cap5, rfl, h4.mono s.le_newer, hc5, h5.mono s.le_newer, hc6⟩
 exact ALs.nil
theorem program_length_body_con (self : Motion → (List (List UInt8)) → Option Int) (hself : ∀ (p_m : Motion) (p_on : (List (List UInt8))) (t1 : TypeId) (c1 : Value) (ao1 : Option Addr) (cap1 : Nat) (w : World) (H : Heap) (hH : Le H (hp w)) (h1 : MotionRep H p_m (.iface t1 c1)) (h2 : SL H encStr ao1 p_on) (hc1 : p_on.length ≤ cap1) (hG : Glob H) (r : Int) (hm : self p_m p_on = some r), Con prog 52 [(.iface t1 c1), (.slice ao1 p_on.length cap1)] w H (fun v _ => v = (.int .i64 r))) (p_m : Motion) (p_on : (List (List UInt8))) (t1 : TypeId) (c1 : Value) (ao1 : Option Addr) (cap1 : Nat) (w : World) (H : Heap) (hH : Le H (hp w)) (h1 : MotionRep H p_m (.iface t1 c1)) (h2 : SL H encStr ao1 p_on) (hc1 : p_on.length ≤ cap1) (hG : Glob H) (r : Int) (hm : program_length_body self p_m p_on = some r) :
  Con prog 52 [(.iface t1 c1), (.slice ao1 p_on.length cap1)] w H (fun v _ => v = (.int .i64 r)) := by
 unfold program_length_body at hm
 refine con_of hH func52 rfl 52 ntmps52 rfl ?_
 refine WP.seq (WP.region (Va rfl (WL.nil (tn (WP.seq (WP.region (Va rfl (WL.nil (tn ?_)))))))))
 obtain ⟨k1, hk1, hm⟩ := joinK_some hm
 refine WP.seq_join (fun g' S' => ∃ (H2 : Heap) (i3 : Int), Le H H2 ∧ Sub [(5, (.int .i64 i3)), (1000000007, (.bool false))] g' ∧ (∀ w', S' w' → St w H [] H2 w') ∧ k1 i3 = some r) ?_ ?_
 ·
  refine WP.seq (WP.region (Vm rfl (WL.nil (tn (WP.block (WP.seq (WP.region ?_)))))))
  rcases Bool.eq_false_or_eq_true p_m.isSingle with hc2 | hc2
  ·
   replace hm := ite_t hc2 hm
   obtain ⟨ao2, cap2, hv1, h3, hc3⟩ := MotionRep.open_isSingle h1 hc2
   refine V rfl (ov_typeAssert_yes (c := (.agg #[(.slice ao2 p_m.stp.strokes.length cap2), (.int .i64 p_m.stp.wait)])) underlying141 (fun _ h => by cases h) rfl rfl hv1) (Ve rfl (Ve rfl (WL.nil (tn (WP.cond_true rfl (WP.seq (WP.region ?_)))))))
   refine ws rfl (os_alloc (cs := [(.slice none 0 0), (.int .i64 0)]) zeroValue141 rfl rfl (fun b1 => ?_))
   refine ws0 rfl (os_store (i := 0) (vs := [(.slice ao2 p_m.stp.strokes.length cap2), (.int .i64 p_m.stp.wait)]) (cs' := [(.slice ao2 p_m.stp.strokes.length cap2), (.int .i64 p_m.stp.wait)]) sizeOf141 rfl rfl rfl rfl rfl rfl rfl rfl rfl ?_)
   refine WL.nil (tn (WP.region (Va rfl (WL.nil (bn (tn ?_))))))
   exact ⟨H, 1, (Le.refl _), (Sub.all rfl), fun w' s => (s.select [] (by decide) rfl), hm⟩
  replace hm := ite_f hc2 hm
  obtain ⟨t2, v1, hv2, hv3⟩ := MotionRep.not_isSingle h1 hc2
  refine V rfl (ov_typeAssert_no (z := (.agg #[(.slice none 0 0), (.int .i64 0)])) underlying141 (fun _ h => by cases h) zeroValue141 rfl rfl hv2 hv3) (Ve rfl (Ve rfl (WL.nil (tn (WP.cond_false rfl (WP.seq (WP.region ?_)))))))
  rcases Bool.eq_false_or_eq_true p_m.isList with hc4 | hc4
  ·
   replace hm := ite_t hc4 hm
   obtain ⟨ao3, cap3, hv4, h4, hc5⟩ := MotionRep.open_isList h1 hc4
   refine V rfl (ov_typeAssert_yes (c := (.agg #[(.slice ao3 p_m.prts.length cap3)])) underlying144 (fun _ h => by cases h) rfl rfl hv4) (Ve rfl (Ve rfl (WL.nil (tn (WP.cond_true rfl (WP.seq (WP.region ?_)))))))
   refine ws rfl (os_alloc (cs := [(.slice none 0 0)]) zeroValue144 rfl rfl (fun b2 => ?_))
   refine ws0 rfl (os_store (i := 0) (vs := [(.slice ao3 p_m.prts.length cap3)]) (cs' := [(.slice ao3 p_m.prts.length cap3)]) sizeOf144 rfl rfl rfl rfl rfl rfl rfl rfl rfl ?_)
   refine WL.nil (tn (WP.seq (WP.region (V rfl (ov_fieldAddr underlying144 rfl rfl rfl sizeOf142 rfl rfl) (Vl 0 isAgg142 rfl (V rfl (ov_len_slice underlying142 rfl rfl) (Vm rfl (WL.nil (tn (WP.block ?_))))))))))
   refine WP.loop (fun m1 g' S' => ∃ (i1 : Int) (i2 : Int), Sub [(1, (.slice ao1 p_on.length cap1)), (5, (.int .i64 i1)), (20, (.slice ao3 p_m.prts.length cap3)), (21, (.int .i64 (p_m.prts.length : Int))), (22, (.int .i64 i2)), (1000000007, (.bool false))] g' ∧ (∀ w', S' w' → St w H [] H w') ∧ program_length_loop1 p_m p_on self k1 m1 i1 i2 = some r) ((Int.toNat ((p_m.prts.length : Int) - 0) + 1)) ⟨0, 0, (Sub.all rfl), fun w' s => (s.select [] (by decide) rfl), hm⟩ ?_ ?_
   ·
    rintro g' S' ⟨_, _, _, _, hm⟩
    exact none_some hm
   rintro m1 g' S' ⟨i1, i2, hsub1, hS1, hm⟩
   refine WP.sub hsub1 (WP.weaken hS1 ?_)
   rw [program_length_loop1] at hm
   refine WP.seq (WP.region (V rfl (ov_lss rfl rfl rfl) (WL.nil (tn (WP.seq ?_)))))
   refine WP.cond rfl (fun hc6 => ?_) (fun hc6 => ?_)
   ·
    replace hm := ite_t hc6 hm
    refine WP.skip (tn (WP.seq (WP.block (WP.seq (WP.region ?_)))))
    obtain ⟨x1, e1, hm⟩ := bind_some hm
    obtain ⟨h6, h7, h8, cs1, h9, h10⟩ := h4.get e1 (by decide)
    obtain ⟨t3, c2, rfl, h5⟩ := h9
    refine V rfl (ov_indexAddr underlying142 sizeOf99 rfl rfl rfl h6 h7 h8) (V rfl (ov_load_elem (v := (.iface t3 c2)) isAgg99 rfl rfl h10) (Va rfl (WL.nil (tn (WP.region (Vm rfl (Vm rfl (Vm rfl ?_))))))))
    obtain ⟨r1, e2, hm⟩ := bind_some hm
    refine wo rfl (oq_con (r := (.int .i64 r1)) call52 rfl rfl (fun w' s => ⟨_, (hself x1 p_on t3 c2 ao1 cap1  w' H s.hold h5  h2 hc1 hG r1 e2)⟩)) ?_
    refine V rfl (ov_add rfl rfl rfl) (Va rfl (WL.nil (bn (tn (WP.region (V rfl (ov_add rfl rfl rfl) (Vm rfl (WL.nil (tn ?_)))))))))
    exact ⟨(IntKind.wrap .i64 (i1 + r1)), (IntKind.wrap .i64 (i2 + 1)), (Sub.all rfl), fun w' s => s, hm⟩
   replace hm := ite_f hc6 hm
   refine WP.exit (then_exit (then_exit (block_here (bn (tn ?_)))))
   exact ⟨H, i1, (Le.refl _), (Sub.all rfl), fun w' s => s, hm⟩
  replace hm := ite_f hc4 hm
  obtain ⟨t4, v2, hv5, hv6⟩ := MotionRep.not_isList h1 hc4
  refine V rfl (ov_typeAssert_no (z := (.agg #[(.slice none 0 0)])) underlying144 (fun _ h => by cases h) zeroValue144 rfl rfl hv5 hv6) (Ve rfl (Ve rfl (WL.nil (tn (WP.cond_false rfl (WP.seq (WP.region ?_)))))))
  rcases Bool.eq_false_or_eq_true p_m.isRepeat with hc7 | hc7
  ·
   replace hm := ite_t hc7 hm
   obtain ⟨t5, c3, hv7, h11⟩ := MotionRep.open_isRepeat h1 hc7
   refine V rfl (ov_typeAssert_yes (c := (.agg #[(.int .i64 p_m.cnt), (.iface t5 c3)])) underlying146 (fun _ h => by cases h) rfl rfl hv7) (Ve rfl (Ve rfl (WL.nil (tn (WP.cond_true rfl (WP.seq (WP.region ?_)))))))
   refine ws rfl (os_alloc (cs := [(.int .i64 0), .nilIface]) zeroValue146 rfl rfl (fun b3 => ?_))
   refine ws0 rfl (os_store (i := 0) (vs := [(.int .i64 p_m.cnt), (.iface t5 c3)]) (cs' := [(.int .i64 p_m.cnt), (.iface t5 c3)]) sizeOf146 rfl rfl rfl rfl rfl rfl rfl rfl rfl ?_)
   refine WL.nil (tn ?_)
   refine WP.region_draws (by kernel_rfl) (by kernel_rfl) (fun _ s => s.drew) ?_
   refine qf rfl (ov_fieldAddr underlying146 rfl rfl rfl sizeOf3 rfl rfl) ?_
   refine qf rfl (ov_load_box (i := 0) isAgg3 rfl rfl rfl rfl) ?_
   refine qf rfl (ov_fieldAddr underlying146 rfl rfl rfl sizeOf99 rfl rfl) ?_
   refine qf rfl (ov_load_box (i := 0) isAgg99 rfl rfl rfl rfl) ?_
   refine qf rfl (ov_move rfl rfl) ?_
   obtain ⟨r2, e3, hm⟩ := bind_some hm
   refine QL.quiet (Runs.free rfl) rfl rfl (oq_con (r := (.int .i64 r2)) call52 rfl rfl (fun w' s => ⟨_, (hself p_m.prt p_on t5 c3 ao1 cap1  w' H s.hold h11  h2 hc1 hG r2 e3)⟩)) ?_
   refine qf rfl (ov_mul rfl rfl rfl) ?_
   refine qf rfl (ov_assign rfl rfl) ?_
   refine QL.nil ?_
   refine bn (tn ?_)
   exact ⟨H, (IntKind.wrap .i64 (p_m.cnt * r2)), (Le.refl _), (Sub.all rfl), fun w' s => (s.select [] (by decide) rfl), hm⟩
  replace hm := ite_f hc7 hm
  obtain ⟨t6, v3, hv8, hv9⟩ := MotionRep.not_isRepeat h1 hc7
  refine V rfl (ov_typeAssert_no (z := (.agg #[(.int .i64 0), .nilIface])) underlying146 (fun _ h => by cases h) zeroValue146 rfl rfl hv8 hv9) (Ve rfl (Ve rfl (WL.nil (tn (WP.cond_false rfl (WP.seq (WP.region ?_)))))))
  rcases Bool.eq_false_or_eq_true p_m.isChoice with hc8 | hc8
  ·
   replace hm := ite_t hc8 hm
   obtain ⟨t7, c4, t8, c5, hv10, h12, h13⟩ := MotionRep.open_isChoice h1 hc8
   refine V rfl (ov_typeAssert_yes (c := (.agg #[(mkS p_m.nm), (.iface t7 c4), (.iface t8 c5)])) underlying148 (fun _ h => by cases h) rfl rfl hv10) (Ve rfl (Ve rfl (WL.nil (tn (WP.cond_true rfl (WP.seq (WP.region ?_)))))))
   refine ws rfl (os_alloc (cs := [(mkS []), .nilIface, .nilIface]) zeroValue148 rfl rfl (fun b4 => ?_))
   refine ws0 rfl (os_store (i := 0) (vs := [(mkS p_m.nm), (.iface t7 c4), (.iface t8 c5)]) (cs' := [(mkS p_m.nm), (.iface t7 c4), (.iface t8 c5)]) sizeOf148 rfl rfl rfl rfl rfl rfl rfl rfl rfl ?_)
   refine WL.nil (tn (WP.region (V rfl (ov_load_whole (i := 0) isAgg148 sizeOf148 rfl rfl rfl rfl) (Vm rfl ?_))))
   obtain ⟨r3, e4, hm⟩ := bind_some hm
   refine ws rfl (os_con call94 rfl rfl (fun w' s => (program_choice_taken_con (MChoice.mk p_m.nm p_m.thn p_m.oth) p_on t7 c4 t8 c5 ao1 cap1  w' H s.hold h12  h13  h2 hc1 hG r3 e4)) (fun rr1 H1 hle1 hR1 => ?_))
   replace h1 := h1.mono hle1
   replace h2 := h2.mono hle1
   replace hG := hG.mono hle1
   obtain ⟨t9, c6, rfl, h14⟩ := hR1
   refine Vm rfl ?_
   obtain ⟨r4, e5, hm⟩ := bind_some hm
   refine wo rfl (oq_con (r := (.int .i64 r4)) call52 rfl rfl (fun w' s => ⟨_, (hself r3 p_on t9 c6 ao1 cap1  w' H1 s.hold h14  h2 hc1 hG r4 e5)⟩)) ?_
   refine Va rfl (WL.nil (bn (tn ?_)))
   exact ⟨H1, r4, hle1, (Sub.all rfl), fun w' s => (s.select [] (by decide) rfl), hm⟩
  replace hm := ite_f hc8 hm
  obtain ⟨t10, v4, hv11, hv12⟩ := MotionRep.not_isChoice h1 hc8
  refine V rfl (ov_typeAssert_no (z := (.agg #[(mkS []), .nilIface, .nilIface])) underlying148 (fun _ h => by cases h) zeroValue148 rfl rfl hv11 hv12) (Ve rfl (Ve rfl (WL.nil (tn (WP.cond_false rfl (WP.skip (bn (tn ?_))))))))
  exact ⟨H, 0, (Le.refl _), (Sub.all rfl), fun w' s => s, hm⟩
 rintro g' S' ⟨H2, i3, hle2, hsub2, hS2, hm⟩
 refine WP.sub hsub2 (WP.weaken hS2 ?_)
 replace hm := (congrFun hk1 i3).symm.trans hm
 refine WP.seq (WP.region (Vm rfl (V rfl (ov_min rfl rfl rfl) (Va rfl (WL.nil (tn (WP.ret ?_)))))))
 obtain rfl := Option.some.inj hm
 refine retQ_ret results52 (Res.tmp rfl Res.nil) rfl (fun w' s => ⟨s.below, ?_⟩)
 exact rfl
theorem program_length_con (n : Nat) : ∀ (p_m : Motion) (p_on : (List (List UInt8))) (t1 : TypeId) (c1 : Value) (ao1 : Option Addr) (cap1 : Nat) (w : World) (H : Heap) (hH : Le H (hp w)) (h1 : MotionRep H p_m (.iface t1 c1)) (h2 : SL H encStr ao1 p_on) (hc1 : p_on.length ≤ cap1) (hG : Glob H) (r : Int) (hm : program_length n p_m p_on = some r),
  Con prog 52 [(.iface t1 c1), (.slice ao1 p_on.length cap1)] w H (fun v _ => v = (.int .i64 r)) := by
 induction n with
 | zero => intro p_m p_on t1 c1 ao1 cap1 w H hH h1 h2 hc1 hG r hm; exact (none_some hm).elim
 | succ n ih => intro p_m p_on t1 c1 ao1 cap1 w H hH h1 h2 hc1 hG r hm; exact program_length_body_con (program_length n) ih p_m p_on t1 c1 ao1 cap1 w H hH h1 h2 hc1 hG r hm
theorem program_of_body_con (self : Node → Option Motion) (hself : ∀ (p_n : Node) (ao1 : Option Addr) (cap1 : Nat) (ao2 : Option Addr) (cap2 : Nat) (w : World) (H : Heap) (hH : Le H (hp w)) (h1 : SL H encStroke ao1 p_n.step.strokes) (hc1 : p_n.step.strokes.length ≤ cap1) (h2 : SL H encNode ao2 p_n.nodes) (hc2 : p_n.nodes.length ≤ cap2) (hG : Glob H) (r : Motion) (hm : self p_n = some r), Con prog 53 [(.agg #[(.int .i64 p_n.kind), (.slice ao1 p_n.step.strokes.length cap1), (.int .i64 p_n.step.wait), (.int .i64 p_n.count), (mkS p_n.name), (.slice ao2 p_n.nodes.length cap2)])] w H (fun v H' => ∃ (t1 : TypeId) (c1 : Value), v = (.iface t1 c1) ∧ MotionRep H' r (.iface t1 c1))) (p_n : Node) (ao1 : Option Addr) (cap1 : Nat) (ao2 : Option Addr) (cap2 : Nat) (w : World) (H : Heap) (hH : Le H (hp w)) (h1 : SL H encStroke ao1 p_n.step.strokes) (hc1 : p_n.step.strokes.length ≤ cap1) (h2 : SL H encNode ao2 p_n.nodes) (hc2 : p_n.nodes.length ≤ cap2) (hG : Glob H) (r : Motion) (hm : program_of_body self p_n = some r) :
  Con prog 53 [(.agg #[(.int .i64 p_n.kind), (.slice ao1 p_n.step.strokes.length cap1), (.int .i64 p_n.step.wait), (.int .i64 p_n.count), (mkS p_n.name), (.slice ao2 p_n.nodes.length cap2)])] w H (fun v H' => ∃ (t1 : TypeId) (c1 : Value), v = (.iface t1 c1) ∧ MotionRep H' r (.iface t1 c1)) := by
 unfold program_of_body at hm
 refine con_of hH func53 rfl 51 ntmps53 rfl ?_
 refine WP.seq (WP.region ?_)
 refine ws rfl (os_box (cs := [(.int .i64 p_n.kind), (.slice ao1 p_n.step.strokes.length cap1), (.int .i64 p_n.step.wait), (.int .i64 p_n.count), (mkS p_n.name), (.slice ao2 p_n.nodes.length cap2)]) rfl rfl rfl (fun b1 => ?_))
 refine Va rfl (WL.nil (tn (WP.seq (WP.region (Va rfl (WL.nil (tn ?_)))))))
 obtain ⟨k1, hk1, hm⟩ := joinK_some hm
 refine WP.seq_join (fun g' S' => ∃ (H3 : Heap) (l3 : (List Motion)) (ao7 : Option Addr) (cap7 : Nat) (xs2 : List Value), Le H H3 ∧ RL H3 encMotion l3 xs2 ∧ Sub [(1, (pB b1 0)), (3, (.slice ao7 l3.length cap7)), (1000000007, (.bool false))] g' ∧ (∀ w', S' w' → St w H [.row 99 (encMotion).size l3.length (.slice ao7 l3.length cap7) xs2, .blk b1 28 [(.int .i64 p_n.kind), (.slice ao1 p_n.step.strokes.length cap1), (.int .i64 p_n.step.wait), (.int .i64 p_n.count), (mkS p_n.name), (.slice ao2 p_n.nodes.length cap2)]] H3 w') ∧ k1 l3 = some r) ?_ ?_
 ·
  refine WP.seq (WP.region (V rfl (ov_fieldAddr underlying28 rfl rfl rfl sizeOf26 rfl rfl) (Vl 0 isAgg26 rfl (V rfl (ov_len_slice underlying26 rfl rfl) (Vm rfl (WL.nil (tn (WP.block ?_))))))))
  have rl1 := RL.nil (α := Motion) H encMotion
  refine WP.weaken (fun _ s => s.nilrow 99 (encMotion).size) ?_
  refine WP.loop (fun m1 g' S' => ∃ (H1 : Heap) (i1 : Int) (l1 : (List Motion)) (ao3 : Option Addr) (cap3 : Nat) (xs1 : List Value), Le H H1 ∧ RL H1 encMotion l1 xs1 ∧ Sub [(1, (pB b1 0)), (3, (.slice ao3 l1.length cap3)), (7, (.slice ao2 p_n.nodes.length cap2)), (8, (.int .i64 (p_n.nodes.length : Int))), (9, (.int .i64 i1)), (1000000007, (.bool false))] g' ∧ (∀ w', S' w' → St w H [.row 99 (encMotion).size l1.length (.slice ao3 l1.length cap3) xs1, .blk b1 28 [(.int .i64 p_n.kind), (.slice ao1 p_n.step.strokes.length cap1), (.int .i64 p_n.step.wait), (.int .i64 p_n.count), (mkS p_n.name), (.slice ao2 p_n.nodes.length cap2)]] H1 w') ∧ program_of_loop1 p_n self k1 m1 i1 l1 = some r) ((Int.toNat ((p_n.nodes.length : Int) - 0) + 1)) ⟨H, 0, ([] : List Motion), none, 0, [], (Le.refl _), rl1, (Sub.all rfl), fun w' s => s, hm⟩ ?_ ?_
  ·
   rintro g' S' ⟨_, _, _, _, _, _, _, _, _, _, hm⟩
   exact none_some hm
  rintro m1 g' S' ⟨H1, i1, l1, ao3, cap3, xs1, hle1, rl2, hsub1, hS1, hm⟩
  refine WP.sub hsub1 (WP.weaken hS1 ?_)
  rw [program_of_loop1] at hm
  replace h2 := h2.mono hle1
  replace h1 := h1.mono hle1
  replace hG := hG.mono hle1
  refine WP.seq (WP.region (V rfl (ov_lss rfl rfl rfl) (WL.nil (tn (WP.seq ?_)))))
  refine WP.cond rfl (fun hc3 => ?_) (fun hc3 => ?_)
  ·
   replace hm := ite_t hc3 hm
   refine WP.skip (tn (WP.seq (WP.block (WP.seq (WP.region ?_)))))
   obtain ⟨x1, e1, hm⟩ := bind_some hm
   obtain ⟨h6, h7, h8, cs1, h9, h10⟩ := h2.get e1 (by decide)
   obtain ⟨ao4, cap4, ao5, cap5, rfl, h4, hc4, h5, hc5⟩ := (encNode_open h9)
   refine V rfl (ov_indexAddr underlying26 sizeOf28 rfl rfl rfl h6 h7 h8) (V rfl (ov_load_elems (vs := [(.int .i64 x1.kind), (.slice ao4 x1.step.strokes.length cap4), (.int .i64 x1.step.wait), (.int .i64 x1.count), (mkS x1.name), (.slice ao5 x1.nodes.length cap5)]) isAgg28 sizeOf28 rfl rfl rfl h10 h8) ?_)
   refine ws rfl (os_alloc (cs := [(.int .i64 0), (.slice none 0 0), (.int .i64 0), (.int .i64 0), (mkS []), (.slice none 0 0)]) zeroValue28 rfl rfl (fun b2 => ?_))
   refine ws0 rfl (os_store (i := 0) (vs := [(.int .i64 x1.kind), (.slice ao4 x1.step.strokes.length cap4), (.int .i64 x1.step.wait), (.int .i64 x1.count), (mkS x1.name), (.slice ao5 x1.nodes.length cap5)]) (cs' := [(.int .i64 x1.kind), (.slice ao4 x1.step.strokes.length cap4), (.int .i64 x1.step.wait), (.int .i64 x1.count), (mkS x1.name), (.slice ao5 x1.nodes.length cap5)]) sizeOf28 rfl rfl rfl rfl rfl rfl rfl rfl rfl ?_)
   refine WL.nil (tn (WP.region (Vm rfl (V rfl (ov_load_whole (i := 0) isAgg28 sizeOf28 rfl rfl rfl rfl) ?_))))
   obtain ⟨r1, e2, hm⟩ := bind_some hm
   refine ws rfl (os_con call53 rfl rfl (fun w' s => (hself x1 ao4 cap4 ao5 cap5  w' H1 s.hold h4 hc4 h5 hc5 hG r1 e2)) (fun rr1 H2 hle2 hR1 => ?_))
   replace rl2 := rl2.mono hle2
   replace h1 := h1.mono hle2
   obtain ⟨t2, c2, rfl, h11⟩ := hR1
   have rl3 : RL H2 encMotion ([r1] : List Motion) [(.iface t2 c2)] := RL.cons (cs := [(.iface t2 c2)]) (xs := []) ⟨t2, c2, rfl, h11⟩ (RL.nil _ _)
   refine ws rfl (os_buildSlice (cs := [(.iface t2 c2)]) (E := 99) (sz := 1) rfl rfl (fun _ => by kernel_rfl) rfl (by decide) (fun b3 => ?_))
   obtain ⟨l2, e3, hm⟩ := bind_some hm
   refine ws rfl (os_app (i := 2) (j := 0) (En := encMotion) (xs := xs1) (ys := [(.iface t2 c2)]) underlying142 (by kernel_rfl : (prog.info? 99).map (fun i => (i.zero, i.size, i.bytes)) = some (some .nilIface, (encMotion).size, 16)) rfl (by decide) rfl rfl rfl rfl rfl rfl rl2 rl3 e3 (fun ao6 cap6 rl4 => ?_))
   refine Va rfl (WL.nil (bn (tn (WP.region (V rfl (ov_add rfl rfl rfl) (Vm rfl (WL.nil (tn ?_))))))))
   exact ⟨H2, (IntKind.wrap .i64 (i1 + 1)), (l1 ++ ([r1] : List Motion)), ao6, cap6, (xs1 ++ [(.iface t2 c2)]), (hle1.trans hle2), rl4, (Sub.all rfl), fun w' s => (s.select [2, 3] (by decide) rfl), hm⟩
  replace hm := ite_f hc3 hm
  refine WP.exit (then_exit (then_exit (block_here (tn ?_))))
  exact ⟨H1, l1, ao3, cap3, xs1, hle1, rl2, (Sub.all rfl), fun w' s => s, hm⟩
 rintro g' S' ⟨H3, l3, ao7, cap7, xs2, hle3, rl5, hsub2, hS2, hm⟩
 refine WP.sub hsub2 (WP.weaken hS2 ?_)
 replace hm := (congrFun hk1 l3).symm.trans hm
 replace h1 := h1.mono hle3
 refine WP.seq (WP.seq (WP.region (V rfl (ov_fieldAddr underlying28 rfl rfl rfl sizeOf3 rfl rfl) (Vl 1 isAgg3 rfl (WL.nil (tn (WP.block (WP.seq (WP.region (V rfl (ov_eql rfl rfl rfl) (Va rfl (WL.nil (tn ?_)))))))))))))
 refine WP.cond rfl (fun hc6 => ?_) (fun hc6 => ?_)
 ·
  replace hm := ite_t hc6 hm
  refine WP.seq (WP.region (V rfl (ov_fieldAddr underlying28 rfl rfl rfl sizeOf25 rfl rfl) (V rfl (ov_load_boxes (i := 1) (vs := [(.slice ao1 p_n.step.strokes.length cap1), (.int .i64 p_n.step.wait)]) isAgg25 sizeOf25 rfl rfl rfl rfl (part_of rfl)) (V rfl (ov_build (r := (.agg #[(.slice ao1 p_n.step.strokes.length cap1), (.int .i64 p_n.step.wait)])) rfl rfl (fun _ => by kernel_rfl)) ?_))))
  have h12 : MotionRep H3 (Motion.single p_n.step) (.iface 141 (.agg #[(.slice ao1 p_n.step.strokes.length cap1), (.int .i64 p_n.step.wait)])) := MotionRep.mk_single h1 hc1
  refine V rfl (ov_makeIface underlying141 (fun _ h => by cases h) rfl rfl) (Va rfl (WL.nil (tn (WP.ret (block_ret (then_ret ?_))))))
  obtain rfl := Option.some.inj hm
  refine retQ_ret results53 (Res.tmp rfl Res.nil) rfl (fun w' s => ⟨s.below, ?_⟩)
  exact ⟨141, (.agg #[(.slice ao1 p_n.step.strokes.length cap1), (.int .i64 p_n.step.wait)]), rfl, h12.mono s.le_newer⟩
 replace hm := ite_f hc6 hm
 refine WP.seq (WP.region (V rfl (ov_eql rfl rfl rfl) (Va rfl (WL.nil (tn ?_)))))
 refine WP.cond rfl (fun hc7 => ?_) (fun hc7 => ?_)
 ·
  replace hm := ite_t hc7 hm
  refine WP.seq (WP.region (Vm rfl (V rfl (ov_build (r := (.agg #[(.slice ao7 l3.length cap7)])) rfl rfl (fun _ => by kernel_rfl)) ?_)))
  refine WL.held rl5 (fun H4 hc8 hle4 h13 => ?_)
  have h14 : MotionRep H4 (Motion.list l3) (.iface 144 (.agg #[(.slice ao7 l3.length cap7)])) := MotionRep.mk_list h13 hc8
  refine V rfl (ov_makeIface underlying144 (fun _ h => by cases h) rfl rfl) (Va rfl (WL.nil (tn (WP.ret (block_ret (then_ret ?_))))))
  obtain rfl := Option.some.inj hm
  refine retQ_ret results53 (Res.tmp rfl Res.nil) rfl (fun w' s => ⟨s.below, ?_⟩)
  exact ⟨144, (.agg #[(.slice ao7 l3.length cap7)]), rfl, h14.mono s.le_newer⟩
 replace hm := ite_f hc7 hm
 refine WP.seq (WP.region (V rfl (ov_eql rfl rfl rfl) (Va rfl (WL.nil (tn ?_)))))
 refine WP.cond rfl (fun hc9 => ?_) (fun hc9 => ?_)
 ·
  replace hm := ite_t hc9 hm
  refine WP.seq ?_
  refine WP.held rl5 (fun H5 hc10 hle5 h15 => ?_)
  refine WP.region_draws (by kernel_rfl) (by kernel_rfl) (fun _ s => s.drew) ?_
  refine qf rfl (ov_fieldAddr underlying28 rfl rfl rfl sizeOf3 rfl rfl) ?_
  refine qf rfl (ov_load_box (i := 0) isAgg3 rfl rfl rfl rfl) ?_
  refine qf rfl (ov_move rfl rfl) ?_
  obtain ⟨x2, e4, hm⟩ := bind_some hm
  obtain ⟨h17, h18, h19, cs2, h20, h21⟩ := h15.get e4 (by decide)
  obtain ⟨t3, c3, rfl, h16⟩ := h20
  refine qf rfl (ov_indexAddr underlying142 sizeOf99 rfl rfl rfl h17 h18 h19) ?_
  refine qf rfl (ov_load_elem (v := (.iface t3 c3)) isAgg99 rfl rfl h21) ?_
  refine qf rfl (ov_build (r := (.agg #[(.int .i64 p_n.count), (.iface t3 c3)])) rfl rfl (fun _ => by kernel_rfl)) ?_
  have h22 : MotionRep H5 (Motion.repeat_ p_n.count x2) (.iface 146 (.agg #[(.int .i64 p_n.count), (.iface t3 c3)])) := MotionRep.mk_repeat h16
  refine qf rfl (ov_makeIface underlying146 (fun _ h => by cases h) rfl rfl) ?_
  refine qf rfl (ov_assign rfl rfl) ?_
  refine QL.nil ?_
  refine tn (WP.ret (block_ret (then_ret ?_)))
  obtain rfl := Option.some.inj hm
  refine retQ_ret results53 (Res.tmp rfl Res.nil) rfl (fun w' s => ⟨s.below, ?_⟩)
  exact ⟨146, (.agg #[(.int .i64 p_n.count), (.iface t3 c3)]), rfl, h22.mono s.le_newer⟩
 replace hm := ite_f hc9 hm
 refine WP.skip (bn (tn (WP.seq ?_)))
 refine WP.held rl5 (fun H6 hc11 hle6 h23 => ?_)
 refine WP.region_draws (by kernel_rfl) (by kernel_rfl) (fun _ s => s.drew) ?_
 refine qf rfl (ov_fieldAddr underlying28 rfl rfl rfl sizeOf9 rfl rfl) ?_
 refine qf rfl (ov_load_box (i := 0) isAgg9 rfl rfl rfl rfl) ?_
 refine qf rfl (ov_move rfl rfl) ?_
 obtain ⟨x3, e5, hm⟩ := bind_some hm
 obtain ⟨h25, h26, h27, cs3, h28, h29⟩ := h23.get e5 (by decide)
 obtain ⟨t4, c4, rfl, h24⟩ := h28
 refine qf rfl (ov_indexAddr underlying142 sizeOf99 rfl rfl rfl h25 h26 h27) ?_
 refine qf rfl (ov_load_elem (v := (.iface t4 c4)) isAgg99 rfl rfl h29) ?_
 refine qf rfl (ov_move rfl rfl) ?_
 obtain ⟨x4, e6, hm⟩ := bind_some hm
 obtain ⟨h31, h32, h33, cs4, h34, h35⟩ := h23.get e6 (by decide)
 obtain ⟨t5, c5, rfl, h30⟩ := h34
 refine qf rfl (ov_indexAddr underlying142 sizeOf99 rfl rfl rfl h31 h32 h33) ?_
 refine qf rfl (ov_load_elem (v := (.iface t5 c5)) isAgg99 rfl rfl h35) ?_
 refine qf rfl (ov_build (r := (.agg #[(mkS p_n.name), (.iface t4 c4), (.iface t5 c5)])) rfl rfl (fun _ => by kernel_rfl)) ?_
 have h36 : MotionRep H6 (Motion.choice p_n.name x3 x4) (.iface 148 (.agg #[(mkS p_n.name), (.iface t4 c4), (.iface t5 c5)])) := MotionRep.mk_choice h24 h30
 refine qf rfl (ov_makeIface underlying148 (fun _ h => by cases h) rfl rfl) ?_
 refine qf rfl (ov_assign rfl rfl) ?_
 refine QL.nil ?_
 refine tn (WP.ret ?_)
 obtain rfl := Option.some.inj hm
 refine retQ_ret results53 (Res.tmp rfl Res.nil) rfl (fun w' s => ⟨s.below, ?_⟩)
 exact ⟨148, (.agg #[(mkS p_n.name), (.iface t4 c4), (.iface t5 c5)]), rfl, h36.mono s.le_newer⟩
theorem program_of_con (n : Nat) : ∀ (p_n : Node) (ao1 : Option Addr) (cap1 : Nat) (ao2 : Option Addr) (cap2 : Nat) (w : World) (H : Heap) (hH : Le H (hp w)) (h1 : SL H encStroke ao1 p_n.step.strokes) (hc1 : p_n.step.strokes.length ≤ cap1) (h2 : SL H encNode ao2 p_n.nodes) (hc2 : p_n.nodes.length ≤ cap2) (hG : Glob H) (r : Motion) (hm : program_of n p_n = some r),
  Con prog 53 [(.agg #[(.int .i64 p_n.kind), (.slice ao1 p_n.step.strokes.length cap1), (.int .i64 p_n.step.wait), (.int .i64 p_n.count), (mkS p_n.name), (.slice ao2 p_n.nodes.length cap2)])] w H (fun v H' => ∃ (t1 : TypeId) (c1 : Value), v = (.iface t1 c1) ∧ MotionRep H' r (.iface t1 c1)) := by
 induction n with
 | zero => intro p_n ao1 cap1 ao2 cap2 w H hH h1 hc1 h2 hc2 hG r hm; exact (none_some hm).elim
 | succ n ih => intro p_n ao1 cap1 ao2 cap2 w H hH h1 hc1 h2 hc2 hG r hm; exact program_of_body_con (program_of n) ih p_n ao1 cap1 ao2 cap2 w H hH h1 hc1 h2 hc2 hG r hm
end Go.Proofs.YtgpfgnpdbmbknaaGreatDoor.W
