import Derived.Test.YtkgijoddkibapaaGreatDoorPlain
import Derived.Test.YtkgijoddkibapaaGreatDoorEqs
import Derived.Test.YtkgijoddkibapaaGreatDoorProg
import Derived.Test.YtkgijoddkibapaaGreatDoorExt
import Derived.Test.YtkgijoddkibapaaGreatDoorBuild
import Derived.Test.YtkgijoddkibapaaGreatDoorClone
import Derived.Test.YtkgijoddkibapaaGreatDoorWalk4
set_option linter.unusedVariables false
set_option maxRecDepth 100000
set_option maxHeartbeats 4000000
namespace Go.Proofs.YtkgijoddkibapaaGreatDoor.W
open Go Go.RowKit Go.Proofs.Tryz
theorem program_reader_takes_con (p_r : Rdr) (p_kind : Int) (p_text : (List UInt8)) (bp1 : Nat) (ao1 : Option Addr) (cap1 : Nat) (w0 : World) (H0 : Heap) (tl : List Ent) (H : Heap) (h1 : SL H encToken ao1 p_r.tokens) (hc1 : p_r.tokens.length ≤ cap1) (hG : Glob H) (r : (Bool × Int × Bool)) (hm : program_reader_takes p_r p_kind p_text = some r) :
  BCon prog 65 [(pB bp1 0), (.int .i64 p_kind), (mkS p_text)] w0 H0 (.blk bp1 88 [(.slice ao1 p_r.tokens.length cap1), (.int .i64 p_r.at_), (.bool p_r.bad)] :: tl) H (fun v _ ms' => v = (.bool r.1) ∧ ms' = (.blk bp1 88 [(.slice ao1 p_r.tokens.length cap1), (.int .i64 r.2.1), (.bool r.2.2)] :: tl)) := by
 unfold program_reader_takes at hm
 refine bcon_of func65 rfl 37 ntmps65 rfl ?_
 refine WP.seq (WP.region (Va rfl (WL.nil (tn (WP.seq (WP.region (Vm rfl ?_)))))))
 refine ws rfl (os_inline (cap := []) (vs := [(pB bp1 0)]) call39 rfl rfl rfl func39 rfl 13 ntmps39 rfl (fun w' s => ?_))
 refine WP.seq (WP.region ?_)
 refine ws rfl (os_alloc (cs := [(.int .i64 0), (mkS []), (.int .i64 0)]) zeroValue91 rfl rfl (fun b1 => ?_))
 refine WL.nil (tn (WP.seq ?_))
 refine WP.region_any (S₀ := St w0 H0 (.blk bp1 88 [(.slice ao1 p_r.tokens.length cap1), (.int .i64 p_r.at_), (.bool p_r.bad)] :: tl) H) 11 rfl (by kernel_rfl) (fun w' s => (s.selectT 2 [1] (by decide) rfl rfl)) (fun _ s => s.drew) ?_
 refine TQ 0 (by kernel_rfl) rfl (ov_move rfl rfl) (TQ 1 (by kernel_rfl) rfl (ov_nilCheckB rfl rfl) (TQ 2 (by kernel_rfl) rfl (ov_fieldAddr underlying88 rfl rfl rfl sizeOf83 rfl rfl) (TQ 3 (by kernel_rfl) rfl (ov_load_box (i := 0) isAgg83 rfl rfl rfl rfl) (TQ 4 (by kernel_rfl) rfl (ov_move rfl rfl) (TQ 5 (by kernel_rfl) rfl (ov_nilCheckB rfl rfl) (TQ 6 (by kernel_rfl) rfl (ov_fieldAddr underlying88 rfl rfl rfl sizeOf3 rfl rfl) (TQ 7 (by kernel_rfl) rfl (ov_load_box (i := 0) isAgg3 rfl rfl rfl rfl) ?_)))))))
 obtain ⟨x1, e1, hm⟩ := bind_some hm
 obtain ⟨h2, h3, h4, cs1, h5, h6⟩ := h1.get e1 (by decide)
 obtain rfl : cs1 = [(.int .i64 x1.kind), (mkS x1.text), (.int .i64 x1.at_)] := h5
 refine TQ 8 (by kernel_rfl) rfl (ov_indexAddr underlying83 sizeOf91 rfl rfl rfl h2 h3 h4) (TQ 9 (by kernel_rfl) rfl (ov_load_elems (vs := [(.int .i64 x1.kind), (mkS x1.text), (.int .i64 x1.at_)]) isAgg91 sizeOf91 rfl rfl rfl h6 h4) ?_)
 refine AL.any (rs := [10]) (by kernel_rfl) (by decide) ?_
 refine ALs.cons0 (i := 10) rfl (Runs.free rfl) rfl ?_ ?_
 ·
  refine os_store (i := 0) (vs := [(.int .i64 x1.kind), (mkS x1.text), (.int .i64 x1.at_)]) (cs' := [(.int .i64 x1.kind), (mkS x1.text), (.int .i64 x1.at_)]) sizeOf91 rfl rfl rfl rfl rfl rfl rfl rfl rfl ?_
  refine ⟨fun w' s => (s.selectT 2 [1] (by decide) rfl rfl), ?_⟩
  refine AL.done (by kernel_rfl) ?_
  refine tn (WP.ret ?_)
  refine retQ_ret (v := (.agg #[(.int .i64 x1.kind), (mkS x1.text), (.int .i64 x1.at_)])) results39 (Res.cell rfl (box_loads (i := 0) isAgg91 sizeOf91 rfl rfl) Res.nil) rfl (fun w' s => ⟨_, ?_, s⟩)
  refine ws rfl (os_alloc (cs := [(.int .i64 0), (mkS []), (.int .i64 0)]) zeroValue91 rfl rfl (fun b2 => ?_))
  refine ws0 rfl (os_store (i := 0) (vs := [(.int .i64 x1.kind), (mkS x1.text), (.int .i64 x1.at_)]) (cs' := [(.int .i64 x1.kind), (mkS x1.text), (.int .i64 x1.at_)]) sizeOf91 rfl rfl rfl rfl rfl rfl rfl rfl rfl ?_)
  refine WL.nil (tn (WP.seq (WP.seq (WP.region (Vm rfl (V rfl (ov_nilCheckB rfl rfl) (V rfl (ov_fieldAddr underlying88 rfl rfl rfl sizeOf4 rfl rfl) (Vl 2 isAgg4 rfl (Vm rfl ?_)))))))))
  refine WL.cut_bool 5 19 (x := (p_r.bad || (x1.kind != p_kind))) ?_ ?_
  ·
   rcases Bool.eq_false_or_eq_true p_r.bad with hc2 | hc2
   ·
    refine Vi rfl (Idle.no rfl rfl rfl hc2) (Vi rfl (Idle.no rfl rfl rfl hc2) (Vi rfl (Idle.no rfl rfl rfl hc2) (Vi rfl (Idle.no rfl rfl rfl hc2) (V rfl (ov_pick_true rfl (guard_eq rfl hc2) rfl) ?_))))
    exact WL.nil ⟨Sub.cons' rfl (congrArg Value.bool (orT hc2)) (Sub.dropn 5 rfl), fun _ s => s⟩
   refine wy hc2 rfl (ov_fieldAddr underlying91 rfl rfl rfl sizeOf3 rfl rfl) ?_
   refine wy hc2 rfl (ov_load_box (i := 0) isAgg3 rfl rfl rfl rfl) ?_
   refine wy hc2 rfl (ov_move rfl rfl) ?_
   refine wy hc2 rfl (ov_neq rfl rfl rfl) ?_
   refine V rfl (ov_pick_false rfl (guard_eq rfl hc2) rfl) ?_
   exact WL.nil ⟨Sub.cons' rfl (congrArg Value.bool (orF hc2)) (Sub.dropn 5 rfl), fun _ s => s⟩
  refine Vm rfl ?_
  refine WL.cut_bool 9 29 (x := ((p_r.bad || (x1.kind != p_kind)) || ((!(p_text == [])) && (!(x1.text == p_text))))) ?_ ?_
  ·
   rcases Bool.eq_false_or_eq_true (p_r.bad || (x1.kind != p_kind)) with hc3 | hc3
   ·
    refine Vi rfl (Idle.no rfl rfl rfl hc3) (Vi rfl (Idle.no rfl rfl rfl hc3) (Vi rfl (Idle.no rfl rfl rfl hc3) (Vi rfl (Idle.undef rfl rfl rfl) (Vi rfl (Idle.undef rfl rfl rfl) (Vi rfl (Idle.undef rfl rfl rfl) (Vi rfl (Idle.undef rfl rfl rfl) (Vi rfl (Idle.no rfl rfl rfl hc3) (V rfl (ov_pick_true rfl (guard_eq rfl hc3) rfl) ?_))))))))
    exact WL.nil ⟨Sub.cons' rfl (congrArg Value.bool (orT hc3)) (Sub.dropn 9 rfl), fun _ s => s⟩
   refine wy hc3 rfl (ov_move rfl rfl) ?_
   refine wy hc3 rfl (ov_sneq rfl rfl rfl) ?_
   refine wy hc3 rfl (ov_move rfl rfl) ?_
   refine WL.cut_bool 5 28 (x := ((!(p_text == [])) && (!(x1.text == p_text)))) ?_ ?_
   ·
    rcases Bool.eq_false_or_eq_true (!(p_text == [])) with hc4 | hc4
    ·
     refine wy hc4 rfl (ov_fieldAddr underlying91 rfl rfl rfl sizeOf9 rfl rfl) ?_
     refine wy hc4 rfl (ov_load_box (i := 0) isAgg9 rfl rfl rfl rfl) ?_
     refine wy hc4 rfl (ov_move rfl rfl) ?_
     refine wy hc4 rfl (ov_sneq rfl rfl rfl) ?_
     refine wy hc3 rfl (ov_pick_true rfl (guard_eq rfl hc4) rfl) ?_
     exact WL.nil ⟨Sub.cons' rfl (congrArg Value.bool (andT hc4)) (Sub.dropn 5 rfl), fun _ s => s⟩
    refine Vi rfl (Idle.no rfl rfl rfl hc4) (Vi rfl (Idle.no rfl rfl rfl hc4) (Vi rfl (Idle.no rfl rfl rfl hc4) (Vi rfl (Idle.no rfl rfl rfl hc4) ?_)))
    refine wy hc3 rfl (ov_pick_false rfl (guard_eq rfl hc4) rfl) ?_
    exact WL.nil ⟨Sub.cons' rfl (congrArg Value.bool (andF hc4)) (Sub.dropn 5 rfl), fun _ s => s⟩
   refine V rfl (ov_pick_false rfl (guard_eq rfl hc3) rfl) ?_
   exact WL.nil ⟨Sub.cons' rfl (congrArg Value.bool (orF hc3)) (Sub.dropn 5 rfl), fun _ s => s⟩
  refine WL.nil (tn ?_)
  refine WP.cond rfl (fun hc5 => ?_) (fun hc5 => ?_)
  ·
   replace hm := ite_t hc5 hm
   refine WP.seq (WP.region (Va rfl (WL.nil (tn (WP.ret (then_ret ?_))))))
   obtain rfl := Option.some.inj hm
   refine retQ_ret results65 (Res.tmp rfl Res.nil) rfl (fun w' s => ?_)
   exact ⟨H, _, (Le.refl _), ⟨rfl, rfl⟩, (s.selectT 3 [2] (by decide) rfl rfl)⟩
  replace hm := ite_f hc5 hm
  refine WP.skip (tn (WP.seq (WP.region (Vm rfl (V rfl (ov_nilCheckB rfl rfl) (V rfl (ov_fieldAddr underlying88 rfl rfl rfl sizeOf3 rfl rfl) (Vl 2 isAgg3 rfl (V rfl (ov_add rfl rfl rfl) (V rfl (ov_nilCheckB rfl rfl) (V rfl (ov_fieldAddr underlying88 rfl rfl rfl sizeOf3 rfl rfl) ?_))))))))))
  refine ws0 rfl (os_store (i := 2) (vs := [(.int .i64 (IntKind.wrap .i64 (p_r.at_ + 1)))]) (cs' := [(.slice ao1 p_r.tokens.length cap1), (.int .i64 (IntKind.wrap .i64 (p_r.at_ + 1))), (.bool p_r.bad)]) sizeOf3 rfl rfl rfl rfl rfl rfl rfl rfl rfl ?_)
  refine WL.nil (tn (WP.seq (WP.region (Va rfl (WL.nil (tn (WP.ret ?_)))))))
  obtain rfl := Option.some.inj hm
  refine retQ_ret results65 (Res.tmp rfl Res.nil) rfl (fun w' s => ?_)
  exact ⟨H, _, (Le.refl _), ⟨rfl, rfl⟩, (s.selectT 3 [2] (by decide) rfl rfl)⟩
 exact ALs.nil
theorem program_reader_needs_con (p_r : Rdr) (p_kind : Int) (p_text : (List UInt8)) (bp1 : Nat) (ao1 : Option Addr) (cap1 : Nat) (w0 : World) (H0 : Heap) (tl : List Ent) (H : Heap) (h1 : SL H encToken ao1 p_r.tokens) (hc1 : p_r.tokens.length ≤ cap1) (hG : Glob H) (r : ((List UInt8) × Int × Bool)) (hm : program_reader_needs p_r p_kind p_text = some r) :
  BCon prog 66 [(pB bp1 0), (.int .i64 p_kind), (mkS p_text)] w0 H0 (.blk bp1 88 [(.slice ao1 p_r.tokens.length cap1), (.int .i64 p_r.at_), (.bool p_r.bad)] :: tl) H (fun v _ ms' => v = (mkS r.1) ∧ ms' = (.blk bp1 88 [(.slice ao1 p_r.tokens.length cap1), (.int .i64 r.2.1), (.bool r.2.2)] :: tl)) := by
 unfold program_reader_needs at hm
 refine bcon_of func66 rfl 20 ntmps66 rfl ?_
 refine WP.seq (WP.region (Va rfl (WL.nil (tn (WP.seq (WP.region (Vm rfl ?_)))))))
 refine ws rfl (os_inline (cap := []) (vs := [(pB bp1 0)]) call39 rfl rfl rfl func39 rfl 13 ntmps39 rfl (fun w' s => ?_))
 refine WP.seq (WP.region ?_)
 refine ws rfl (os_alloc (cs := [(.int .i64 0), (mkS []), (.int .i64 0)]) zeroValue91 rfl rfl (fun b1 => ?_))
 refine WL.nil (tn (WP.seq ?_))
 refine WP.region_any (S₀ := St w0 H0 (.blk bp1 88 [(.slice ao1 p_r.tokens.length cap1), (.int .i64 p_r.at_), (.bool p_r.bad)] :: tl) H) 11 rfl (by kernel_rfl) (fun w' s => (s.selectT 2 [1] (by decide) rfl rfl)) (fun _ s => s.drew) ?_
 refine TQ 0 (by kernel_rfl) rfl (ov_move rfl rfl) (TQ 1 (by kernel_rfl) rfl (ov_nilCheckB rfl rfl) (TQ 2 (by kernel_rfl) rfl (ov_fieldAddr underlying88 rfl rfl rfl sizeOf83 rfl rfl) (TQ 3 (by kernel_rfl) rfl (ov_load_box (i := 0) isAgg83 rfl rfl rfl rfl) (TQ 4 (by kernel_rfl) rfl (ov_move rfl rfl) (TQ 5 (by kernel_rfl) rfl (ov_nilCheckB rfl rfl) (TQ 6 (by kernel_rfl) rfl (ov_fieldAddr underlying88 rfl rfl rfl sizeOf3 rfl rfl) (TQ 7 (by kernel_rfl) rfl (ov_load_box (i := 0) isAgg3 rfl rfl rfl rfl) ?_)))))))
 obtain ⟨x1, e1, hm⟩ := bind_some hm
 obtain ⟨h2, h3, h4, cs1, h5, h6⟩ := h1.get e1 (by decide)
 obtain rfl : cs1 = [(.int .i64 x1.kind), (mkS x1.text), (.int .i64 x1.at_)] := h5
 refine TQ 8 (by kernel_rfl) rfl (ov_indexAddr underlying83 sizeOf91 rfl rfl rfl h2 h3 h4) (TQ 9 (by kernel_rfl) rfl (ov_load_elems (vs := [(.int .i64 x1.kind), (mkS x1.text), (.int .i64 x1.at_)]) isAgg91 sizeOf91 rfl rfl rfl h6 h4) ?_)
 refine AL.any (rs := [10]) (by kernel_rfl) (by decide) ?_
 refine ALs.cons0 (i := 10) rfl (Runs.free rfl) rfl ?_ ?_
 ·
  refine os_store (i := 0) (vs := [(.int .i64 x1.kind), (mkS x1.text), (.int .i64 x1.at_)]) (cs' := [(.int .i64 x1.kind), (mkS x1.text), (.int .i64 x1.at_)]) sizeOf91 rfl rfl rfl rfl rfl rfl rfl rfl rfl ?_
  refine ⟨fun w' s => (s.selectT 2 [1] (by decide) rfl rfl), ?_⟩
  refine AL.done (by kernel_rfl) ?_
  refine tn (WP.ret ?_)
  refine retQ_ret (v := (.agg #[(.int .i64 x1.kind), (mkS x1.text), (.int .i64 x1.at_)])) results39 (Res.cell rfl (box_loads (i := 0) isAgg91 sizeOf91 rfl rfl) Res.nil) rfl (fun w' s => ⟨_, ?_, s⟩)
  refine V rfl (ov_field (cs := [(.int .i64 x1.kind), (mkS x1.text), (.int .i64 x1.at_)]) (r := (mkS x1.text)) rfl rfl (fun _ => by kernel_rfl)) (Va rfl (WL.nil (tn (WP.seq (WP.seq (WP.region (Vm rfl (Vm rfl (Vm rfl ?_)))))))))
  refine WL.weaken (fun _ s => s.selectT 2 [1, 0] (by decide) rfl rfl) ?_
  obtain ⟨r1, e2, hm⟩ := bind_some hm
  refine ws rfl (os_bcon call65 rfl rfl (program_reader_takes_con p_r p_kind p_text bp1 ao1 cap1 w0 H0 (.blk b1 91 [(.int .i64 x1.kind), (mkS x1.text), (.int .i64 x1.at_)] :: tl) H h1 hc1 hG r1 e2) (fun rr1 H1 ms1 hle1 hR1 => ?_))
  obtain ⟨rfl, rfl⟩ := hR1
  refine V rfl (ov_not rfl rfl) (WL.nil (tn ?_))
  refine WP.cond rfl (fun hc2 => ?_) (fun hc2 => ?_)
  ·
   replace hm := ite_t hc2 hm
   refine WP.seq (WP.region (Vm rfl (V rfl (ov_nilCheckB rfl rfl) (V rfl (ov_fieldAddr underlying88 rfl rfl rfl sizeOf4 rfl rfl) ?_))))
   refine ws0 rfl (os_store (i := 0) (vs := [(.bool true)]) (cs' := [(.slice ao1 p_r.tokens.length cap1), (.int .i64 r1.2.1), (.bool true)]) sizeOf4 rfl rfl rfl rfl rfl rfl rfl rfl rfl ?_)
   refine WL.nil (tn (WP.seq (WP.region (Va rfl (WL.nil (tn (WP.ret (then_ret ?_))))))))
   obtain rfl := Option.some.inj hm
   refine retQ_ret results66 (Res.tmp rfl Res.nil) rfl (fun w' s => ?_)
   exact ⟨H1, _, hle1, ⟨rfl, rfl⟩, (s.selectT 2 [0] (by decide) rfl rfl)⟩
  replace hm := ite_f hc2 hm
  refine WP.skip (tn (WP.seq (WP.region (Vm rfl (Va rfl (WL.nil (tn (WP.ret ?_))))))))
  obtain rfl := Option.some.inj hm
  refine retQ_ret results66 (Res.tmp rfl Res.nil) rfl (fun w' s => ?_)
  exact ⟨H1, _, hle1, ⟨rfl, rfl⟩, (s.selectT 2 [0] (by decide) rfl rfl)⟩
 exact ALs.nil
theorem internal_stringslite_HasPrefix_con (p_s : (List UInt8)) (p_prefix : (List UInt8)) (w : World) (H : Heap) (hH : Le H (hp w)) (hG : Glob H) (r : Bool) (hm : internal_stringslite_HasPrefix p_s p_prefix = some r) :
  Con prog 115 [(mkS p_s), (mkS p_prefix)] w H (fun v _ => v = (.bool r)) := by
 unfold internal_stringslite_HasPrefix at hm
 refine con_of hH func115 rfl 18 ntmps115 rfl ?_
 refine WP.seq (WP.region (Va rfl (WL.nil (tn (WP.seq (WP.region (Vm rfl (V rfl (ov_len_string underlying9 rfl rfl) (Vm rfl (V rfl (ov_len_string underlying9 rfl rfl) (V rfl (ov_geq rfl rfl rfl) (Vm rfl ?_))))))))))))
 obtain ⟨c1, e1, hm⟩ := bind_some hm
 refine WL.cut_bool 7 17 (x := c1) ?_ ?_
 ·
  rcases Bool.eq_false_or_eq_true (decide ((p_s.length : Int) ≥ (p_prefix.length : Int))) with hc1 | hc1
  ·
   replace hm := ite_t hc1 e1
   refine wy hc1 rfl (ov_move rfl rfl) ?_
   refine wy hc1 rfl (ov_move rfl rfl) ?_
   refine wy hc1 rfl (ov_len_string underlying9 rfl rfl) ?_
   obtain ⟨s1, e2, hm⟩ := bind_some hm
   refine wy hc1 rfl (ov_slice_string_to underlying9 rfl rfl rfl e2) ?_
   refine wy hc1 rfl (ov_move rfl rfl) ?_
   refine wy hc1 rfl (ov_seql rfl rfl rfl) ?_
   refine V rfl (ov_pick_true rfl (guard_eq rfl hc1) rfl) ?_
   exact WL.nil ⟨Sub.cons' rfl (congrArg Value.bool (Option.some.inj hm)) (Sub.dropn 7 rfl), fun _ s => s⟩
  replace hm := ite_f hc1 e1
  refine Vi rfl (Idle.no rfl rfl rfl hc1) (Vi rfl (Idle.no rfl rfl rfl hc1) (Vi rfl (Idle.no rfl rfl rfl hc1) (Vi rfl (Idle.no rfl rfl rfl hc1) (Vi rfl (Idle.no rfl rfl rfl hc1) (Vi rfl (Idle.no rfl rfl rfl hc1) (V rfl (ov_pick_false rfl (guard_eq rfl hc1) rfl) ?_))))))
  exact WL.nil ⟨Sub.cons' rfl (congrArg Value.bool (Option.some.inj hm)) (Sub.dropn 7 rfl), fun _ s => s⟩
 refine Va rfl (WL.nil (tn (WP.ret ?_)))
 obtain rfl := Option.some.inj hm
 refine retQ_ret results115 (Res.tmp rfl Res.nil) rfl (fun w' s => ⟨s.below, ?_⟩)
 exact rfl
theorem internal_stringslite_CutPrefix_con (p_s : (List UInt8)) (p_prefix : (List UInt8)) (w : World) (H : Heap) (hH : Le H (hp w)) (hG : Glob H) (r : ((List UInt8) × Bool)) (hm : internal_stringslite_CutPrefix p_s p_prefix = some r) :
  Con prog 126 [(mkS p_s), (mkS p_prefix)] w H (fun v _ => v = (.tuple #[(mkS r.1), (.bool r.2)])) := by
 unfold internal_stringslite_CutPrefix at hm
 refine con_of hH func126 rfl 15 ntmps126 rfl ?_
 refine WP.seq (WP.region (Va rfl (Va rfl (WL.nil (tn (WP.seq (WP.seq (WP.region (Vm rfl (Vm rfl ?_))))))))))
 obtain ⟨r1, e1, hm⟩ := bind_some hm
 refine wo rfl (oq_con (r := (.bool r1)) call115 rfl rfl (fun w' s => ⟨_, (internal_stringslite_HasPrefix_con p_s p_prefix  w' H s.hold hG r1 e1)⟩)) ?_
 refine V rfl (ov_not rfl rfl) (WL.nil (tn ?_))
 refine WP.cond rfl (fun hc1 => ?_) (fun hc1 => ?_)
 ·
  replace hm := ite_t hc1 hm
  refine WP.seq (WP.region (Vm rfl (Va rfl (Va rfl (WL.nil (tn (WP.ret (then_ret ?_))))))))
  obtain rfl := Option.some.inj hm
  refine retQ_ret results126 (Res.tmp rfl (Res.tmp rfl Res.nil)) rfl (fun w' s => ⟨s.below, ?_⟩)
  exact rfl
 replace hm := ite_f hc1 hm
 refine WP.skip (tn (WP.seq (WP.region (Vm rfl (Vm rfl (V rfl (ov_len_string underlying9 rfl rfl) ?_))))))
 obtain ⟨s1, e2, hm⟩ := bind_some hm
 refine V rfl (ov_slice_string_from underlying9 rfl rfl rfl e2) (Va rfl (Va rfl (WL.nil (tn (WP.ret ?_)))))
 obtain rfl := Option.some.inj hm
 refine retQ_ret results126 (Res.tmp rfl (Res.tmp rfl Res.nil)) rfl (fun w' s => ⟨s.below, ?_⟩)
 exact rfl
theorem strings_CutPrefix_con (p_s : (List UInt8)) (p_prefix : (List UInt8)) (w : World) (H : Heap) (hH : Le H (hp w)) (hG : Glob H) (r : ((List UInt8) × Bool)) (hm : strings_CutPrefix p_s p_prefix = some r) :
  Con prog 120 [(mkS p_s), (mkS p_prefix)] w H (fun v _ => v = (.tuple #[(mkS r.1), (.bool r.2)])) := by
 unfold strings_CutPrefix at hm
 refine con_of hH func120 rfl 11 ntmps120 rfl ?_
 refine WP.seq (WP.region (Va rfl (Va rfl (WL.nil (tn (WP.seq (WP.region (Vm rfl (Vm rfl ?_)))))))))
 obtain ⟨r1, e1, hm⟩ := bind_some hm
 refine wo rfl (oq_con (r := (.tuple #[(mkS r1.1), (.bool r1.2)])) call126 rfl rfl (fun w' s => ⟨_, (internal_stringslite_CutPrefix_con p_s p_prefix  w' H s.hold hG r1 e1)⟩)) ?_
 refine Ve rfl (Ve rfl (Va rfl (Va rfl (WL.nil (tn (WP.ret ?_))))))
 obtain rfl := Option.some.inj hm
 refine retQ_ret results120 (Res.tmp rfl (Res.tmp rfl Res.nil)) rfl (fun w' s => ⟨s.below, ?_⟩)
 exact rfl
theorem internal_strconv_Atoi_con (p_s : (List UInt8)) (w : World) (H : Heap) (hH : Le H (hp w)) (hG : Glob H) (r : (Int × Unit)) (hm : internal_strconv_Atoi p_s = some r) :
  Con prog 127 [(mkS p_s)] w H (fun v _ => v = (.tuple #[(.int .i64 r.1), .nilIface])) := by
 unfold internal_strconv_Atoi at hm
 refine con_of hH func127 rfl 77 ntmps127 rfl ?_
 refine WP.seq (WP.region (Va rfl (Va rfl (WL.nil (tn (WP.seq (WP.region (Vm rfl (V rfl (ov_len_string underlying9 rfl rfl) (Va rfl (WL.nil (tn ?_))))))))))))
 obtain ⟨k1, hk1, hm⟩ := joinK_some hm
 refine WP.seq_join (fun g' S' => Sub [(0, (mkS p_s)), (1000000007, (.bool false))] g' ∧ (∀ w', S' w' → St w H [] H w') ∧ k1 = some r) ?_ ?_
 ·
  refine WP.seq (WP.region (Vm rfl (Vi rfl (Idle.no rfl rfl rfl rfl) (Vi rfl (Idle.no rfl rfl rfl rfl) (Vi rfl (Idle.no rfl rfl rfl rfl) (Vi rfl (Idle.undef rfl rfl rfl) (Vi rfl (Idle.undef rfl rfl rfl) (Vi rfl (Idle.no rfl rfl rfl rfl) (V rfl (ov_pick_false rfl (guard_eq rfl rfl) rfl) (Vm rfl ?_))))))))))
  refine wy rfl rfl (ov_move rfl rfl) ?_
  refine wy rfl rfl (ov_move rfl rfl) ?_
  refine wy rfl rfl (ov_lss rfl rfl rfl) ?_
  refine wy rfl rfl (ov_move rfl rfl) ?_
  refine WL.cut_bool 3 28 (x := ((decide ((0 : Int) < (p_s.length : Int))) && (decide ((p_s.length : Int) < 19)))) ?_ ?_
  ·
   rcases Bool.eq_false_or_eq_true (decide ((0 : Int) < (p_s.length : Int))) with hc1 | hc1
   ·
    refine wy hc1 rfl (ov_move rfl rfl) ?_
    refine wy hc1 rfl (ov_lss rfl rfl rfl) ?_
    refine wy rfl rfl (ov_pick_true rfl (guard_eq rfl hc1) rfl) ?_
    exact WL.nil ⟨Sub.cons' rfl (congrArg Value.bool (andT hc1)) (Sub.dropn 3 rfl), fun _ s => s⟩
   refine Vi rfl (Idle.no rfl rfl rfl hc1) (Vi rfl (Idle.no rfl rfl rfl hc1) ?_)
   refine wy rfl rfl (ov_pick_false rfl (guard_eq rfl hc1) rfl) ?_
   exact WL.nil ⟨Sub.cons' rfl (congrArg Value.bool (andF hc1)) (Sub.dropn 3 rfl), fun _ s => s⟩
  refine wy rfl rfl (ov_pick_true rfl (guard_eq rfl rfl) rfl) ?_
  refine V rfl (ov_pick_false rfl (guard_eq rfl rfl) rfl) (WL.nil (tn ?_))
  refine WP.cond rfl (fun hc2 => ?_) (fun hc2 => ?_)
  ·
   replace hm := ite_t hc2 hm
   refine WP.seq (WP.region (Vm rfl (Va rfl (WL.nil (tn ?_)))))
   obtain ⟨k2, hk2, hm⟩ := joinK_some hm
   refine WP.seq_join (fun g' S' => ∃ (s2 : (List UInt8)), Sub [(0, (mkS s2)), (5, (mkS p_s)), (1000000007, (.bool false))] g' ∧ (∀ w', S' w' → St w H [] H w') ∧ k2 s2 = some r) ?_ ?_
   ·
    refine WP.seq (WP.region (Vm rfl ?_))
    obtain ⟨b1, e1, hm⟩ := bind_some hm
    refine V rfl (ov_index_string underlying9 rfl rfl rfl e1) (V rfl (ov_eql rfl rfl rfl) (Vm rfl ?_))
    obtain ⟨c1, e2, hm⟩ := bind_some hm
    refine WL.cut_bool 4 39 (x := c1) ?_ ?_
    ·
     rcases Bool.eq_false_or_eq_true ((b1.toNat : Int) == 45) with hc3 | hc3
     ·
      replace hm := ite_t hc3 e2
      refine Vi rfl (Idle.no rfl rfl rfl hc3) (Vi rfl (Idle.no rfl rfl rfl hc3) (Vi rfl (Idle.no rfl rfl rfl hc3) (V rfl (ov_pick_true rfl (guard_eq rfl hc3) rfl) ?_)))
      exact WL.nil ⟨Sub.cons' rfl (congrArg Value.bool (Option.some.inj hm)) (Sub.dropn 4 rfl), fun _ s => s⟩
     replace hm := ite_f hc3 e2
     refine wy hc3 rfl (ov_move rfl rfl) ?_
     obtain ⟨b2, e3, hm⟩ := bind_some hm
     refine wy hc3 rfl (ov_index_string underlying9 rfl rfl rfl e3) ?_
     refine wy hc3 rfl (ov_eql rfl rfl rfl) ?_
     refine V rfl (ov_pick_false rfl (guard_eq rfl hc3) rfl) ?_
     exact WL.nil ⟨Sub.cons' rfl (congrArg Value.bool (Option.some.inj hm)) (Sub.dropn 4 rfl), fun _ s => s⟩
    refine WL.nil (tn ?_)
    refine WP.cond rfl (fun hc4 => ?_) (fun hc4 => ?_)
    ·
     replace hm := ite_t hc4 hm
     refine WP.seq (WP.region (Vm rfl ?_))
     obtain ⟨s1, e4, hm⟩ := bind_some hm
     refine V rfl (ov_slice_string_from underlying9 rfl rfl rfl e4) (Va rfl (WL.nil (tn (WP.seq (WP.region (Vm rfl (V rfl (ov_len_string underlying9 rfl rfl) (V rfl (ov_lss rfl rfl rfl) (WL.nil (tn ?_))))))))))
     refine WP.cond rfl (fun hc5 => ?_) (fun hc5 => ?_)
     ·
      replace hm := ite_t hc5 hm
      exact (none_some hm).elim
     replace hm := ite_f hc5 hm
     refine WP.skip (tn ?_)
     exact ⟨s1, (Sub.all rfl), fun w' s => s, hm⟩
    replace hm := ite_f hc4 hm
    refine WP.skip (tn ?_)
    exact ⟨p_s, (Sub.all rfl), fun w' s => s, hm⟩
   rintro g' S' ⟨s2, hsub1, hS1, hm⟩
   refine WP.sub hsub1 (WP.weaken hS1 ?_)
   replace hm := (congrFun hk2 s2).symm.trans hm
   refine WP.seq (WP.region (Va rfl (WL.nil (tn ?_))))
   obtain ⟨k3, hk3, hm⟩ := joinK_some hm
   refine WP.seq_join (fun g' S' => ∃ (H2 : Heap) (i3 : Int), Le H H2 ∧ Sub [(5, (mkS p_s)), (6, (.int .i64 i3)), (1000000007, (.bool false))] g' ∧ (∀ w', S' w' → St w H [] H2 w') ∧ k3 i3 = some r) ?_ ?_
   ·
    refine WP.seq (WP.region (Vm rfl ?_))
    refine ws rfl (os_bytes underlying9 underlying123 underlying5 rfl rfl (fun ao1 cap1 H1 hle1 h1 hc6 => ?_))
    refine V rfl (ov_len_slice underlying123 rfl rfl) (Vm rfl (WL.nil (tn (WP.block ?_))))
    refine WP.loop (fun m1 g' S' => ∃ (i1 : Int) (i2 : Int), Sub [(5, (mkS p_s)), (6, (.int .i64 i1)), (47, (.slice ao1 (bytesI s2).length cap1)), (48, (.int .i64 ((bytesI s2).length : Int))), (49, (.int .i64 i2)), (1000000007, (.bool false))] g' ∧ (∀ w', S' w' → St w H [] H1 w') ∧ internal_strconv_Atoi_loop1 s2 k3 m1 i1 i2 = some r) ((Int.toNat (((bytesI s2).length : Int) - 0) + 1)) ⟨0, 0, (Sub.all rfl), fun w' s => s, hm⟩ ?_ ?_
    ·
     rintro g' S' ⟨_, _, _, _, hm⟩
     exact none_some hm
    rintro m1 g' S' ⟨i1, i2, hsub2, hS2, hm⟩
    refine WP.sub hsub2 (WP.weaken hS2 ?_)
    rw [internal_strconv_Atoi_loop1] at hm
    refine WP.seq (WP.region (V rfl (ov_lss rfl rfl rfl) (WL.nil (tn (WP.seq ?_)))))
    refine WP.cond rfl (fun hc7 => ?_) (fun hc7 => ?_)
    ·
     replace hm := ite_t hc7 hm
     refine WP.skip (tn (WP.seq (WP.block (WP.seq (WP.region ?_)))))
     obtain ⟨x1, e5, hm⟩ := bind_some hm
     obtain ⟨h2, h3, h4, cs1, h5, h6⟩ := h1.get e5 (by decide)
     obtain rfl : cs1 = [(.int .u8 x1)] := h5
     refine V rfl (ov_indexAddr underlying123 sizeOf5 rfl rfl rfl h2 h3 h4) (V rfl (ov_load_elem (v := (.int .u8 x1)) isAgg5 rfl rfl h6) (Va rfl (WL.nil (tn (WP.seq (WP.region (Vm rfl (V rfl (ov_sub rfl rfl rfl) (Va rfl (WL.nil (tn (WP.seq (WP.seq ?_)))))))))))))
     refine WP.region (Vm rfl (V rfl (ov_gtr rfl rfl rfl) (WL.nil (tn ?_))))
     refine WP.cond rfl (fun hc8 => ?_) (fun hc8 => ?_)
     ·
      replace hm := ite_t hc8 hm
      exact (none_some hm).elim
     replace hm := ite_f hc8 hm
     refine WP.skip (tn (WP.region (Vm rfl (V rfl (ov_mul rfl rfl rfl) (Vm rfl (V rfl (ov_convert_int underlying5 underlying3 rfl rfl) (V rfl (ov_add rfl rfl rfl) (Va rfl (WL.nil (bn (tn (WP.region (V rfl (ov_add rfl rfl rfl) ?_)))))))))))))
     refine Vm rfl (WL.nil (tn ?_))
     exact ⟨(IntKind.wrap .i64 ((IntKind.wrap .i64 (i1 * 10)) + (IntKind.wrap .i64 (IntKind.wrap .u8 (x1 - 48))))), (IntKind.wrap .i64 (i2 + 1)), (Sub.all rfl), fun w' s => s, hm⟩
    replace hm := ite_f hc7 hm
    refine WP.exit (then_exit (then_exit (block_here (tn ?_))))
    exact ⟨H1, i1, hle1, (Sub.all rfl), fun w' s => s, hm⟩
   rintro g' S' ⟨H2, i3, hle2, hsub3, hS3, hm⟩
   refine WP.sub hsub3 (WP.weaken hS3 ?_)
   replace hm := (congrFun hk3 i3).symm.trans hm
   obtain ⟨k4, hk4, hm⟩ := joinK_some hm
   refine WP.seq_join (fun g' S' => ∃ (i4 : Int), Sub [(6, (.int .i64 i4)), (1000000007, (.bool false))] g' ∧ (∀ w', S' w' → St w H [] H2 w') ∧ k4 i4 = some r) ?_ ?_
   ·
    refine WP.seq (WP.region (Vm rfl ?_))
    obtain ⟨b3, e6, hm⟩ := bind_some hm
    refine V rfl (ov_index_string underlying9 rfl rfl rfl e6) (V rfl (ov_eql rfl rfl rfl) (WL.nil (tn ?_)))
    refine WP.cond rfl (fun hc9 => ?_) (fun hc9 => ?_)
    ·
     replace hm := ite_t hc9 hm
     refine WP.region (Vm rfl (V rfl (ov_neg rfl rfl) (Va rfl (WL.nil (tn ?_)))))
     exact ⟨(IntKind.wrap .i64 (0 - i3)), (Sub.all rfl), fun w' s => s, hm⟩
    replace hm := ite_f hc9 hm
    refine WP.skip (tn ?_)
    exact ⟨i3, (Sub.all rfl), fun w' s => s, hm⟩
   rintro g' S' ⟨i4, hsub4, hS4, hm⟩
   refine WP.sub hsub4 (WP.weaken hS4 ?_)
   replace hm := (congrFun hk4 i4).symm.trans hm
   refine WP.seq (WP.region (Vm rfl (Va rfl (Va rfl (WL.nil (tn (WP.ret (then_ret ?_))))))))
   obtain rfl := Option.some.inj hm
   refine retQ_ret results127 (Res.tmp rfl (Res.tmp rfl Res.nil)) rfl (fun w' s => ⟨s.below, ?_⟩)
   exact rfl
  replace hm := ite_f hc2 hm
  refine WP.skip (tn ?_)
  exact ⟨(Sub.all rfl), fun w' s => s, hm⟩
 rintro g' S' ⟨hsub5, hS5, hm⟩
 refine WP.sub hsub5 (WP.weaken hS5 ?_)
 replace hm := hk1.symm.trans hm
 exact (none_some hm).elim
theorem strconv_Atoi_con (p_s : (List UInt8)) (w : World) (H : Heap) (hH : Le H (hp w)) (hG : Glob H) (r : (Int × Unit)) (hm : strconv_Atoi p_s = some r) :
  Con prog 121 [(mkS p_s)] w H (fun v _ => v = (.tuple #[(.int .i64 r.1), .nilIface])) := by
 unfold strconv_Atoi at hm
 refine con_of hH func121 rfl 18 ntmps121 rfl ?_
 refine WP.seq (WP.region (Va rfl (Va rfl (WL.nil (tn (WP.seq (WP.region (Vm rfl ?_))))))))
 obtain ⟨r1, e1, hm⟩ := bind_some hm
 refine wo rfl (oq_con (r := (.tuple #[(.int .i64 r1.1), .nilIface])) call127 rfl rfl (fun w' s => ⟨_, (internal_strconv_Atoi_con p_s  w' H s.hold hG r1 e1)⟩)) ?_
 refine Vm rfl (Ve rfl (Ve rfl (Va rfl (Va rfl (WL.nil (tn (WP.seq (WP.seq (WP.region (Vm rfl (V rfl (ov_neq_nilI (by kernel_rfl) rfl rfl rfl) (WL.nil (tn ?_)))))))))))))
 refine WP.cond_false rfl (WP.skip (tn (WP.seq (WP.region (Vm rfl (Va rfl (Va rfl (WL.nil (tn (WP.ret ?_))))))))))
 obtain rfl := Option.some.inj hm
 refine retQ_ret results121 (Res.tmp rfl (Res.tmp rfl Res.nil)) rfl (fun w' s => ⟨s.below, ?_⟩)
 exact rfl
theorem lexer_Value_con (p_s : (List UInt8)) (w : World) (H : Heap) (hH : Le H (hp w)) (hG : Glob H) (r : (Int × Int)) (hm : lexer_Value p_s = some r) :
  Con prog 98 [(mkS p_s)] w H (fun v _ => v = (.tuple #[(.int .i64 r.1), (.int .i64 r.2)])) := by
 unfold lexer_Value at hm
 refine con_of hH func98 rfl 30 ntmps98 rfl ?_
 refine WP.seq (WP.region (Va rfl (Va rfl (WL.nil (tn (WP.seq (WP.region (Vm rfl ?_))))))))
 obtain ⟨r1, e1, hm⟩ := bind_some hm
 refine wo rfl (oq_con (r := (.tuple #[(mkS r1.1), (.bool r1.2)])) call120 rfl rfl (fun w' s => ⟨_, (strings_CutPrefix_con p_s [45]  w' H s.hold hG r1 e1)⟩)) ?_
 refine Vm rfl (Ve rfl (Ve rfl (Va rfl (Va rfl (WL.nil (tn (WP.seq (WP.seq (WP.region (Vm rfl ?_))))))))))
 obtain ⟨r2, e2, hm⟩ := bind_some hm
 refine wo rfl (oq_con (r := (.int .i64 r2)) call117 rfl rfl (fun w' s => ⟨_, (lexer_Number_con r1.1  w' H s.hold hG r2 e2)⟩)) ?_
 refine Va rfl (WL.nil (tn (WP.seq (WP.region (Vm rfl (V rfl (ov_neq rfl rfl rfl) (WL.nil (tn ?_))))))))
 refine WP.cond rfl (fun hc1 => ?_) (fun hc1 => ?_)
 ·
  replace hm := ite_t hc1 hm
  refine WP.seq (WP.region (Vm rfl (Va rfl (Va rfl (WL.nil (tn (WP.ret (then_ret ?_))))))))
  obtain rfl := Option.some.inj hm
  refine retQ_ret results98 (Res.tmp rfl (Res.tmp rfl Res.nil)) rfl (fun w' s => ⟨s.below, ?_⟩)
  exact rfl
 replace hm := ite_f hc1 hm
 refine WP.skip (tn (WP.seq (WP.seq (WP.region (Vm rfl (Vm rfl ?_))))))
 refine WL.cut_bool 3 23 (x := (r1.2 && (r1.1 == [48]))) ?_ ?_
 ·
  rcases Bool.eq_false_or_eq_true r1.2 with hc2 | hc2
  ·
   refine wy hc2 rfl (ov_move rfl rfl) ?_
   refine wy hc2 rfl (ov_seql rfl rfl rfl) ?_
   refine V rfl (ov_pick_true rfl (guard_eq rfl hc2) rfl) ?_
   exact WL.nil ⟨Sub.cons' rfl (congrArg Value.bool (andT hc2)) (Sub.dropn 3 rfl), fun _ s => s⟩
  refine Vi rfl (Idle.no rfl rfl rfl hc2) (Vi rfl (Idle.no rfl rfl rfl hc2) (V rfl (ov_pick_false rfl (guard_eq rfl hc2) rfl) ?_))
  exact WL.nil ⟨Sub.cons' rfl (congrArg Value.bool (andF hc2)) (Sub.dropn 3 rfl), fun _ s => s⟩
 refine WL.nil (tn ?_)
 refine WP.cond rfl (fun hc3 => ?_) (fun hc3 => ?_)
 ·
  replace hm := ite_t hc3 hm
  refine WP.seq (WP.region (Va rfl (Va rfl (WL.nil (tn (WP.ret (then_ret ?_)))))))
  obtain rfl := Option.some.inj hm
  refine retQ_ret results98 (Res.tmp rfl (Res.tmp rfl Res.nil)) rfl (fun w' s => ⟨s.below, ?_⟩)
  exact rfl
 replace hm := ite_f hc3 hm
 refine WP.skip (tn (WP.seq (WP.region (Vm rfl ?_))))
 obtain ⟨r3, e3, hm⟩ := bind_some hm
 refine wo rfl (oq_con (r := (.tuple #[(.int .i64 r3.1), .nilIface])) call121 rfl rfl (fun w' s => ⟨_, (strconv_Atoi_con p_s  w' H s.hold hG r3 e3)⟩)) ?_
 refine Vm rfl (Ve rfl (Ve rfl (Va rfl (Va rfl (WL.nil (tn (WP.seq (WP.region (Vm rfl (Va rfl (Va rfl (WL.nil (tn ?_)))))))))))))
 refine WP.ret ?_
 obtain rfl := Option.some.inj hm
 refine retQ_ret results98 (Res.tmp rfl (Res.tmp rfl Res.nil)) rfl (fun w' s => ⟨s.below, ?_⟩)
 exact rfl
theorem program_value_con (p_s : (List UInt8)) (w : World) (H : Heap) (hH : Le H (hp w)) (hG : Glob H) (r : Int) (hm : program_value p_s = some r) :
  Con prog 67 [(mkS p_s)] w H (fun v _ => v = (.int .i64 r)) := by
 unfold program_value at hm
 refine con_of hH func67 rfl 11 ntmps67 rfl ?_
 refine WP.seq (WP.region (Va rfl (WL.nil (tn (WP.seq (WP.region (Vm rfl ?_)))))))
 obtain ⟨r1, e1, hm⟩ := bind_some hm
 refine wo rfl (oq_con (r := (.tuple #[(.int .i64 r1.1), (.int .i64 r1.2)])) call98 rfl rfl (fun w' s => ⟨_, (lexer_Value_con p_s  w' H s.hold hG r1 e1)⟩)) ?_
 refine Vm rfl (Ve rfl (Ve rfl (Va rfl (Va rfl (WL.nil (tn (WP.seq (WP.region (Vm rfl (Va rfl (WL.nil (tn (WP.ret ?_)))))))))))))
 obtain rfl := Option.some.inj hm
 refine retQ_ret results67 (Res.tmp rfl Res.nil) rfl (fun w' s => ⟨s.below, ?_⟩)
 exact rfl
theorem program_reader_step_con (p_r : Rdr) (bp1 : Nat) (ao1 : Option Addr) (cap1 : Nat) (w0 : World) (H0 : Heap) (tl : List Ent) (H : Heap) (h1 : SL H encToken ao1 p_r.tokens) (hc1 : p_r.tokens.length ≤ cap1) (hG : Glob H) (r : (Node × Int × Bool)) (hm : program_reader_step p_r = some r) :
  BCon prog 68 [(pB bp1 0)] w0 H0 (.blk bp1 88 [(.slice ao1 p_r.tokens.length cap1), (.int .i64 p_r.at_), (.bool p_r.bad)] :: tl) H (fun v H' ms' => ∃ (ao2 : Option Addr) (cap2 : Nat) (ao3 : Option Addr) (cap3 : Nat), v = (.agg #[(.int .i64 r.1.kind), (.slice ao2 r.1.step.strokes.length cap2), (.int .i64 r.1.step.wait), (.int .i64 r.1.count), (mkS r.1.name), (.slice ao3 r.1.nodes.length cap3)]) ∧ ms' = (.blk bp1 88 [(.slice ao1 p_r.tokens.length cap1), (.int .i64 r.2.1), (.bool r.2.2)] :: tl) ∧ SL H' encStroke ao2 r.1.step.strokes ∧ r.1.step.strokes.length ≤ cap2 ∧ SL H' encNode ao3 r.1.nodes ∧ r.1.nodes.length ≤ cap3) := by
 unfold program_reader_step at hm
 refine bcon_of func68 rfl 69 ntmps68 rfl ?_
 refine WP.seq (WP.region ?_)
 refine ws rfl (os_alloc (cs := [(.int .i64 0), (.slice none 0 0), (.int .i64 0), (.int .i64 0), (mkS []), (.slice none 0 0)]) zeroValue62 rfl rfl (fun b1 => ?_))
 refine WL.nil (tn (WP.seq (WP.region ?_)))
 refine ws rfl (os_alloc (cs := [(.slice none 0 0), (.int .i64 0)]) zeroValue55 rfl rfl (fun b2 => ?_))
 refine WL.nil (tn ?_)
 obtain ⟨k1, hk1, hm⟩ := joinK_some hm
 refine WP.seq_join (fun g' S' => ∃ (H5 : Heap) (i3 : Int) (c3 : Bool) (l3 : (List Stroke)) (ao6 : Option Addr) (cap6 : Nat) (xs2 : List Value), Le H H5 ∧ RL H5 encStroke l3 xs2 ∧ Sub [(0, (pB bp1 0)), (2, (pB b1 0)), (3, (pB b2 0)), (1000000007, (.bool false))] g' ∧ (∀ w', S' w' → St w0 H0 (.row 59 (encStroke).size l3.length (.slice ao6 l3.length cap6) xs2 :: .blk b2 55 [(.slice ao6 l3.length cap6), (.int .i64 0)] :: .blk b1 62 [(.int .i64 0), (.slice none 0 0), (.int .i64 0), (.int .i64 0), (mkS []), (.slice none 0 0)] :: .blk bp1 88 [(.slice ao1 p_r.tokens.length cap1), (.int .i64 i3), (.bool c3)] :: tl) H5 w') ∧ k1 i3 c3 l3 = some r) ?_ ?_
 ·
  refine WP.block ?_
  have rl1 := RL.nil (α := Stroke) H encStroke
  refine WP.weaken (fun _ s => s.nilrow 59 (encStroke).size) ?_
  refine WP.loop (fun m1 g' S' => ∃ (H1 : Heap) (i1 : Int) (c1 : Bool) (l1 : (List Stroke)) (ao4 : Option Addr) (cap4 : Nat) (xs1 : List Value), Le H H1 ∧ RL H1 encStroke l1 xs1 ∧ Sub [(0, (pB bp1 0)), (2, (pB b1 0)), (3, (pB b2 0)), (1000000007, (.bool false))] g' ∧ (∀ w', S' w' → St w0 H0 (.row 59 (encStroke).size l1.length (.slice ao4 l1.length cap4) xs1 :: .blk b2 55 [(.slice ao4 l1.length cap4), (.int .i64 0)] :: .blk b1 62 [(.int .i64 0), (.slice none 0 0), (.int .i64 0), (.int .i64 0), (mkS []), (.slice none 0 0)] :: .blk bp1 88 [(.slice ao1 p_r.tokens.length cap1), (.int .i64 i1), (.bool c1)] :: tl) H1 w') ∧ program_reader_step_loop1 p_r k1 m1 i1 c1 l1 = some r) ((p_r.tokens.length + 2)) ⟨H, p_r.at_, p_r.bad, ([] : List Stroke), none, 0, [], (Le.refl _), rl1, (Sub.all rfl), fun w' s => s, hm⟩ ?_ ?_
  ·
   rintro g' S' ⟨_, _, _, _, _, _, _, _, _, _, _, hm⟩
   exact none_some hm
  rintro m1 g' S' ⟨H1, i1, c1, l1, ao4, cap4, xs1, hle1, rl2, hsub1, hS1, hm⟩
  refine WP.sub hsub1 (WP.weaken hS1 ?_)
  rw [program_reader_step_loop1] at hm
  replace h1 := h1.mono hle1
  replace hG := hG.mono hle1
  refine WP.seq (WP.seq (WP.region (Vm rfl (V rfl (ov_nilCheckB rfl rfl) (V rfl (ov_fieldAddr underlying88 rfl rfl rfl sizeOf4 rfl rfl) (Vl 3 isAgg4 rfl (V rfl (ov_not rfl rfl) (WL.nil (tn ?_)))))))))
  refine WP.cond rfl (fun hc4 => ?_) (fun hc4 => ?_)
  ·
   replace hm := ite_t hc4 hm
   refine WP.skip (tn (WP.block (WP.seq (WP.region (Vm rfl ?_)))))
   refine ws rfl (os_inline (cap := []) (vs := [(pB bp1 0)]) call39 rfl rfl rfl func39 rfl 13 ntmps39 rfl (fun w' s => ?_))
   refine WP.seq (WP.region ?_)
   refine ws rfl (os_alloc (cs := [(.int .i64 0), (mkS []), (.int .i64 0)]) zeroValue91 rfl rfl (fun b3 => ?_))
   refine WL.nil (tn (WP.seq ?_))
   refine WP.region_any (S₀ := St w0 H0 (.row 59 (encStroke).size l1.length (.slice ao4 l1.length cap4) xs1 :: .blk b2 55 [(.slice ao4 l1.length cap4), (.int .i64 0)] :: .blk b1 62 [(.int .i64 0), (.slice none 0 0), (.int .i64 0), (.int .i64 0), (mkS []), (.slice none 0 0)] :: .blk bp1 88 [(.slice ao1 p_r.tokens.length cap1), (.int .i64 i1), (.bool c1)] :: tl) H1) 11 rfl (by kernel_rfl) (fun w' s => (s.selectT 5 [1, 2, 3, 4] (by decide) rfl rfl)) (fun _ s => s.drew) ?_
   refine TQ 0 (by kernel_rfl) rfl (ov_move rfl rfl) (TQ 1 (by kernel_rfl) rfl (ov_nilCheckB rfl rfl) (TQ 2 (by kernel_rfl) rfl (ov_fieldAddr underlying88 rfl rfl rfl sizeOf83 rfl rfl) (TQ 3 (by kernel_rfl) rfl (ov_load_box (i := 3) isAgg83 rfl rfl rfl rfl) (TQ 4 (by kernel_rfl) rfl (ov_move rfl rfl) (TQ 5 (by kernel_rfl) rfl (ov_nilCheckB rfl rfl) (TQ 6 (by kernel_rfl) rfl (ov_fieldAddr underlying88 rfl rfl rfl sizeOf3 rfl rfl) (TQ 7 (by kernel_rfl) rfl (ov_load_box (i := 3) isAgg3 rfl rfl rfl rfl) ?_)))))))
   obtain ⟨x1, e1, hm⟩ := bind_some hm
   obtain ⟨h4, h5, h6, cs1, h7, h8⟩ := h1.get e1 (by decide)
   obtain rfl : cs1 = [(.int .i64 x1.kind), (mkS x1.text), (.int .i64 x1.at_)] := h7
   refine TQ 8 (by kernel_rfl) rfl (ov_indexAddr underlying83 sizeOf91 rfl rfl rfl h4 h5 h6) (TQ 9 (by kernel_rfl) rfl (ov_load_elems (vs := [(.int .i64 x1.kind), (mkS x1.text), (.int .i64 x1.at_)]) isAgg91 sizeOf91 rfl rfl rfl h8 h6) ?_)
   refine AL.any (rs := [10]) (by kernel_rfl) (by decide) ?_
   refine ALs.cons0 (i := 10) rfl (Runs.free rfl) rfl ?_ ?_
   ·
    refine os_store (i := 0) (vs := [(.int .i64 x1.kind), (mkS x1.text), (.int .i64 x1.at_)]) (cs' := [(.int .i64 x1.kind), (mkS x1.text), (.int .i64 x1.at_)]) sizeOf91 rfl rfl rfl rfl rfl rfl rfl rfl rfl ?_
    refine ⟨fun w' s => (s.selectT 5 [1, 2, 3, 4] (by decide) rfl rfl), ?_⟩
    refine AL.done (by kernel_rfl) ?_
    refine tn (WP.ret ?_)
    refine retQ_ret (v := (.agg #[(.int .i64 x1.kind), (mkS x1.text), (.int .i64 x1.at_)])) results39 (Res.cell rfl (box_loads (i := 0) isAgg91 sizeOf91 rfl rfl) Res.nil) rfl (fun w' s => ⟨_, ?_, s⟩)
    refine ws rfl (os_alloc (cs := [(.int .i64 0), (mkS []), (.int .i64 0)]) zeroValue91 rfl rfl (fun b4 => ?_))
    refine ws0 rfl (os_store (i := 0) (vs := [(.int .i64 x1.kind), (mkS x1.text), (.int .i64 x1.at_)]) (cs' := [(.int .i64 x1.kind), (mkS x1.text), (.int .i64 x1.at_)]) sizeOf91 rfl rfl rfl rfl rfl rfl rfl rfl rfl ?_)
    refine WL.nil (tn (WP.seq (WP.region (V rfl (ov_fieldAddr underlying91 rfl rfl rfl sizeOf9 rfl rfl) (Vl 0 isAgg9 rfl ?_)))))
    obtain ⟨r1, e2, hm⟩ := bind_some hm
    refine wo rfl (oq_con (r := (.int .i64 r1)) call99 rfl rfl (fun w' s => ⟨_, (indexS_con [65, 66, 67, 68, 69, 70] x1.text  w' H1 s.hold hG r1 e2)⟩)) ?_
    refine Va rfl (WL.nil (tn (WP.seq (WP.seq (WP.region (V rfl (ov_fieldAddr underlying91 rfl rfl rfl sizeOf3 rfl rfl) (Vl 0 isAgg3 rfl (V rfl (ov_neq rfl rfl rfl) (Vm rfl ?_)))))))))
    refine WL.cut_bool 5 26 (x := ((x1.kind != 0) || ((x1.text.length : Int) != 1))) ?_ ?_
    ·
     rcases Bool.eq_false_or_eq_true (x1.kind != 0) with hc5 | hc5
     ·
      refine Vi rfl (Idle.no rfl rfl rfl hc5) (Vi rfl (Idle.no rfl rfl rfl hc5) (Vi rfl (Idle.no rfl rfl rfl hc5) (Vi rfl (Idle.no rfl rfl rfl hc5) (V rfl (ov_pick_true rfl (guard_eq rfl hc5) rfl) ?_))))
      exact WL.nil ⟨Sub.cons' rfl (congrArg Value.bool (orT hc5)) (Sub.dropn 5 rfl), fun _ s => s⟩
     refine wy hc5 rfl (ov_fieldAddr underlying91 rfl rfl rfl sizeOf9 rfl rfl) ?_
     refine wy hc5 rfl (ov_load_box (i := 0) isAgg9 rfl rfl rfl rfl) ?_
     refine wy hc5 rfl (ov_len_string underlying9 rfl rfl) ?_
     refine wy hc5 rfl (ov_neq rfl rfl rfl) ?_
     refine V rfl (ov_pick_false rfl (guard_eq rfl hc5) rfl) ?_
     exact WL.nil ⟨Sub.cons' rfl (congrArg Value.bool (orF hc5)) (Sub.dropn 5 rfl), fun _ s => s⟩
    refine Vm rfl ?_
    refine WL.cut_bool 3 30 (x := (((x1.kind != 0) || ((x1.text.length : Int) != 1)) || (decide (r1 < 0)))) ?_ ?_
    ·
     rcases Bool.eq_false_or_eq_true ((x1.kind != 0) || ((x1.text.length : Int) != 1)) with hc6 | hc6
     ·
      refine Vi rfl (Idle.no rfl rfl rfl hc6) (Vi rfl (Idle.no rfl rfl rfl hc6) (V rfl (ov_pick_true rfl (guard_eq rfl hc6) rfl) ?_))
      exact WL.nil ⟨Sub.cons' rfl (congrArg Value.bool (orT hc6)) (Sub.dropn 3 rfl), fun _ s => s⟩
     refine wy hc6 rfl (ov_move rfl rfl) ?_
     refine wy hc6 rfl (ov_lss rfl rfl rfl) ?_
     refine V rfl (ov_pick_false rfl (guard_eq rfl hc6) rfl) ?_
     exact WL.nil ⟨Sub.cons' rfl (congrArg Value.bool (orF hc6)) (Sub.dropn 3 rfl), fun _ s => s⟩
    refine WL.nil (tn ?_)
    refine WP.cond rfl (fun hc7 => ?_) (fun hc7 => ?_)
    ·
     replace hm := ite_t hc7 hm
     refine WP.seq (WP.region (Vm rfl (V rfl (ov_fieldAddr underlying55 rfl rfl rfl sizeOf53 rfl rfl) (Vl 3 isAgg53 rfl (V rfl (ov_len_slice underlying53 rfl rfl) (V rfl (ov_eql rfl rfl rfl) (V rfl (ov_nilCheckB rfl rfl) (V rfl (ov_fieldAddr underlying88 rfl rfl rfl sizeOf4 rfl rfl) ?_))))))))
     refine ws0 rfl (os_store (i := 5) (vs := [(.bool ((l1.length : Int) == 0))]) (cs' := [(.slice ao1 p_r.tokens.length cap1), (.int .i64 i1), (.bool ((l1.length : Int) == 0))]) sizeOf4 rfl rfl rfl rfl rfl rfl rfl rfl rfl ?_)
     refine WL.nil (tn (WP.exit (then_exit (block_pass rfl (then_exit (block_here (tn ?_)))))))
     exact ⟨H1, i1, ((l1.length : Int) == 0), l1, ao4, cap4, xs1, hle1, rl2, (Sub.all rfl), fun w' s => (s.selectT 6 [2, 3, 4, 5] (by decide) rfl rfl), hm⟩
    replace hm := ite_f hc7 hm
    refine WP.skip (tn (WP.seq (WP.region (Vm rfl (V rfl (ov_nilCheckB rfl rfl) (V rfl (ov_fieldAddr underlying88 rfl rfl rfl sizeOf3 rfl rfl) (Vl 5 isAgg3 rfl (V rfl (ov_add rfl rfl rfl) (V rfl (ov_nilCheckB rfl rfl) (V rfl (ov_fieldAddr underlying88 rfl rfl rfl sizeOf3 rfl rfl) ?_))))))))))
    refine ws0 rfl (os_store (i := 5) (vs := [(.int .i64 (IntKind.wrap .i64 (i1 + 1)))]) (cs' := [(.slice ao1 p_r.tokens.length cap1), (.int .i64 (IntKind.wrap .i64 (i1 + 1))), (.bool c1)]) sizeOf3 rfl rfl rfl rfl rfl rfl rfl rfl rfl ?_)
    refine WL.nil (tn (WP.seq (WP.region (Vm rfl ?_))))
    refine WL.weaken (fun _ s => s.selectT 6 [5, 0, 1, 2, 3, 4] (by decide) rfl rfl) ?_
    obtain ⟨r2, e3, hm⟩ := bind_some hm
    refine ws rfl (os_bcon call65 rfl rfl (program_reader_takes_con (Rdr.mk p_r.tokens (IntKind.wrap .i64 (i1 + 1)) c1) 2 [43] bp1 ao1 cap1 w0 H0 (.blk b4 91 [(.int .i64 x1.kind), (mkS x1.text), (.int .i64 x1.at_)] :: .blk b3 91 [(.int .i64 x1.kind), (mkS x1.text), (.int .i64 x1.at_)] :: .row 59 (encStroke).size l1.length (.slice ao4 l1.length cap4) xs1 :: .blk b2 55 [(.slice ao4 l1.length cap4), (.int .i64 0)] :: .blk b1 62 [(.int .i64 0), (.slice none 0 0), (.int .i64 0), (.int .i64 0), (mkS []), (.slice none 0 0)] :: tl) H1 h1 hc1 hG r2 e3) (fun rr1 H2 ms1 hle2 hR1 => ?_))
    replace h1 := h1.mono hle2
    replace rl2 := rl2.mono hle2
    replace hG := hG.mono hle2
    obtain ⟨rfl, rfl⟩ := hR1
    refine Va rfl (WL.nil (tn ?_))
    obtain ⟨k2, hk2, hm⟩ := joinK_some hm
    refine WP.seq_join (fun g' S' => ∃ (H4 : Heap) (i2 : Int) (c2 : Bool), Le H2 H4 ∧ Sub [(0, (pB bp1 0)), (2, (pB b1 0)), (3, (pB b2 0)), (5, (.int .i64 r1)), (6, (.bool r2.1)), (1000000007, (.bool false))] g' ∧ (∀ w', S' w' → St w0 H0 (.blk bp1 88 [(.slice ao1 p_r.tokens.length cap1), (.int .i64 i2), (.bool c2)] :: .row 59 (encStroke).size l1.length (.slice ao4 l1.length cap4) xs1 :: .blk b2 55 [(.slice ao4 l1.length cap4), (.int .i64 0)] :: .blk b1 62 [(.int .i64 0), (.slice none 0 0), (.int .i64 0), (.int .i64 0), (mkS []), (.slice none 0 0)] :: tl) H4 w') ∧ k2 i2 c2 = some r) ?_ ?_
    ·
     refine WP.seq (WP.region (Vm rfl (V rfl (ov_not rfl rfl) (WL.nil (tn ?_)))))
     refine WP.cond rfl (fun hc8 => ?_) (fun hc8 => ?_)
     ·
      replace hm := ite_t hc8 hm
      refine WP.region (Vm rfl ?_)
      obtain ⟨r3, e4, hm⟩ := bind_some hm
      refine ws rfl (os_bcon call66 rfl rfl (program_reader_needs_con (Rdr.mk p_r.tokens r2.2.1 r2.2.2) 2 [45] bp1 ao1 cap1 w0 H0 (.blk b4 91 [(.int .i64 x1.kind), (mkS x1.text), (.int .i64 x1.at_)] :: .blk b3 91 [(.int .i64 x1.kind), (mkS x1.text), (.int .i64 x1.at_)] :: .row 59 (encStroke).size l1.length (.slice ao4 l1.length cap4) xs1 :: .blk b2 55 [(.slice ao4 l1.length cap4), (.int .i64 0)] :: .blk b1 62 [(.int .i64 0), (.slice none 0 0), (.int .i64 0), (.int .i64 0), (mkS []), (.slice none 0 0)] :: tl) H2 h1 hc1 hG r3 e4) (fun rr2 H3 ms2 hle3 hR2 => ?_))
      replace h1 := h1.mono hle3
      replace rl2 := rl2.mono hle3
      replace hG := hG.mono hle3
      obtain ⟨rfl, rfl⟩ := hR2
      refine WL.nil (tn ?_)
      exact ⟨H3, r3.2.1, r3.2.2, hle3, (Sub.all rfl), fun w' s => (s.selectT 6 [0, 3, 4, 5] (by decide) rfl rfl), hm⟩
     replace hm := ite_f hc8 hm
     refine WP.skip (tn ?_)
     exact ⟨H2, r2.2.1, r2.2.2, (Le.refl _), (Sub.all rfl), fun w' s => (s.selectT 6 [0, 3, 4, 5] (by decide) rfl rfl), hm⟩
    rintro g' S' ⟨H4, i2, c2, hle4, hsub2, hS2, hm⟩
    refine WP.sub hsub2 (WP.weaken hS2 ?_)
    replace hm := (congrFun (congrFun hk2 i2) c2).symm.trans hm
    replace h1 := h1.mono hle4
    replace rl2 := rl2.mono hle4
    replace hG := hG.mono hle4
    refine WP.region (V rfl (ov_fieldAddr underlying55 rfl rfl rfl sizeOf53 rfl rfl) (Vl 2 isAgg53 rfl (Vm rfl (Vm rfl (V rfl (ov_build (r := (.agg #[(.int .i64 r1), (.bool r2.1)])) rfl rfl (fun _ => by kernel_rfl)) ?_)))))
    have rl3 : RL H4 encStroke ([(Stroke.mk r1 r2.1)] : List Stroke) [(.int .i64 r1), (.bool r2.1)] := RL.cons (cs := [(.int .i64 r1), (.bool r2.1)]) (xs := []) rfl (RL.nil _ _)
    refine ws rfl (os_buildSlice (cs := [(.int .i64 r1), (.bool r2.1)]) (E := 59) (sz := 2) rfl rfl (fun _ => by kernel_rfl) rfl (by decide) (fun b5 => ?_))
    obtain ⟨l2, e5, hm⟩ := bind_some hm
    refine ws rfl (os_app (i := 2) (j := 0) (En := encStroke) (xs := xs1) (ys := [(.int .i64 r1), (.bool r2.1)]) underlying53 (by kernel_rfl : (prog.info? 59).map (fun i => (i.zero, i.size, i.bytes)) = some (some (.agg #[(.int .i64 0), (.bool false)]), (encStroke).size, 16)) rfl (by decide) rfl rfl rfl rfl rfl rfl rl2 rl3 e5 (fun ao5 cap5 rl4 => ?_))
    refine V rfl (ov_fieldAddr underlying55 rfl rfl rfl sizeOf53 rfl rfl) ?_
    refine ws0 rfl (os_store (i := 3) (vs := [(.slice ao5 (l1 ++ ([(Stroke.mk r1 r2.1)] : List Stroke)).length cap5)]) (cs' := [(.slice ao5 (l1 ++ ([(Stroke.mk r1 r2.1)] : List Stroke)).length cap5), (.int .i64 0)]) sizeOf53 rfl rfl rfl rfl rfl rfl rfl rfl rfl ?_)
    refine WL.nil (bn (tn ?_))
    exact ⟨H4, i2, c2, (l1 ++ ([(Stroke.mk r1 r2.1)] : List Stroke)), ao5, cap5, (xs1 ++ [(.int .i64 r1), (.bool r2.1)]), ((hle1.trans hle2).trans hle4), rl4, (Sub.all rfl), fun w' s => (s.selectT 5 [2, 3, 4, 1] (by decide) rfl rfl), hm⟩
   exact ALs.nil
  replace hm := ite_f hc4 hm
  refine WP.exit (then_exit (then_exit (block_here (tn ?_))))
  exact ⟨H1, i1, c1, l1, ao4, cap4, xs1, hle1, rl2, (Sub.all rfl), fun w' s => s, hm⟩
 rintro g' S' ⟨H5, i3, c3, l3, ao6, cap6, xs2, hle5, rl5, hsub3, hS3, hm⟩
 refine WP.sub hsub3 (WP.weaken hS3 ?_)
 replace hm := (congrFun (congrFun (congrFun hk1 i3) c3) l3).symm.trans hm
 replace h1 := h1.mono hle5
 replace hG := hG.mono hle5
 obtain ⟨k3, hk3, hm⟩ := joinK_some hm
 refine WP.seq_join (fun g' S' => ∃ (H7 : Heap) (i4 : Int) (c4 : Bool) (i5 : Int), Le H5 H7 ∧ Sub [(2, (pB b1 0)), (3, (pB b2 0)), (1000000007, (.bool false))] g' ∧ (∀ w', S' w' → St w0 H0 (.blk bp1 88 [(.slice ao1 p_r.tokens.length cap1), (.int .i64 i4), (.bool c4)] :: .row 59 (encStroke).size l3.length (.slice ao6 l3.length cap6) xs2 :: .blk b2 55 [(.slice ao6 l3.length cap6), (.int .i64 i5)] :: .blk b1 62 [(.int .i64 0), (.slice none 0 0), (.int .i64 0), (.int .i64 0), (mkS []), (.slice none 0 0)] :: tl) H7 w') ∧ k3 i4 c4 i5 = some r) ?_ ?_
 ·
  refine WP.seq (WP.region (Vm rfl ?_))
  refine ws rfl (os_inline (cap := []) (vs := [(pB bp1 0)]) call39 rfl rfl rfl func39 rfl 13 ntmps39 rfl (fun w' s => ?_))
  refine WP.seq (WP.region ?_)
  refine ws rfl (os_alloc (cs := [(.int .i64 0), (mkS []), (.int .i64 0)]) zeroValue91 rfl rfl (fun b6 => ?_))
  refine WL.nil (tn (WP.seq ?_))
  refine WP.region_any (S₀ := St w0 H0 (.row 59 (encStroke).size l3.length (.slice ao6 l3.length cap6) xs2 :: .blk b2 55 [(.slice ao6 l3.length cap6), (.int .i64 0)] :: .blk b1 62 [(.int .i64 0), (.slice none 0 0), (.int .i64 0), (.int .i64 0), (mkS []), (.slice none 0 0)] :: .blk bp1 88 [(.slice ao1 p_r.tokens.length cap1), (.int .i64 i3), (.bool c3)] :: tl) H5) 11 rfl (by kernel_rfl) (fun w' s => (s.selectT 5 [1, 2, 3, 4] (by decide) rfl rfl)) (fun _ s => s.drew) ?_
  refine TQ 0 (by kernel_rfl) rfl (ov_move rfl rfl) (TQ 1 (by kernel_rfl) rfl (ov_nilCheckB rfl rfl) (TQ 2 (by kernel_rfl) rfl (ov_fieldAddr underlying88 rfl rfl rfl sizeOf83 rfl rfl) (TQ 3 (by kernel_rfl) rfl (ov_load_box (i := 3) isAgg83 rfl rfl rfl rfl) (TQ 4 (by kernel_rfl) rfl (ov_move rfl rfl) (TQ 5 (by kernel_rfl) rfl (ov_nilCheckB rfl rfl) (TQ 6 (by kernel_rfl) rfl (ov_fieldAddr underlying88 rfl rfl rfl sizeOf3 rfl rfl) (TQ 7 (by kernel_rfl) rfl (ov_load_box (i := 3) isAgg3 rfl rfl rfl rfl) ?_)))))))
  obtain ⟨x2, e6, hm⟩ := bind_some hm
  obtain ⟨h9, h10, h11, cs2, h12, h13⟩ := h1.get e6 (by decide)
  obtain rfl : cs2 = [(.int .i64 x2.kind), (mkS x2.text), (.int .i64 x2.at_)] := h12
  refine TQ 8 (by kernel_rfl) rfl (ov_indexAddr underlying83 sizeOf91 rfl rfl rfl h9 h10 h11) (TQ 9 (by kernel_rfl) rfl (ov_load_elems (vs := [(.int .i64 x2.kind), (mkS x2.text), (.int .i64 x2.at_)]) isAgg91 sizeOf91 rfl rfl rfl h13 h11) ?_)
  refine AL.any (rs := [10]) (by kernel_rfl) (by decide) ?_
  refine ALs.cons0 (i := 10) rfl (Runs.free rfl) rfl ?_ ?_
  ·
   refine os_store (i := 0) (vs := [(.int .i64 x2.kind), (mkS x2.text), (.int .i64 x2.at_)]) (cs' := [(.int .i64 x2.kind), (mkS x2.text), (.int .i64 x2.at_)]) sizeOf91 rfl rfl rfl rfl rfl rfl rfl rfl rfl ?_
   refine ⟨fun w' s => (s.selectT 5 [1, 2, 3, 4] (by decide) rfl rfl), ?_⟩
   refine AL.done (by kernel_rfl) ?_
   refine tn (WP.ret ?_)
   refine retQ_ret (v := (.agg #[(.int .i64 x2.kind), (mkS x2.text), (.int .i64 x2.at_)])) results39 (Res.cell rfl (box_loads (i := 0) isAgg91 sizeOf91 rfl rfl) Res.nil) rfl (fun w' s => ⟨_, ?_, s⟩)
   refine V rfl (ov_field (cs := [(.int .i64 x2.kind), (mkS x2.text), (.int .i64 x2.at_)]) (r := (mkS x2.text)) rfl rfl (fun _ => by kernel_rfl)) (Va rfl (WL.nil (tn (WP.seq (WP.region (Vm rfl ?_))))))
   refine WL.weaken (fun _ s => s.selectT 5 [4, 0, 1, 2, 3] (by decide) rfl rfl) ?_
   obtain ⟨r4, e7, hm⟩ := bind_some hm
   refine ws rfl (os_bcon call65 rfl rfl (program_reader_takes_con (Rdr.mk p_r.tokens i3 c3) 1 [] bp1 ao1 cap1 w0 H0 (.blk b6 91 [(.int .i64 x2.kind), (mkS x2.text), (.int .i64 x2.at_)] :: .row 59 (encStroke).size l3.length (.slice ao6 l3.length cap6) xs2 :: .blk b2 55 [(.slice ao6 l3.length cap6), (.int .i64 0)] :: .blk b1 62 [(.int .i64 0), (.slice none 0 0), (.int .i64 0), (.int .i64 0), (mkS []), (.slice none 0 0)] :: tl) H5 h1 hc1 hG r4 e7) (fun rr3 H6 ms3 hle6 hR3 => ?_))
   replace rl5 := rl5.mono hle6
   replace hG := hG.mono hle6
   obtain ⟨rfl, rfl⟩ := hR3
   refine WL.nil (tn ?_)
   refine WP.cond rfl (fun hc9 => ?_) (fun hc9 => ?_)
   ·
    replace hm := ite_t hc9 hm
    refine WP.region (Vm rfl ?_)
    obtain ⟨r5, e8, hm⟩ := bind_some hm
    refine wo rfl (oq_con (r := (.int .i64 r5)) call67 rfl rfl (fun w' s => ⟨_, (program_value_con x2.text  w' H6 s.hold hG r5 e8)⟩)) ?_
    refine V rfl (ov_fieldAddr underlying55 rfl rfl rfl sizeOf3 rfl rfl) ?_
    refine ws0 rfl (os_store (i := 3) (vs := [(.int .i64 r5)]) (cs' := [(.slice ao6 l3.length cap6), (.int .i64 r5)]) sizeOf3 rfl rfl rfl rfl rfl rfl rfl rfl rfl ?_)
    refine WL.nil (tn ?_)
    exact ⟨H6, r4.2.1, r4.2.2, r5, hle6, (Sub.all rfl), fun w' s => (s.selectT 5 [0, 2, 3, 4] (by decide) rfl rfl), hm⟩
   replace hm := ite_f hc9 hm
   refine WP.skip (tn ?_)
   exact ⟨H6, r4.2.1, r4.2.2, 0, hle6, (Sub.all rfl), fun w' s => (s.selectT 5 [0, 2, 3, 4] (by decide) rfl rfl), hm⟩
  exact ALs.nil
 rintro g' S' ⟨H7, i4, c4, i5, hle7, hsub4, hS4, hm⟩
 refine WP.sub hsub4 (WP.weaken hS4 ?_)
 replace hm := (congrFun (congrFun (congrFun hk3 i4) c4) i5).symm.trans hm
 replace rl5 := rl5.mono hle7
 refine WP.seq (WP.region (V rfl (ov_load_whole (i := 2) isAgg55 sizeOf55 rfl rfl rfl rfl) (V rfl (ov_build (r := (.agg #[(.int .i64 0), (.slice ao6 l3.length cap6), (.int .i64 i5), (.int .i64 0), (mkS []), (.slice none 0 0)])) rfl rfl (fun _ => by kernel_rfl)) ?_)))
 refine ws0 rfl (os_store (i := 3) (vs := [(.int .i64 0), (.slice ao6 l3.length cap6), (.int .i64 i5), (.int .i64 0), (mkS []), (.slice none 0 0)]) (cs' := [(.int .i64 0), (.slice ao6 l3.length cap6), (.int .i64 i5), (.int .i64 0), (mkS []), (.slice none 0 0)]) sizeOf62 rfl rfl rfl rfl rfl rfl rfl rfl rfl ?_)
 refine WL.nil (tn (WP.ret ?_))
 obtain rfl := Option.some.inj hm
 refine retQ_ret results68 (Res.cell rfl (box_loads (i := 3) isAgg62 sizeOf62 rfl rfl) Res.nil) rfl (fun w' s => ?_)
 obtain ⟨H8, hc10, hle8, h14, s⟩ := St.row_held (s.selectT 4 [1, 0, 2, 3] (by decide) rfl rfl) rl5
 exact ⟨H8, _, ((hle5.trans hle7).trans hle8), ⟨ao6, cap6, none, 0, rfl, rfl, h14, hc10, SL.nil _ _ _, Nat.le_refl _⟩, (s.selectT 3 [0] (by decide) rfl rfl)⟩
end Go.Proofs.YtkgijoddkibapaaGreatDoor.W
