/- Lean functions that answer as the Go functions do which the law reaches, and proofs that the Go code comes to exactly these answers. Conditions: those that each theorem names. -/
import Derived.Test.YtmeamdklonmahaaQFederatedViewx0
import Derived.Test.YtmeamdklonmahaaQFederatedViewx2
import Derived.Test.YtmeamdklonmahaaQFederatedViewx3
namespace Go.Proofs.Ytmeamdklonmahaa.QFederatedView
open Go.RowKit Go.Proofs.YtmeamdklonmahaaW.PrintWords Go.Proofs.YtmeamdklonmahaaW.PrintLast Go.Proofs.YtmeamdklonmahaaW.PrintMore
attribute [local go_sem] max2_int min2_int max_two min_two max_three min_three max_four min_four   -- for this text's walks alone
set_option linter.unusedVariables false
set_option linter.unusedSimpArgs false

/-! ### federated_Accepts: function 11 -/
def federated_Accepts.j0 : Nat → Int → Int → Int → Bool → List (S54) → Option (Bool)
  | 0, _, _, _, _, _ => none
  | k + 1, x1, x2, x3, x16, x149000 => if x16 = true then (some false) else ((blocking_Blocks.f k x149000 x1 x3).bind fun t151 => (if t151 = true then (some true) else ((closure_Greatest.f k x149000 (Go.bits .or .i64 x2 x3)).bind fun t152 => ((nodeset_Has.f t152 x1).bind fun t153 => (some t153)))))
def federated_Accepts.f (k : Nat) (l0_0 : List (S54)) (a1 : Int) (a2 : Int) (a3 : Int) : Option (Bool) := (nodeset_Valid.f a2).bind fun t149 => (if t149 = true then ((nodeset_Valid.f a3).bind fun t150 => (federated_Accepts.j0 k a1 a2 a3 (!t150) l0_0)) else (federated_Accepts.j0 k a1 a2 a3 true l0_0))
theorem federated_Accepts.mono_l : ∀ k, (∀ y0 y1 y2 y3 y4, LeO (federated_Accepts.j0 k y0 y1 y2 y3 y4) (federated_Accepts.j0 (k + 1) y0 y1 y2 y3 y4))
  | 0 => fun _ _ _ _ _ r h => by simp [federated_Accepts.j0] at h
  | k + 1 => by
    have ih0 := federated_Accepts.mono_l k
    · intro y0 y1 y2 y3 y4
      unfold federated_Accepts.j0
      repeat' first
      | (with_reducible exact ih0 _ _ _ _ _)
      | (with_reducible exact blocking_Blocks.mono _ _ _ _)
      | (with_reducible exact closure_Greatest.mono _ _ _)
      | (with_reducible exact LeO.refl _)
      | (with_reducible exact LeO.none _)
      | (with_reducible refine LeO.ite ?_ ?_)
      | (with_reducible refine LeO.bind ?_ (fun _ => ?_))
      | exact ih0 _ _ _ _ _
      | exact blocking_Blocks.mono _ _ _ _
      | exact closure_Greatest.mono _ _ _
      | exact LeO.none _
      | refine LeO.ite ?_ ?_
      | refine LeO.bind ?_ (fun _ => ?_)
theorem federated_Accepts.mono : ∀ a0 a1 a2 a3 k, LeO (federated_Accepts.f k a0 a1 a2 a3) (federated_Accepts.f (k + 1) a0 a1 a2 a3) := by
  intro a0 a1 a2 a3 k
  have ih0 := federated_Accepts.mono_l k
  unfold federated_Accepts.f
  repeat' first
      | (with_reducible exact ih0 _ _ _ _ _)
      | (with_reducible exact blocking_Blocks.mono _ _ _ _)
      | (with_reducible exact closure_Greatest.mono _ _ _)
      | (with_reducible exact LeO.refl _)
      | (with_reducible exact LeO.none _)
      | (with_reducible refine LeO.ite ?_ ?_)
      | (with_reducible refine LeO.bind ?_ (fun _ => ?_))
      | exact ih0 _ _ _ _ _
      | exact blocking_Blocks.mono _ _ _ _
      | exact closure_Greatest.mono _ _ _
      | exact LeO.none _
      | refine LeO.ite ?_ ?_
      | refine LeO.bind ?_ (fun _ => ?_)
set_option maxHeartbeats 8000000 in
set_option maxRecDepth 100000 in
theorem federated_Accepts.calls (k : Nat) (A0_0 : Option Addr) (c0_0 : Nat) (l0_0 : List (S54)) (a1 : Int) (a2 : Int) (a3 : Int) (r : Bool) (w : World) (hr0_0 : Kd.C k54 w A0_0 l0_0.length l0_0) (hc0_0 : l0_0.length ≤ c0_0) (h : federated_Accepts.f k l0_0 a1 a2 a3 = some r) :
    Calls Try.prog 11 #[.agg #[.slice A0_0 l0_0.length c0_0], .int .i64 a1, .int .i64 a2, .int .i64 a3] w fun e w' => e = .returned (.bool r) ∧ Below w.heap.size w w' := by
 have hu27 := Try.underlying27; have HR0_0 := Aside0.mk hr0_0; have HC0_0 := Aside0.mk hc0_0; clear hr0_0 hc0_0; have HB := Aside0.mk (Below.refl w.heap.size w); have H : ((nodeset_Valid.f a2).bind fun t149 => (if t149 = true then ((nodeset_Valid.f a3).bind fun t150 => (federated_Accepts.j0 k a1 a2 a3 (!t150) l0_0)) else (federated_Accepts.j0 k a1 a2 a3 true l0_0))) = some r := h; clear h; have HC5 := Aside0.mk H; clear H
 go_enter Try.func11, Try.ntmps11
 go_upto_region 1 with (first | ((with_reducible refine gate_dst (N := 4) rfl ?_); refine box_event ?hg (N := 4) ?hd (cs := #[.slice A0_0 l0_0.length c0_0]) (t := 27) ?hr ?_; (case hd => rfl); (case hg => rfl); (case hr => first | (go_simp; done) | (go_simp; rfl)); intro gb148 hg w6 hbox hb; have BK148 := Aside0.mk (hbox); have GW148 := Aside0.mk ((by rw [hg]; exact (below_size HB.out) : w.heap.size ≤ gb148)); have GE148 := Aside0.mk ((by rw [hg]; exact (below_size HB.out) : w.heap.size ≤ gb148)); replace HB := Aside0.mk (below_step HB.out hb); clear hb hbox hg))
 (try simp only [Act.put, List.setIfInBounds_toArray, List.set_cons_zero, List.set_cons_succ])
 go_cut [16] (fun v16 wc => ∃ (kq : Nat) (x16_4 : Bool), v16 = .bool x16_4 ∧ Aside0 (federated_Accepts.j0 kq a1 a2 a3 x16_4 l0_0 = some r) ∧ Aside0 (kq ≤ k) ∧ Aside0 (wc.heap[gb148]? = some (.cells #[(.slice A0_0 l0_0.length c0_0)] 27 (0, 0))) ∧ Aside0 (Below w.heap.size w wc))
 case first =>
  have H := HC5.out; clear HC5; replace H := Option.bind_eq_some_iff.mp H; obtain ⟨t149, A70, H⟩ := H; replace H : (if t149 = true then ((nodeset_Valid.f a3).bind fun t150 => (federated_Accepts.j0 k a1 a2 a3 (!t150) l0_0)) else (federated_Accepts.j0 k a1 a2 a3 true l0_0)) = some r := H; have A7 := Aside0.mk A70; clear A70
  by_cases c8 : t149 = true
  ·
   subst c8; have H1 : ((nodeset_Valid.f a3).bind fun t150 => (federated_Accepts.j0 k a1 a2 a3 (!t150) l0_0)) = some r := by rw [if_pos rfl] at H; exact H
   clear H; have H := H1; clear H1; replace H := Option.bind_eq_some_iff.mp H; obtain ⟨t150, A90, H⟩ := H; replace H : (federated_Accepts.j0 k a1 a2 a3 (!t150) l0_0) = some r := H; have A9 := Aside0.mk A90; clear A90; have H' := Aside0.mk H; clear H
   go_wp2_with (first | ((with_reducible refine gate_callee (f := 47) rfl ?_); refine goesL_ (some 10) rfl rfl Try.func47 (by kernel_rfl) rfl #[.int .i64 a2] rfl (by (try simp only [List.map_toArray, List.map_cons, List.map_nil]); first | done | rfl | (simp only [List.length_drop, List.length_take]; rfl)) ?_; (with_reducible refine (nodeset_Valid.calls a2 true _ A7.out).mono ?_); rintro e w' ⟨rfl, ⟨nd, rfl⟩⟩; refine ⟨_, rfl, ?_⟩) | (go_at_call 47; (with_reducible refine (nodeset_Valid.calls a3 t150 _ A9.out).mono ?_); rintro e w' ⟨rfl, ⟨nd, rfl⟩⟩))
   go_meet
   case rel => exact ⟨_, (!t150), (by first | rfl | (simp; done) | (simp [*]; done) | (refine congrArg (Value.int .i64) ?_; unfold wrap64; omega)), H', ⟨by first | omega | exact Nat.le_refl _⟩, ⟨by (with_reducible repeat (first | refine blk_drewN ?_ _ | refine blk_drew ?_ | refine blk_alloc ?_ _)); exact BK148.out⟩, ⟨by repeat (first | (with_reducible first | exact HB.out | apply below_alloc | apply pw_below_drewN | apply below_drew1 | refine below_set ?_ GE148.out) | exact HB.out)⟩⟩
  ·
   replace c8 := Bool.eq_false_iff.mpr c8; subst c8; have H1 : (federated_Accepts.j0 k a1 a2 a3 true l0_0) = some r := by rw [if_neg (show ¬ (false = true) by decide)] at H; exact H
   clear H; have H := H1; clear H1; have H' := Aside0.mk H; clear H
   go_wp2_with (first | ((with_reducible refine gate_callee (f := 47) rfl ?_); refine goesL_ (some 10) rfl rfl Try.func47 (by kernel_rfl) rfl #[.int .i64 a2] rfl (by (try simp only [List.map_toArray, List.map_cons, List.map_nil]); first | done | rfl | (simp only [List.length_drop, List.length_take]; rfl)) ?_; (with_reducible refine (nodeset_Valid.calls a2 false _ A7.out).mono ?_); rintro e w' ⟨rfl, ⟨nd, rfl⟩⟩; refine ⟨_, rfl, ?_⟩))
   go_meet
   case rel => exact ⟨_, (true), (by first | rfl | (simp; done) | (simp [*]; done) | (refine congrArg (Value.int .i64) ?_; unfold wrap64; omega)), H', ⟨by first | omega | exact Nat.le_refl _⟩, ⟨by (with_reducible repeat (first | refine blk_drewN ?_ _ | refine blk_drew ?_ | refine blk_alloc ?_ _)); exact BK148.out⟩, ⟨by repeat (first | (with_reducible first | exact HB.out | apply below_alloc | apply pw_below_drewN | apply below_drew1 | refine below_set ?_ GE148.out) | exact HB.out)⟩⟩
 case rest =>
  clear HC5; (try clear c1); (try clear p2); (try clear c4); (try clear p6); (try clear c8); obtain ⟨kq, x16_4, rfl, HA, HJ4, BK148, HB⟩ := hcut
  cases kq with
  | zero => exact absurd HA.out (by simp [federated_Accepts.j0])
  | succ kj4 =>
   have H := HA.out; clear HA; simp only [federated_Accepts.j0] at H
   by_cases c10 : x16_4 = true
   ·
    subst c10; have H1 : (some false) = some r := by rw [if_pos rfl] at H; exact H
    clear H; have H := H1; clear H1; obtain rfl := Option.some.inj H
    go_wp2
    go_ret
    exact ⟨by first | rfl | (simp [errW_none, errW_some] <;> rfl) | (simp [*, errW_none, errW_some] <;> rfl), by exact HB.out⟩
   ·
    replace c10 := Bool.eq_false_iff.mpr c10; subst c10; have H1 : ((blocking_Blocks.f kj4 l0_0 a1 a3).bind fun t151 => (if t151 = true then (some true) else ((closure_Greatest.f kj4 l0_0 (Go.bits .or .i64 a2 a3)).bind fun t152 => ((nodeset_Has.f t152 a1).bind fun t153 => (some t153))))) = some r := by rw [if_neg (show ¬ (false = true) by decide)] at H; exact H
    clear H; have H := H1; clear H1; replace H := Option.bind_eq_some_iff.mp H; obtain ⟨t151, A110, H⟩ := H; replace H : (if t151 = true then (some true) else ((closure_Greatest.f kj4 l0_0 (Go.bits .or .i64 a2 a3)).bind fun t152 => ((nodeset_Has.f t152 a1).bind fun t153 => (some t153)))) = some r := H; have A11 := Aside0.mk A110; clear A110
    by_cases c12 : t151 = true
    ·
     subst c12; have H1 : (some true) = some r := by rw [if_pos rfl] at H; exact H
     clear H; have H := H1; clear H1; obtain rfl := Option.some.inj H; obtain ⟨hcz13_0, hfz13_0⟩ := blkC1 BK148.out
     go_wp2_with (first | ((with_reducible refine gate_callee (f := 48) rfl ?_); refine goesL_ (some 20) rfl rfl Try.func48 (by kernel_rfl) rfl #[.agg #[.slice A0_0 l0_0.length c0_0], .int .i64 a1, .int .i64 a3] rfl (by (try simp only [List.map_toArray, List.map_cons, List.map_nil]); first | done | rfl | (simp only [List.length_drop, List.length_take]; rfl)) ?_; (with_reducible refine (blocking_Blocks.calls kj4 _ _ l0_0 a1 a3 true _ ?side1 ?side2 A11.out).mono ?_); (case side1 => exact (Kd.C_below HR0_0.out HB.out)); (case side2 => exact HC0_0.out); rintro e w14 ⟨rfl, hb⟩; refine ⟨_, rfl, ?_⟩; replace BK148 := Aside0.mk (blk_below BK148.out hb); replace HB := Aside0.mk (below_step HB.out hb); (try clear hb); (try clear hb2); (try clear hk); (try clear hi)))
     go_ret
     exact ⟨by first | rfl | (simp [errW_none, errW_some] <;> rfl) | (simp [*, errW_none, errW_some] <;> rfl), by exact HB.out⟩
    ·
     replace c12 := Bool.eq_false_iff.mpr c12; subst c12; have H1 : ((closure_Greatest.f kj4 l0_0 (Go.bits .or .i64 a2 a3)).bind fun t152 => ((nodeset_Has.f t152 a1).bind fun t153 => (some t153))) = some r := by rw [if_neg (show ¬ (false = true) by decide)] at H; exact H
     clear H; have H := H1; clear H1; replace H := Option.bind_eq_some_iff.mp H; obtain ⟨t152, A150, H⟩ := H; replace H : ((nodeset_Has.f t152 a1).bind fun t153 => (some t153)) = some r := H; have A15 := Aside0.mk A150; clear A150; replace H := Option.bind_eq_some_iff.mp H; obtain ⟨t153, A160, H⟩ := H; replace H : (some t153) = some r := H; have A16 := Aside0.mk A160; clear A160; obtain rfl := Option.some.inj H; obtain ⟨hcz17_0, hfz17_0⟩ := blkC1 BK148.out
     go_wp2_with (first | ((with_reducible refine gate_callee (f := 48) rfl ?_); refine goesL_ (some 20) rfl rfl Try.func48 (by kernel_rfl) rfl #[.agg #[.slice A0_0 l0_0.length c0_0], .int .i64 a1, .int .i64 a3] rfl (by (try simp only [List.map_toArray, List.map_cons, List.map_nil]); first | done | rfl | (simp only [List.length_drop, List.length_take]; rfl)) ?_; (with_reducible refine (blocking_Blocks.calls kj4 _ _ l0_0 a1 a3 false _ ?side1 ?side2 A11.out).mono ?_); (case side1 => exact (Kd.C_below HR0_0.out HB.out)); (case side2 => exact HC0_0.out); rintro e w18 ⟨rfl, hb⟩; refine ⟨_, rfl, ?_⟩; replace BK148 := Aside0.mk (blk_below BK148.out hb); replace HB := Aside0.mk (below_step HB.out hb); (try clear hb); (try clear hb2); (try clear hk); (try clear hi); obtain ⟨hcz19_0, hfz19_0⟩ := blkC1 BK148.out) | (go_at_call 50; (with_reducible refine (closure_Greatest.calls kj4 _ _ l0_0 (Go.bits .or .i64 a2 a3) t152 _ ?side1 ?side2 A15.out).mono ?_); (case side1 => exact (Kd.C_below HR0_0.out HB.out)); (case side2 => exact HC0_0.out); rintro e w20 ⟨rfl, hb⟩; replace BK148 := Aside0.mk (blk_below BK148.out hb); replace HB := Aside0.mk (below_step HB.out hb); (try clear hb); (try clear hb2); (try clear hk); (try clear hi)) | (go_at_call 49; (with_reducible refine (nodeset_Has.calls t152 a1 t153 _ A16.out).mono ?_); rintro e w' ⟨rfl, ⟨nd, rfl⟩⟩))
     go_ret
     exact ⟨by first | rfl | (simp [errW_none, errW_some] <;> rfl) | (simp [*, errW_none, errW_some] <;> rfl), by repeat (first | (with_reducible first | exact HB.out | apply below_alloc | apply pw_below_drewN | apply below_drew1 | refine below_set ?_ GE148.out) | exact HB.out)⟩
/-! ### federated_Confirms: function 12 -/
def federated_Confirms.f (k : Nat) (l0_0 : List (S54)) (a1 : Int) (a2 : Int) : Option (Bool) := (closure_Greatest.f k l0_0 a2).bind fun t155 => ((nodeset_Has.f t155 a1).bind fun t156 => (some t156))
theorem federated_Confirms.mono : ∀ a0 a1 a2 k, LeO (federated_Confirms.f k a0 a1 a2) (federated_Confirms.f (k + 1) a0 a1 a2) := by
  intro a0 a1 a2 k
  unfold federated_Confirms.f
  repeat' first
      | (with_reducible exact closure_Greatest.mono _ _ _)
      | (with_reducible exact LeO.refl _)
      | (with_reducible exact LeO.none _)
      | (with_reducible refine LeO.ite ?_ ?_)
      | (with_reducible refine LeO.bind ?_ (fun _ => ?_))
      | exact closure_Greatest.mono _ _ _
      | exact LeO.none _
      | refine LeO.ite ?_ ?_
      | refine LeO.bind ?_ (fun _ => ?_)
set_option maxHeartbeats 8000000 in
set_option maxRecDepth 100000 in
theorem federated_Confirms.calls (k : Nat) (A0_0 : Option Addr) (c0_0 : Nat) (l0_0 : List (S54)) (a1 : Int) (a2 : Int) (r : Bool) (w : World) (hr0_0 : Kd.C k54 w A0_0 l0_0.length l0_0) (hc0_0 : l0_0.length ≤ c0_0) (h : federated_Confirms.f k l0_0 a1 a2 = some r) :
    Calls Try.prog 12 #[.agg #[.slice A0_0 l0_0.length c0_0], .int .i64 a1, .int .i64 a2] w fun e w' => e = .returned (.bool r) ∧ Below w.heap.size w w' := by
 have hu27 := Try.underlying27; have HR0_0 := Aside0.mk hr0_0; have HC0_0 := Aside0.mk hc0_0; clear hr0_0 hc0_0; have HB := Aside0.mk (Below.refl w.heap.size w); have H : ((closure_Greatest.f k l0_0 a2).bind fun t155 => ((nodeset_Has.f t155 a1).bind fun t156 => (some t156))) = some r := h; clear h; replace H := Option.bind_eq_some_iff.mp H; obtain ⟨t155, A40, H⟩ := H; replace H : ((nodeset_Has.f t155 a1).bind fun t156 => (some t156)) = some r := H; have A4 := Aside0.mk A40; clear A40; replace H := Option.bind_eq_some_iff.mp H; obtain ⟨t156, A50, H⟩ := H; replace H : (some t156) = some r := H; have A5 := Aside0.mk A50; clear A50; obtain rfl := Option.some.inj H
 go_enter Try.func12, Try.ntmps12
 go_wp2_with (first | ((with_reducible refine gate_dst (N := 3) rfl ?_); refine box_event ?hg (N := 3) ?hd (cs := #[.slice A0_0 l0_0.length c0_0]) (t := 27) ?hr ?_; (case hd => rfl); (case hg => rfl); (case hr => first | (go_simp; done) | (go_simp; rfl)); intro gb154 hg w6 hbox hb; have BK154 := Aside0.mk (hbox); have GW154 := Aside0.mk ((by rw [hg]; exact (below_size HB.out) : w.heap.size ≤ gb154)); have GE154 := Aside0.mk ((by rw [hg]; exact (below_size HB.out) : w.heap.size ≤ gb154)); replace HB := Aside0.mk (below_step HB.out hb); clear hb hbox hg; obtain ⟨hcz7_0, hfz7_0⟩ := blkC1 BK154.out) | ((with_reducible refine gate_callee (f := 50) rfl ?_); refine goesL_ (some 9) rfl rfl Try.func50 (by kernel_rfl) rfl #[.agg #[.slice A0_0 l0_0.length c0_0], .int .i64 a2] rfl (by (try simp only [List.map_toArray, List.map_cons, List.map_nil]); first | done | rfl | (simp only [List.length_drop, List.length_take]; rfl)) ?_; (with_reducible refine (closure_Greatest.calls k _ _ l0_0 a2 t155 _ ?side1 ?side2 A4.out).mono ?_); (case side1 => exact (Kd.C_below HR0_0.out HB.out)); (case side2 => exact HC0_0.out); rintro e w8 ⟨rfl, hb⟩; refine ⟨_, rfl, ?_⟩; replace BK154 := Aside0.mk (blk_below BK154.out hb); replace HB := Aside0.mk (below_step HB.out hb); (try clear hb); (try clear hb2); (try clear hk); (try clear hi)) | ((with_reducible refine gate_callee (f := 49) rfl ?_); refine goesL_ (some 11) rfl rfl Try.func49 (by kernel_rfl) rfl #[.int .i64 t155, .int .i64 a1] rfl (by (try simp only [List.map_toArray, List.map_cons, List.map_nil]); first | done | rfl | (simp only [List.length_drop, List.length_take]; rfl)) ?_; (with_reducible refine (nodeset_Has.calls t155 a1 t156 _ A5.out).mono ?_); rintro e w' ⟨rfl, ⟨nd, rfl⟩⟩; refine ⟨_, rfl, ?_⟩))
 go_ret
 exact ⟨by first | rfl | (simp [errW_none, errW_some] <;> rfl) | (simp [*, errW_none, errW_some] <;> rfl), by repeat (first | (with_reducible first | exact HB.out | apply below_alloc | apply pw_below_drewN | apply below_drew1 | refine below_set ?_ GE154.out) | exact HB.out)⟩
/-! ### trustquorumlaw18_four: function 43 -/
def trustquorumlaw18_four.l0 : Nat → Int → List (S54) → Option ((List (S54)))
  | 0, _, _ => none
  | k + 1, x2, x159000 => if x2 < 4 then (if x159000.length < 2199023255552 then (trustquorumlaw18_four.l0 k (wrap64 (x2 + 1)) (x159000 ++ [(⟨true, (⟨3, (([0, 1, 2, 3] : List Int)), ([] : List (S48))⟩ : S48)⟩ : S54)])) else (none)) else (some x159000)
def trustquorumlaw18_four.f (k : Nat)  : Option ((List (S54))) := trustquorumlaw18_four.l0 k 0 ([] : List (S54))
theorem trustquorumlaw18_four.mono_l : ∀ k, (∀ y0 y1, LeO (trustquorumlaw18_four.l0 k y0 y1) (trustquorumlaw18_four.l0 (k + 1) y0 y1))
  | 0 => fun _ _ r h => by simp [trustquorumlaw18_four.l0] at h
  | k + 1 => by
    have ih0 := trustquorumlaw18_four.mono_l k
    · intro y0 y1
      unfold trustquorumlaw18_four.l0
      repeat' first
      | (with_reducible exact ih0 _ _)
      | (with_reducible exact LeO.refl _)
      | (with_reducible exact LeO.none _)
      | (with_reducible refine LeO.ite ?_ ?_)
      | (with_reducible refine LeO.bind ?_ (fun _ => ?_))
      | exact ih0 _ _
      | exact LeO.none _
      | refine LeO.ite ?_ ?_
      | refine LeO.bind ?_ (fun _ => ?_)
theorem trustquorumlaw18_four.mono : ∀ k, LeO (trustquorumlaw18_four.f k ) (trustquorumlaw18_four.f (k + 1) ) := by
  intro  k
  have ih0 := trustquorumlaw18_four.mono_l k
  unfold trustquorumlaw18_four.f
  repeat' first
      | (with_reducible exact ih0 _ _)
      | (with_reducible exact LeO.refl _)
      | (with_reducible exact LeO.none _)
      | (with_reducible refine LeO.ite ?_ ?_)
      | (with_reducible refine LeO.bind ?_ (fun _ => ?_))
      | exact ih0 _ _
      | exact LeO.none _
      | refine LeO.ite ?_ ?_
      | refine LeO.bind ?_ (fun _ => ?_)
set_option maxHeartbeats 8000000 in
set_option maxRecDepth 100000 in
theorem trustquorumlaw18_four.calls (k : Nat)  (r : List (S54)) (w : World) (h : trustquorumlaw18_four.f k  = some r) :
    Calls Try.prog 43 #[] w fun e w' => ∃ v0_ : Value, e = .returned (.agg #[v0_]) ∧ Kd.R k54 54 w' w.heap.size (fun _ => True) v0_ r ∧ Below w.heap.size w w' := by
 have hu27 := Try.underlying27; have hu48 := Try.underlying48; have hu54 := Try.underlying54; have HB := Aside0.mk (Below.refl w.heap.size w); have H : (trustquorumlaw18_four.l0 k 0 ([] : List (S54))) = some r := h; clear h; have H' := Aside0.mk H; clear H
 go_enter Try.func43, Try.ntmps43
 go_wp2_with (first | ((with_reducible refine gate_dst (N := 0) rfl ?_); refine box_event ?hg (N := 0) ?hd (cs := #[.slice none 0 0]) (t := 27) ?hr ?_; (case hd => rfl); (case hg => rfl); (case hr => first | (go_simp; done) | (go_simp; rfl)); intro gb157 hg w1 hbox hb; have BK157 := Aside0.mk (hbox); have GW157 := Aside0.mk ((by rw [hg]; exact (below_size HB.out) : w.heap.size ≤ gb157)); have GE157 := Aside0.mk ((by rw [hg]; exact (below_size HB.out) : w.heap.size ≤ gb157)); replace HB := Aside0.mk (below_step HB.out hb); clear hb hbox hg) | ((with_reducible refine gate_dst (N := 1) rfl ?_); refine box_event ?hg (N := 1) ?hd (cs := #[.slice none 0 0]) (t := 27) ?hr ?_; (case hd => rfl); (case hg => rfl); (case hr => first | (go_simp; done) | (go_simp; rfl)); intro gb158 hg w2 hbox hb; have BK158 := Aside0.mk (hbox); have GW158 := Aside0.mk ((by rw [hg]; exact (below_size HB.out) : w.heap.size ≤ gb158)); have GE158 := Aside0.mk ((by rw [hg]; exact (below_size HB.out) : w.heap.size ≤ gb158)); replace HB := Aside0.mk (below_step HB.out hb); have NB157_158 := Aside0.mk ((by rw [hg]; exact Nat.ne_of_lt (blk_lt BK157.out) : gb157 ≠ gb158)); have NB158_157 := Aside0.mk ((by rw [hg]; exact Nat.ne_of_gt (blk_lt BK157.out) : gb158 ≠ gb157)); replace BK157 := Aside0.mk (blk_below BK157.out hb); clear hb hbox hg))
 go_loopg [2] k (fun kq v2 w' => ∃ (x2_1 : Int) (x159000_1 : List (S54)) (u159000 : Value), v2 = .int .i64 x2_1 ∧ Aside0 (trustquorumlaw18_four.l0 kq x2_1 x159000_1 = some r) ∧ Aside0 (kq ≤ k) ∧ Aside0 (Kd.R k54 54 w' w.heap.size (fun _ => True) u159000 x159000_1) ∧ Aside0 (w'.heap[gb157]? = some (.cells #[(.slice none 0 0)] 27 (0, 0))) ∧ Aside0 (w'.heap[gb158]? = some (.cells #[u159000] 27 (0, 0))) ∧ Aside0 (Below w.heap.size w w'))
 case atStart => exact ⟨(0), (([] : List (S54))), (.slice none 0 0), (by first | rfl | (simp; done) | (simp [*]; done) | (refine congrArg (Value.int .i64) ?_; unfold wrap64; omega)), H', ⟨Nat.le_refl _⟩, ⟨by first | exact Kd.R_nil _ _ _ _ _ | exact Kd.N_nil _ _ _ _ _ | exact Kd.V_nil _ _ _ _ _ | exact Kd.Q_nil _ _ _ _ _ | exact Kd.S_nil _ _ _ _ _⟩, ⟨by exact BK157.out⟩, ⟨by exact BK158.out⟩, ⟨by exact HB.out⟩⟩
 case round =>
  clear H'; (try clear p2); obtain ⟨x2_1, x159000_1, u159000, rfl, HA, HK1, HO_159000, BK157, BK158, HB⟩ := hrel
  cases gk with
  | zero => exact absurd HA.out (by simp [trustquorumlaw18_four.l0])
  | succ k1 =>
   have H := HA.out; clear HA; simp only [trustquorumlaw18_four.l0] at H
   by_cases c3 : x2_1 < 4
   ·
    rw [if_pos c3] at H; have c3b0 : decide (x2_1 < 4) = true := decide_eq_true c3; clear c3; obtain ⟨y159, hy159⟩ : ∃ y_ : List Int, y_ = (([0, 1, 2, 3] : List Int)) := ⟨_, rfl⟩; replace H : (if x159000_1.length < 2199023255552 then (trustquorumlaw18_four.l0 k1 (wrap64 (x2_1 + 1)) (x159000_1 ++ [(⟨true, (⟨3, y159, ([] : List (S48))⟩ : S48)⟩ : S54)])) else (none)) = some r := by first | (rw [hy159]; with_reducible exact H) | (have H2_ := (Option.bind_some _ _).symm.trans H; rw [hy159]; with_reducible exact H2_) | (have H2_ := (Option.bind_some _ _).symm.trans H; with_reducible exact H2_) | with_reducible exact H | (rw [hy159]; exact H) | exact H
    have Ny159 := Aside0.mk hy159; clear hy159
    by_cases c4 : x159000_1.length < 2199023255552
    ·
     rw [if_pos c4] at H; have LMc4 := Aside0.mk c4; clear c4; obtain ⟨y162, hy162⟩ : ∃ y_ : List (S54), y_ = (x159000_1 ++ [(⟨true, (⟨3, y159, ([] : List (S48))⟩ : S48)⟩ : S54)]) := ⟨_, rfl⟩; replace H : (trustquorumlaw18_four.l0 k1 (wrap64 (x2_1 + 1)) y162) = some r := by first | (rw [hy162]; with_reducible exact H) | (have H2_ := (Option.bind_some _ _).symm.trans H; rw [hy162]; with_reducible exact H2_) | (have H2_ := (Option.bind_some _ _).symm.trans H; with_reducible exact H2_) | with_reducible exact H | (rw [hy162]; exact H) | exact H
     have Ny162 := Aside0.mk hy162; clear hy162; have H' := Aside0.mk H; clear H; have hnb5 := NB158_157.out; have hnc5 := NB157_158.out; obtain ⟨hcz6_0, hfz6_0⟩ := blkC1 BK158.out
     go_wp2_with (first | ((with_reducible refine gate_dst (N := 9) rfl ?_); refine Kd.R_lit (Kd.int .i64) _ 3 ?hg (N := 9) ?hd (xs := ([0, 1, 2, 3] : List Int)) (inner := [.int .i64 0, .int .i64 1, .int .i64 2, .int .i64 3]) (ok := fun _ => True) (okp := fun _ => True) ?hr ?hp (fun _ hk => hk) trivial (Below.refl _ _) (Nat.le_refl _) (by simp) ?_; (case hd => rfl); (case hg => rfl); (case hr => first | (go_simp; done) | (go_simp; rfl)); (case hp => exact (Reps.one (show Kd.M (Kd.int .i64) _ _ _ 0 [.int .i64 0] from rfl) (Reps.one (show Kd.M (Kd.int .i64) _ _ _ 1 [.int .i64 1] from rfl) (Reps.one (show Kd.M (Kd.int .i64) _ _ _ 2 [.int .i64 2] from rfl) (Reps.one (show Kd.M (Kd.int .i64) _ _ _ 3 [.int .i64 3] from rfl) (Reps.none _ _)))))); intro v160 w7 ho8 hb hg_ hnew_; clear hg_ hnew_; (first | rw [← Ny159.out] at ho8 | (simp only [Int.reduceToNat] at ho8; rw [← Ny159.out] at ho8)); replace HO_159000 := Aside0.mk (Kd.R_elder' HO_159000.out (Kd.R_base ho8) hb); have HO161 := Aside0.mk (Kd.R_lower ho8 (below_size HB.out)); replace BK157 := Aside0.mk (blk_below BK157.out hb); replace BK158 := Aside0.mk (blk_below BK158.out hb); replace HB := Aside0.mk (below_step HB.out hb); clear hb ho8; obtain ⟨Ao9, co9, eo9⟩ := Kd.R_slice HO161.out; subst eo9) | ((with_reducible refine gate_builtin (b := .append) (xs := #[.tmp 8, .tmp 12]) rfl ?_); at_builtin; refine Kd.R_append k54 (w0 := w) w.heap.size rfl (.tmp 8) (.tmp 12) 25 54 (.agg #[(.bool false), (.int .i64 0), (.slice none 0 0), (.slice none 0 0)]) 64 rfl Try.underlying25 info54 rfl (by decide) (by omega) u159000 x159000_1 (⟨true, (⟨3, y159, ([] : List (S48))⟩ : S48)⟩ : S54) [.bool true, .int .i64 3, .slice Ao9 y159.length co9, .slice none 0 0] (fun _ => True) (fun k_ => ((fun _ => True)) k_ ∧ some k_ ≠ (u159000 : Value).ownBlock) rfl rfl ?aP (fun _ hk => hk) ?aF ?aO ?aB ?aS ?aL ?_; (case aP => exact k54_mkM _ _ _ (⟨true, (⟨3, y159, ([] : List (S48))⟩ : S48)⟩ : S54) (Kd.R_mono (Kd.R_apart' (HO161.out) (Kd.R_typed HO_159000.out) (by decide)) (fun k_ hk => ⟨trivial, hk.2⟩)) (Kd.R_nil _ _ _ _ _)); (case aB => exact HB.out); (case aF => exact (fun _ _ => trivial)); (case aO => exact (by exact Kd.R_mono HO_159000.out (fun _ hk => trivial))); (case aS => exact (below_size HB.out)); (case aL => have := LMc4.out; omega); intro v163 w10 ho hb hg hat; rw [← Ny162.out] at ho; replace BK157 := Aside0.mk (blk_grown BK157.out hg (Kd.R_ne HO_159000.out BK157.out (by decide))); replace BK158 := Aside0.mk (blk_grown BK158.out hg (Kd.R_ne HO_159000.out BK158.out (by decide))); replace HB := Aside0.mk (hb); have HO164 := Aside0.mk (ho); clear HO_159000 HO161; clear ho hb hg hat; obtain ⟨Ao11, co11, eo11⟩ := Kd.R_slice HO164.out; subst eo11; obtain ⟨hcz12_0, hfz12_0⟩ := blkC1 BK158.out))
     go_roundg k1
     case measure => have := HK1.out; omega
     case rel => exact ⟨(wrap64 (x2_1 + 1)), (y162), (.slice Ao11 y162.length co11), (by first | rfl | (simp; done) | (simp [*]; done) | (refine congrArg (Value.int .i64) ?_; unfold wrap64; omega)), H', ⟨by have := HK1.out; omega⟩, ⟨by (with_reducible repeat (first | apply Kd.R_alloc | apply Kd.R_drewN | apply Kd.R_drew)); exact Kd.R_mono (Kd.R_far (p := ⟨gb158, 0, none⟩) (Kd.R_types HO164.out BK158.out (by decide)) (fun _ hk => hk.2) (.slice Ao11 y162.length co11)) (fun _ hk => trivial)⟩, ⟨by (with_reducible repeat (first | refine blk_drewN ?_ _ | refine blk_drew ?_ | refine blk_alloc ?_ _)); refine blk_far ?_ NB157_158.out _; (with_reducible repeat (first | refine blk_drewN ?_ _ | refine blk_drew ?_ | refine blk_alloc ?_ _)); exact BK157.out⟩, ⟨by (with_reducible repeat (first | refine blk_drewN ?_ _ | refine blk_drew ?_ | refine blk_alloc ?_ _)); refine blk_put (cs := #[u159000]) ?_ 0 _ rfl; (with_reducible repeat (first | refine blk_drewN ?_ _ | refine blk_drew ?_ | refine blk_alloc ?_ _)); exact BK158.out⟩, ⟨by repeat (first | (with_reducible first | exact HB.out | apply below_alloc | apply pw_below_drewN | apply below_drew1 | refine below_set ?_ GE157.out | refine below_set ?_ GE158.out) | exact HB.out)⟩⟩
    ·
     rw [if_neg c4] at H; exact absurd H (by simp)
   ·
    rw [if_neg c3] at H; have c3b0 : decide (x2_1 < 4) = false := decide_eq_false c3; clear c3; obtain rfl := Option.some.inj H; have hnb13 := NB158_157.out; have hnc13 := NB157_158.out; obtain ⟨hcz14_0, hfz14_0⟩ := blkC1 BK158.out; obtain ⟨Ao15, co15, eo15⟩ := Kd.R_slice HO_159000.out; subst eo15; obtain ⟨hcz16_0, hfz16_0⟩ := blkC1 BK157.out
    go_wp2
    refine bodyPost_ret (results_cell_row rfl _ _ gb157 27 #[.slice Ao15 x159000_1.length co15] (0, 0) _ rfl (by (with_reducible repeat (first | refine blk_drewN ?_ _ | refine blk_drew ?_ | refine blk_alloc ?_ _)); refine blk_put (cs := #[.slice none 0 0]) ?_ 0 _ rfl; (with_reducible repeat (first | refine blk_drewN ?_ _ | refine blk_drew ?_ | refine blk_alloc ?_ _)); exact BK157.out) Try.underlying27 rfl (by kernel_rfl)) rfl ?_
    exact ⟨_, by first | rfl | (simp [errW_none, errW_some] <;> rfl) | (simp [*, errW_none, errW_some] <;> rfl), by (with_reducible repeat (first | apply Kd.R_alloc | apply Kd.R_drewN | apply Kd.R_drew)); exact Kd.R_mono (Kd.R_far (p := ⟨gb157, 0, none⟩) (Kd.R_types HO_159000.out BK157.out (by decide)) (fun _ hk => hk.2) (.slice Ao15 x159000_1.length co15)) (fun _ hk => trivial), by repeat (first | (with_reducible first | exact HB.out | apply below_alloc | apply pw_below_drewN | apply below_drew1 | refine below_set ?_ GE157.out | refine below_set ?_ GE158.out) | exact HB.out)⟩
/-! ### trustquorumlaw18_awake: function 13 -/
def trustquorumlaw18_awake.f (k : Nat)  : Option (Bool) := (trustquorumlaw18_four.f k).bind fun t165 => ((federated_Accepts.f k t165 0 7 0).bind fun t168 => (if t168 = true then ((trustquorumlaw18_four.f k).bind fun t169 => ((federated_Accepts.f k t169 0 0 6).bind fun t172 => (if t172 = true then ((trustquorumlaw18_four.f k).bind fun t173 => ((federated_Accepts.f k t173 0 3 0).bind fun t176 => (if t176 = true then (some false) else ((trustquorumlaw18_four.f k).bind fun t177 => ((federated_Confirms.f k t177 0 7).bind fun t180 => (if t180 = true then ((trustquorumlaw18_four.f k).bind fun t181 => ((federated_Confirms.f k t181 0 14).bind fun t184 => (some (!t184)))) else (some false))))))) else (some false)))) else (some false)))
theorem trustquorumlaw18_awake.mono : ∀ k, LeO (trustquorumlaw18_awake.f k ) (trustquorumlaw18_awake.f (k + 1) ) := by
  intro  k
  unfold trustquorumlaw18_awake.f
  repeat' first
      | (with_reducible exact federated_Accepts.mono _ _ _ _ _)
      | (with_reducible exact federated_Confirms.mono _ _ _ _)
      | (with_reducible exact trustquorumlaw18_four.mono _)
      | (with_reducible exact LeO.refl _)
      | (with_reducible exact LeO.none _)
      | (with_reducible refine LeO.ite ?_ ?_)
      | (with_reducible refine LeO.bind ?_ (fun _ => ?_))
      | exact federated_Accepts.mono _ _ _ _ _
      | exact federated_Confirms.mono _ _ _ _
      | exact trustquorumlaw18_four.mono _
      | exact LeO.none _
      | refine LeO.ite ?_ ?_
      | refine LeO.bind ?_ (fun _ => ?_)
set_option maxHeartbeats 8000000 in
set_option maxRecDepth 100000 in
theorem trustquorumlaw18_awake.calls (k : Nat)  (r : Bool) (w : World) (HRT : Aside0 (r = true)) (h : trustquorumlaw18_awake.f k  = some r) :
    Calls Try.prog 13 #[] w fun e w' => e = .returned (.bool r) ∧ Below w.heap.size w w' := by
 have HB := Aside0.mk (Below.refl w.heap.size w); have H : ((trustquorumlaw18_four.f k).bind fun t165 => ((federated_Accepts.f k t165 0 7 0).bind fun t168 => (if t168 = true then ((trustquorumlaw18_four.f k).bind fun t169 => ((federated_Accepts.f k t169 0 0 6).bind fun t172 => (if t172 = true then ((trustquorumlaw18_four.f k).bind fun t173 => ((federated_Accepts.f k t173 0 3 0).bind fun t176 => (if t176 = true then (some false) else ((trustquorumlaw18_four.f k).bind fun t177 => ((federated_Confirms.f k t177 0 7).bind fun t180 => (if t180 = true then ((trustquorumlaw18_four.f k).bind fun t181 => ((federated_Confirms.f k t181 0 14).bind fun t184 => (some (!t184)))) else (some false))))))) else (some false)))) else (some false)))) = some r := h; clear h; replace H := Option.bind_eq_some_iff.mp H; obtain ⟨t165, A10, H⟩ := H; replace H : ((federated_Accepts.f k t165 0 7 0).bind fun t168 => (if t168 = true then ((trustquorumlaw18_four.f k).bind fun t169 => ((federated_Accepts.f k t169 0 0 6).bind fun t172 => (if t172 = true then ((trustquorumlaw18_four.f k).bind fun t173 => ((federated_Accepts.f k t173 0 3 0).bind fun t176 => (if t176 = true then (some false) else ((trustquorumlaw18_four.f k).bind fun t177 => ((federated_Confirms.f k t177 0 7).bind fun t180 => (if t180 = true then ((trustquorumlaw18_four.f k).bind fun t181 => ((federated_Confirms.f k t181 0 14).bind fun t184 => (some (!t184)))) else (some false))))))) else (some false)))) else (some false))) = some r := H; have A1 := Aside0.mk A10
 clear A10; replace H := Option.bind_eq_some_iff.mp H; obtain ⟨t168, A20, H⟩ := H; replace H : (if t168 = true then ((trustquorumlaw18_four.f k).bind fun t169 => ((federated_Accepts.f k t169 0 0 6).bind fun t172 => (if t172 = true then ((trustquorumlaw18_four.f k).bind fun t173 => ((federated_Accepts.f k t173 0 3 0).bind fun t176 => (if t176 = true then (some false) else ((trustquorumlaw18_four.f k).bind fun t177 => ((federated_Confirms.f k t177 0 7).bind fun t180 => (if t180 = true then ((trustquorumlaw18_four.f k).bind fun t181 => ((federated_Confirms.f k t181 0 14).bind fun t184 => (some (!t184)))) else (some false))))))) else (some false)))) else (some false)) = some r := H; have A2 := Aside0.mk A20; clear A20
 by_cases c3 : t168 = true
 ·
  subst c3; have H1 : ((trustquorumlaw18_four.f k).bind fun t169 => ((federated_Accepts.f k t169 0 0 6).bind fun t172 => (if t172 = true then ((trustquorumlaw18_four.f k).bind fun t173 => ((federated_Accepts.f k t173 0 3 0).bind fun t176 => (if t176 = true then (some false) else ((trustquorumlaw18_four.f k).bind fun t177 => ((federated_Confirms.f k t177 0 7).bind fun t180 => (if t180 = true then ((trustquorumlaw18_four.f k).bind fun t181 => ((federated_Confirms.f k t181 0 14).bind fun t184 => (some (!t184)))) else (some false))))))) else (some false)))) = some r := by rw [if_pos rfl] at H; exact H
  clear H; have H := H1; clear H1; replace H := Option.bind_eq_some_iff.mp H; obtain ⟨t169, A40, H⟩ := H; replace H : ((federated_Accepts.f k t169 0 0 6).bind fun t172 => (if t172 = true then ((trustquorumlaw18_four.f k).bind fun t173 => ((federated_Accepts.f k t173 0 3 0).bind fun t176 => (if t176 = true then (some false) else ((trustquorumlaw18_four.f k).bind fun t177 => ((federated_Confirms.f k t177 0 7).bind fun t180 => (if t180 = true then ((trustquorumlaw18_four.f k).bind fun t181 => ((federated_Confirms.f k t181 0 14).bind fun t184 => (some (!t184)))) else (some false))))))) else (some false))) = some r := H; have A4 := Aside0.mk A40; clear A40; obtain rfl : t165 = t169 := Option.some.inj (A1.out.symm.trans A4.out); replace H := Option.bind_eq_some_iff.mp H; obtain ⟨t172, A50, H⟩ := H; replace H : (if t172 = true then ((trustquorumlaw18_four.f k).bind fun t173 => ((federated_Accepts.f k t173 0 3 0).bind fun t176 => (if t176 = true then (some false) else ((trustquorumlaw18_four.f k).bind fun t177 => ((federated_Confirms.f k t177 0 7).bind fun t180 => (if t180 = true then ((trustquorumlaw18_four.f k).bind fun t181 => ((federated_Confirms.f k t181 0 14).bind fun t184 => (some (!t184)))) else (some false))))))) else (some false)) = some r := H; have A5 := Aside0.mk A50; clear A50
  by_cases c6 : t172 = true
  ·
   subst c6; have H1 : ((trustquorumlaw18_four.f k).bind fun t173 => ((federated_Accepts.f k t173 0 3 0).bind fun t176 => (if t176 = true then (some false) else ((trustquorumlaw18_four.f k).bind fun t177 => ((federated_Confirms.f k t177 0 7).bind fun t180 => (if t180 = true then ((trustquorumlaw18_four.f k).bind fun t181 => ((federated_Confirms.f k t181 0 14).bind fun t184 => (some (!t184)))) else (some false))))))) = some r := by rw [if_pos rfl] at H; exact H
   clear H; have H := H1; clear H1; replace H := Option.bind_eq_some_iff.mp H; obtain ⟨t173, A70, H⟩ := H; replace H : ((federated_Accepts.f k t173 0 3 0).bind fun t176 => (if t176 = true then (some false) else ((trustquorumlaw18_four.f k).bind fun t177 => ((federated_Confirms.f k t177 0 7).bind fun t180 => (if t180 = true then ((trustquorumlaw18_four.f k).bind fun t181 => ((federated_Confirms.f k t181 0 14).bind fun t184 => (some (!t184)))) else (some false)))))) = some r := H; have A7 := Aside0.mk A70; clear A70; obtain rfl : t165 = t173 := Option.some.inj (A1.out.symm.trans A7.out); replace H := Option.bind_eq_some_iff.mp H; obtain ⟨t176, A80, H⟩ := H; replace H : (if t176 = true then (some false) else ((trustquorumlaw18_four.f k).bind fun t177 => ((federated_Confirms.f k t177 0 7).bind fun t180 => (if t180 = true then ((trustquorumlaw18_four.f k).bind fun t181 => ((federated_Confirms.f k t181 0 14).bind fun t184 => (some (!t184)))) else (some false))))) = some r := H; have A8 := Aside0.mk A80; clear A80
   by_cases c9 : t176 = true
   ·
    subst c9; have H1 : (some false) = some r := by rw [if_pos rfl] at H; exact H
    clear H; have H := H1; clear H1; exact absurd ((Option.some.inj H).trans HRT.out) (by decide)
   ·
    replace c9 := Bool.eq_false_iff.mpr c9; subst c9; have H1 : ((trustquorumlaw18_four.f k).bind fun t177 => ((federated_Confirms.f k t177 0 7).bind fun t180 => (if t180 = true then ((trustquorumlaw18_four.f k).bind fun t181 => ((federated_Confirms.f k t181 0 14).bind fun t184 => (some (!t184)))) else (some false)))) = some r := by rw [if_neg (show ¬ (false = true) by decide)] at H; exact H
    clear H; have H := H1; clear H1; replace H := Option.bind_eq_some_iff.mp H; obtain ⟨t177, A100, H⟩ := H; replace H : ((federated_Confirms.f k t177 0 7).bind fun t180 => (if t180 = true then ((trustquorumlaw18_four.f k).bind fun t181 => ((federated_Confirms.f k t181 0 14).bind fun t184 => (some (!t184)))) else (some false))) = some r := H; have A10 := Aside0.mk A100; clear A100; obtain rfl : t165 = t177 := Option.some.inj (A1.out.symm.trans A10.out); replace H := Option.bind_eq_some_iff.mp H; obtain ⟨t180, A110, H⟩ := H; replace H : (if t180 = true then ((trustquorumlaw18_four.f k).bind fun t181 => ((federated_Confirms.f k t181 0 14).bind fun t184 => (some (!t184)))) else (some false)) = some r := H; have A11 := Aside0.mk A110; clear A110
    by_cases c12 : t180 = true
    ·
     subst c12; have H1 : ((trustquorumlaw18_four.f k).bind fun t181 => ((federated_Confirms.f k t181 0 14).bind fun t184 => (some (!t184)))) = some r := by rw [if_pos rfl] at H; exact H
     clear H; have H := H1; clear H1; replace H := Option.bind_eq_some_iff.mp H; obtain ⟨t181, A130, H⟩ := H; replace H : ((federated_Confirms.f k t181 0 14).bind fun t184 => (some (!t184))) = some r := H; have A13 := Aside0.mk A130; clear A130; obtain rfl : t165 = t181 := Option.some.inj (A1.out.symm.trans A13.out); replace H := Option.bind_eq_some_iff.mp H; obtain ⟨t184, A140, H⟩ := H; replace H : (some (!t184)) = some r := H; have A14 := Aside0.mk A140; clear A140; obtain rfl := Option.some.inj H
     go_enter Try.func13, Try.ntmps13
     go_wp2_with (first | ((with_reducible refine gate_callee (f := 43) rfl ?_); refine goesL_ (some 1) rfl rfl Try.func43 (by kernel_rfl) rfl #[] rfl (by (try simp only [List.map_toArray, List.map_cons, List.map_nil]); first | done | rfl | (simp only [List.length_drop, List.length_take]; rfl)) ?_; (with_reducible refine (trustquorumlaw18_four.calls k  t165 _ A1.out).mono ?_); rintro e w15 ⟨v166, rfl, ho0, hb⟩; refine ⟨_, rfl, ?_⟩; have HO167 := Aside0.mk (Kd.R_lower ho0 (below_size HB.out)); replace HB := Aside0.mk (below_step HB.out hb); (try clear hb); (try clear hb2); (try clear hk); (try clear hi); (try clear ho0); (try clear A1); obtain ⟨Ao16, co16, eo16⟩ := Kd.R_slice HO167.out; subst eo16) | ((with_reducible refine gate_callee (f := 11) rfl ?_); refine goesL_ (some 2) rfl rfl Try.func11 (by kernel_rfl) rfl #[.agg #[.slice Ao16 t165.length co16], .int .i64 0, .int .i64 7, .int .i64 0] rfl (by (try simp only [List.map_toArray, List.map_cons, List.map_nil]); first | done | rfl | (simp only [List.length_drop, List.length_take]; rfl)) ?_; (with_reducible refine (federated_Accepts.calls k _ _ t165 0 7 0 true _ ?side1 ?side2 A2.out).mono ?_); (case side1 => exact (Kd.R_reads' HO167.out).2.2); (case side2 => exact (Kd.R_reads' HO167.out).2.1); rintro e w17 ⟨rfl, hb⟩; refine ⟨_, rfl, ?_⟩; replace HO167 := Aside0.mk (Kd.R_below HO167.out hb); replace HB := Aside0.mk (below_step HB.out hb); (try clear hb); (try clear hb2); (try clear hk); (try clear hi)) | (go_at_call 43; (with_reducible refine (trustquorumlaw18_four.calls k  t165 _ A4.out).mono ?_); rintro e w18 ⟨v170, rfl, ho0, hb⟩; have HO171 := Aside0.mk (Kd.R_lower (Kd.R_new' ho0 (Kd.R_lt HO167.out)) (below_size HB.out)); replace HO167 := Aside0.mk (Kd.R_elder' HO167.out (Kd.R_base ho0) hb); replace HB := Aside0.mk (below_step HB.out hb); (try clear hb); (try clear hb2); (try clear hk); (try clear hi); (try clear ho0); (try clear A4); obtain ⟨Ao19, co19, eo19⟩ := Kd.R_slice HO171.out; subst eo19) | (go_at_call 11; (with_reducible refine (federated_Accepts.calls k _ _ t165 0 0 6 true _ ?side1 ?side2 A5.out).mono ?_); (case side1 => exact (Kd.R_reads' HO171.out).2.2); (case side2 => exact (Kd.R_reads' HO171.out).2.1); rintro e w20 ⟨rfl, hb⟩; replace HO167 := Aside0.mk (Kd.R_below HO167.out hb); replace HO171 := Aside0.mk (Kd.R_below HO171.out hb); replace HB := Aside0.mk (below_step HB.out hb); (try clear hb); (try clear hb2); (try clear hk); (try clear hi)) | (go_at_call 43; (with_reducible refine (trustquorumlaw18_four.calls k  t165 _ A7.out).mono ?_); rintro e w21 ⟨v174, rfl, ho0, hb⟩; have HO175 := Aside0.mk (Kd.R_lower (Kd.R_new' (Kd.R_new' ho0 (Kd.R_lt HO167.out)) (Kd.R_lt HO171.out)) (below_size HB.out)); replace HO167 := Aside0.mk (Kd.R_elder' HO167.out (Kd.R_base ho0) hb); replace HO171 := Aside0.mk (Kd.R_elder' HO171.out (Kd.R_base ho0) hb); replace HB := Aside0.mk (below_step HB.out hb); (try clear hb); (try clear hb2); (try clear hk); (try clear hi); (try clear ho0); (try clear A7); obtain ⟨Ao22, co22, eo22⟩ := Kd.R_slice HO175.out; subst eo22) | (go_at_call 11; (with_reducible refine (federated_Accepts.calls k _ _ t165 0 3 0 false _ ?side1 ?side2 A8.out).mono ?_); (case side1 => exact (Kd.R_reads' HO175.out).2.2); (case side2 => exact (Kd.R_reads' HO175.out).2.1); rintro e w23 ⟨rfl, hb⟩; replace HO167 := Aside0.mk (Kd.R_below HO167.out hb); replace HO171 := Aside0.mk (Kd.R_below HO171.out hb); replace HO175 := Aside0.mk (Kd.R_below HO175.out hb); replace HB := Aside0.mk (below_step HB.out hb); (try clear hb); (try clear hb2); (try clear hk); (try clear hi)) | (go_at_call 43; (with_reducible refine (trustquorumlaw18_four.calls k  t165 _ A10.out).mono ?_); rintro e w24 ⟨v178, rfl, ho0, hb⟩; have HO179 := Aside0.mk (Kd.R_lower (Kd.R_new' (Kd.R_new' (Kd.R_new' ho0 (Kd.R_lt HO167.out)) (Kd.R_lt HO171.out)) (Kd.R_lt HO175.out)) (below_size HB.out)); replace HO167 := Aside0.mk (Kd.R_elder' HO167.out (Kd.R_base ho0) hb); replace HO171 := Aside0.mk (Kd.R_elder' HO171.out (Kd.R_base ho0) hb); replace HO175 := Aside0.mk (Kd.R_elder' HO175.out (Kd.R_base ho0) hb); replace HB := Aside0.mk (below_step HB.out hb); (try clear hb); (try clear hb2); (try clear hk); (try clear hi); (try clear ho0); (try clear A10); obtain ⟨Ao25, co25, eo25⟩ := Kd.R_slice HO179.out; subst eo25) | (go_at_call 12; (with_reducible refine (federated_Confirms.calls k _ _ t165 0 7 true _ ?side1 ?side2 A11.out).mono ?_); (case side1 => exact (Kd.R_reads' HO179.out).2.2); (case side2 => exact (Kd.R_reads' HO179.out).2.1); rintro e w26 ⟨rfl, hb⟩; replace HO167 := Aside0.mk (Kd.R_below HO167.out hb); replace HO171 := Aside0.mk (Kd.R_below HO171.out hb); replace HO175 := Aside0.mk (Kd.R_below HO175.out hb); replace HO179 := Aside0.mk (Kd.R_below HO179.out hb); replace HB := Aside0.mk (below_step HB.out hb); (try clear hb); (try clear hb2); (try clear hk); (try clear hi)) | (go_at_call 43; (with_reducible refine (trustquorumlaw18_four.calls k  t165 _ A13.out).mono ?_); rintro e w27 ⟨v182, rfl, ho0, hb⟩; have HO183 := Aside0.mk (Kd.R_lower (Kd.R_new' (Kd.R_new' (Kd.R_new' (Kd.R_new' ho0 (Kd.R_lt HO167.out)) (Kd.R_lt HO171.out)) (Kd.R_lt HO175.out)) (Kd.R_lt HO179.out)) (below_size HB.out)); replace HO167 := Aside0.mk (Kd.R_elder' HO167.out (Kd.R_base ho0) hb); replace HO171 := Aside0.mk (Kd.R_elder' HO171.out (Kd.R_base ho0) hb); replace HO175 := Aside0.mk (Kd.R_elder' HO175.out (Kd.R_base ho0) hb); replace HO179 := Aside0.mk (Kd.R_elder' HO179.out (Kd.R_base ho0) hb); replace HB := Aside0.mk (below_step HB.out hb); (try clear hb); (try clear hb2); (try clear hk); (try clear hi); (try clear ho0); (try clear A13); obtain ⟨Ao28, co28, eo28⟩ := Kd.R_slice HO183.out; subst eo28) | (go_at_call 12; (with_reducible refine (federated_Confirms.calls k _ _ t165 0 14 t184 _ ?side1 ?side2 A14.out).mono ?_); (case side1 => exact (Kd.R_reads' HO183.out).2.2); (case side2 => exact (Kd.R_reads' HO183.out).2.1); rintro e w29 ⟨rfl, hb⟩; replace HO167 := Aside0.mk (Kd.R_below HO167.out hb); replace HO171 := Aside0.mk (Kd.R_below HO171.out hb); replace HO175 := Aside0.mk (Kd.R_below HO175.out hb); replace HO179 := Aside0.mk (Kd.R_below HO179.out hb); replace HO183 := Aside0.mk (Kd.R_below HO183.out hb); replace HB := Aside0.mk (below_step HB.out hb); (try clear hb); (try clear hb2); (try clear hk); (try clear hi)))
     go_ret
     exact ⟨by first | rfl | (simp [errW_none, errW_some] <;> rfl) | (simp [*, errW_none, errW_some] <;> rfl), by exact HB.out⟩
    ·
     replace c12 := Bool.eq_false_iff.mpr c12; subst c12; have H1 : (some false) = some r := by rw [if_neg (show ¬ (false = true) by decide)] at H; exact H
     clear H; have H := H1; clear H1; exact absurd ((Option.some.inj H).trans HRT.out) (by decide)
  ·
   replace c6 := Bool.eq_false_iff.mpr c6; subst c6; have H1 : (some false) = some r := by rw [if_neg (show ¬ (false = true) by decide)] at H; exact H
   clear H; have H := H1; clear H1; exact absurd ((Option.some.inj H).trans HRT.out) (by decide)
 ·
  replace c3 := Bool.eq_false_iff.mpr c3; subst c3; have H1 : (some false) = some r := by rw [if_neg (show ¬ (false = true) by decide)] at H; exact H
  clear H; have H := H1; clear H1; exact absurd ((Option.some.inj H).trans HRT.out) (by decide)
/-! ### trustquorummake_Tape_Range: function 44 -/
def trustquorummake_Tape_Range.f (s0_0 : List Int) (s0_1 : Int) (a1 : Int) (a2 : Int) : Option (Int × Int) := (trustquorummake_Tape_N.f s0_0 s0_1 (wrap64 ((wrap64 (a2 - a1)) + 1))).bind fun bt185 => (some (wrap64 (a1 + bt185.1), bt185.2))
set_option maxHeartbeats 8000000 in
set_option maxRecDepth 100000 in
theorem trustquorummake_Tape_Range.calls (g : Nat) (s0_0 : List Int) (s0_1 : Int) (a1 : Int) (a2 : Int) (r1 : Int) (r2 : Int) (w0 w : World) (hI : IsS78 w0 w g s0_0 s0_1) (hB : Below w0.heap.size w0 w) (h : trustquorummake_Tape_Range.f s0_0 s0_1 a1 a2 = some (r1, r2)) :
    Calls Try.prog 44 #[.pointer (some ⟨g, 0, none⟩), .int .i64 a1, .int .i64 a2] w fun e w' => e = .returned (.int .i64 r1) ∧ IsS78 w0 w' g s0_0 r2 ∧ Below w0.heap.size w0 w' ∧ KeepBut w w' g none := by
 have HI0 := Aside0.mk hI; have HK := Aside0.mk (KeepBut.refl w g none); have HL := Aside0.mk hB.size; clear hI; have HW0 := Aside0.mk hB.size; have HB := Aside0.mk hB; clear hB; have H : ((trustquorummake_Tape_N.f s0_0 s0_1 (wrap64 ((wrap64 (a2 - a1)) + 1))).bind fun bt185 => (some (wrap64 (a1 + bt185.1), bt185.2))) = some (r1, r2) := h; clear h; replace H := Option.bind_eq_some_iff.mp H; obtain ⟨⟨t185, t186⟩, A40, H⟩ := H; replace H : (some (wrap64 (a1 + t185), t186)) = some (r1, r2) := H; have A4 := Aside0.mk A40; clear A40; simp only [Option.some.injEq, Prod.mk.injEq] at H; obtain ⟨rfl, rfl⟩ := H
 go_enter Try.func44, Try.ntmps44
 go_wp2_with (first | ((with_reducible refine gate_callee (f := 10) rfl ?_); refine goesL_ (some 13) rfl rfl Try.func10 (by kernel_rfl) rfl #[.pointer (some ⟨g, 0, none⟩), .int .i64 (wrap64 ((wrap64 (a2 - a1)) + 1))] rfl (by (try simp only [List.map_toArray, List.map_cons, List.map_nil]); first | done | rfl | (simp only [List.length_drop, List.length_take]; rfl)) ?_; (with_reducible refine (trustquorummake_Tape_N.calls g s0_0 s0_1 (wrap64 ((wrap64 (a2 - a1)) + 1)) t185 t186 w0 _ ?side1 ?side2 A4.out).mono ?_); (case side1 => exact HI0.out); (case side2 => exact HB.out); rintro e w5 ⟨rfl, hi, hb, hk⟩; refine ⟨_, rfl, ?_⟩; replace HK := Aside0.mk (KeepBut.trans HK.out hk (.inl rfl)); replace HB := Aside0.mk (hb); replace HI0 := Aside0.mk (hi); (try clear hb); (try clear hb2); (try clear hk); (try clear hi)))
 go_ret
 exact ⟨by first | rfl | (simp [errW_none, errW_some] <;> rfl) | (simp [*, errW_none, errW_some] <;> rfl), by exact HI0.out, by exact HB.out, by exact HK.out⟩
/-! ### trustquorummake_Tape_Pick: function 51 -/
def trustquorummake_Tape_Pick.f (s0_0 : List Int) (s0_1 : Int) (l1 : List Int) : Option (Int × Int) := (trustquorummake_Tape_N.f s0_0 s0_1 (l1.length : Int)).bind fun bt187 => (if 0 ≤ bt187.1 then (if bt187.1 < (l1.length : Int) then (some (rd l1 bt187.1, bt187.2)) else (none)) else (none))
set_option maxHeartbeats 8000000 in
set_option maxRecDepth 100000 in
theorem trustquorummake_Tape_Pick.calls (g : Nat) (s0_0 : List Int) (s0_1 : Int) (A1 : Option Addr) (c1 : Nat) (l1 : List Int) (r1 : Int) (r2 : Int) (w0 w : World) (hI : IsS78 w0 w g s0_0 s0_1) (hB : Below w0.heap.size w0 w) (hr1 : Kd.C (Kd.int .i64) w A1 l1.length l1) (hc1 : l1.length ≤ c1) (hf1 : ∀ ad, A1 = some ad → 0 < l1.length → ad.block ≠ g) (h : trustquorummake_Tape_Pick.f s0_0 s0_1 l1 = some (r1, r2)) :
    Calls Try.prog 51 #[.pointer (some ⟨g, 0, none⟩), .slice A1 l1.length c1] w fun e w' => e = .returned (.int .i64 r1) ∧ IsS78 w0 w' g s0_0 r2 ∧ Below w0.heap.size w0 w' ∧ KeepBut w w' g none := by
 have HR1 := Aside0.mk hr1; have HC1 := Aside0.mk hc1; clear hr1 hc1; have HI0 := Aside0.mk hI; have HK := Aside0.mk (KeepBut.refl w g none); have HL := Aside0.mk hB.size; clear hI; have HW0 := Aside0.mk hB.size; have HB := Aside0.mk hB; clear hB; have H : ((trustquorummake_Tape_N.f s0_0 s0_1 (l1.length : Int)).bind fun bt187 => (if 0 ≤ bt187.1 then (if bt187.1 < (l1.length : Int) then (some (rd l1 bt187.1, bt187.2)) else (none)) else (none))) = some (r1, r2) := h; clear h; replace H := Option.bind_eq_some_iff.mp H; obtain ⟨⟨t187, t188⟩, A30, H⟩ := H; replace H : (if 0 ≤ t187 then (if t187 < (l1.length : Int) then (some (rd l1 t187, t188)) else (none)) else (none)) = some (r1, r2) := H; have A3 := Aside0.mk A30; clear A30
 by_cases c4 : 0 ≤ t187
 ·
  rw [if_pos c4] at H; have c4b0 : decide (0 ≤ t187) = true := decide_eq_true c4; clear c4
  by_cases c5 : t187 < (l1.length : Int)
  ·
   rw [if_pos c5] at H; have c5b0 : decide (t187 < (l1.length : Int)) = true := decide_eq_true c5; clear c5; simp only [Option.some.injEq, Prod.mk.injEq] at H; obtain ⟨rfl, rfl⟩ := H
   go_enter Try.func51, Try.ntmps51
   go_wp2_with (first | ((with_reducible refine gate_callee (f := 10) rfl ?_); refine goesL_ (some 9) rfl rfl Try.func10 (by kernel_rfl) rfl #[.pointer (some ⟨g, 0, none⟩), .int .i64 (l1.length : Int)] rfl (by (try simp only [List.map_toArray, List.map_cons, List.map_nil]); first | done | rfl | (simp only [List.length_drop, List.length_take]; rfl)) ?_; (with_reducible refine (trustquorummake_Tape_N.calls g s0_0 s0_1 (l1.length : Int) t187 t188 w0 _ ?side1 ?side2 A3.out).mono ?_); (case side1 => exact HI0.out); (case side2 => exact HB.out); rintro e w6 ⟨rfl, hi, hb, hk⟩; refine ⟨_, rfl, ?_⟩; replace HK := Aside0.mk (KeepBut.trans HK.out hk (.inl rfl)); replace HB := Aside0.mk (hb); replace HI0 := Aside0.mk (hi); (try clear hb); (try clear hb2); (try clear hk); (try clear hi); have p189 : 0 ≤ (t187 : Int) := of_decide_eq_true (by first | (with_reducible assumption) | assumption); have q189 : t187 < (l1.length : Int) := of_decide_eq_true (by first | (with_reducible assumption) | assumption); obtain ⟨ad189, e189, hx189_0⟩ := Kd.at_int HR1.out t187 p189 q189; cases e189; replace hx189_0 := keep_cell HK.out hx189_0 (by first | (rw [add_block]; exact hf1 _ rfl (by omega)) | exact hf1 _ rfl (by omega) | exact hf1 ad189 rfl (by omega)); replace p189 := eq_true p189; replace q189 := eq_true q189))
   go_ret
   exact ⟨by first | rfl | (simp [errW_none, errW_some] <;> rfl) | (simp [*, errW_none, errW_some] <;> rfl), by exact HI0.out, by exact HB.out, by exact HK.out⟩
  ·
   rw [if_neg c5] at H; exact absurd H (by simp)
 ·
  rw [if_neg c4] at H; exact absurd H (by simp)
/-! ### trustquorummake_Tape_Order: function 94 -/
mutual
def trustquorummake_Tape_Order.l0 : Nat → Int → List Int → Int → List Int → Int → Option (List Int × Int)
  | 0, _, _, _, _, _ => none
  | k + 1, x1, x5, x6, x1000, x1001 => if x6 < x1 then (if x5.length < 17592186044416 then (trustquorummake_Tape_Order.l0 k x1 (x5 ++ [x6]) (wrap64 (x6 + 1)) x1000 x1001) else (none)) else (trustquorummake_Tape_Order.l1 k x5 (wrap64 (x1 - 1)) x1000 x1001)
def trustquorummake_Tape_Order.l1 : Nat → List Int → Int → List Int → Int → Option (List Int × Int)
  | 0, _, _, _, _ => none
  | k + 1, x5, x7, x1000, x1001 => if x7 > 0 then ((trustquorummake_Tape_N.f x1000 x1001 (wrap64 (x7 + 1))).bind fun bt193 => (if 0 ≤ bt193.1 then (if bt193.1 < (x5.length : Int) then (if 0 ≤ x7 then (if x7 < (x5.length : Int) then (trustquorummake_Tape_Order.l1 k ((x5.set (x7 : Int).toNat (rd x5 bt193.1)).set (bt193.1 : Int).toNat (rd x5 x7)) (wrap64 (x7 - 1)) x1000 bt193.2) else (none)) else (none)) else (none)) else (none))) else (some (x5, x1001))
end
def trustquorummake_Tape_Order.f (k : Nat) (s0_0 : List Int) (s0_1 : Int) (a1 : Int) : Option (List Int × Int) := trustquorummake_Tape_Order.l0 k a1 ([] : List Int) 0 s0_0 s0_1
theorem trustquorummake_Tape_Order.mono_l : ∀ k, (∀ y0 y1 y2 y3 y4, LeO (trustquorummake_Tape_Order.l0 k y0 y1 y2 y3 y4) (trustquorummake_Tape_Order.l0 (k + 1) y0 y1 y2 y3 y4)) ∧ (∀ y0 y1 y2 y3, LeO (trustquorummake_Tape_Order.l1 k y0 y1 y2 y3) (trustquorummake_Tape_Order.l1 (k + 1) y0 y1 y2 y3))
  | 0 => ⟨fun _ _ _ _ _ r h => by simp [trustquorummake_Tape_Order.l0] at h, fun _ _ _ _ r h => by simp [trustquorummake_Tape_Order.l1] at h⟩
  | k + 1 => by
    obtain ⟨ih0, ih1⟩ := trustquorummake_Tape_Order.mono_l k
    refine ⟨?_, ?_⟩
    · intro y0 y1 y2 y3 y4
      unfold trustquorummake_Tape_Order.l0
      repeat' first
      | (with_reducible exact ih0 _ _ _ _ _)
      | (with_reducible exact ih1 _ _ _ _)
      | (with_reducible exact LeO.refl _)
      | (with_reducible exact LeO.none _)
      | (with_reducible refine LeO.ite ?_ ?_)
      | (with_reducible refine LeO.bind ?_ (fun _ => ?_))
      | exact ih0 _ _ _ _ _
      | exact ih1 _ _ _ _
      | exact LeO.none _
      | refine LeO.ite ?_ ?_
      | refine LeO.bind ?_ (fun _ => ?_)
    · intro y0 y1 y2 y3
      unfold trustquorummake_Tape_Order.l1
      repeat' first
      | (with_reducible exact ih0 _ _ _ _ _)
      | (with_reducible exact ih1 _ _ _ _)
      | (with_reducible exact LeO.refl _)
      | (with_reducible exact LeO.none _)
      | (with_reducible refine LeO.ite ?_ ?_)
      | (with_reducible refine LeO.bind ?_ (fun _ => ?_))
      | exact ih0 _ _ _ _ _
      | exact ih1 _ _ _ _
      | exact LeO.none _
      | refine LeO.ite ?_ ?_
      | refine LeO.bind ?_ (fun _ => ?_)
theorem trustquorummake_Tape_Order.mono : ∀ a0 a1 a2 k, LeO (trustquorummake_Tape_Order.f k a0 a1 a2) (trustquorummake_Tape_Order.f (k + 1) a0 a1 a2) := by
  intro a0 a1 a2 k
  obtain ⟨ih0, ih1⟩ := trustquorummake_Tape_Order.mono_l k
  unfold trustquorummake_Tape_Order.f
  repeat' first
      | (with_reducible exact ih0 _ _ _ _ _)
      | (with_reducible exact ih1 _ _ _ _)
      | (with_reducible exact LeO.refl _)
      | (with_reducible exact LeO.none _)
      | (with_reducible refine LeO.ite ?_ ?_)
      | (with_reducible refine LeO.bind ?_ (fun _ => ?_))
      | exact ih0 _ _ _ _ _
      | exact ih1 _ _ _ _
      | exact LeO.none _
      | refine LeO.ite ?_ ?_
      | refine LeO.bind ?_ (fun _ => ?_)
def trustquorummake_Tape_Order.T10 : Bool × List (List Nat × List Nat) := (true, [([], []), ([], []), ([], []), ([], []), ([], []), ([], []), ([4, 5], [4, 5]), ([6], [6]), ([], []), ([], []), ([8, 9], [8, 9]), ([10], [10]), ([0, 1, 0, 1, 4, 5, 6, 7, 11], [0, 1]), ([12, 7, 0, 1, 4, 5, 6, 7, 11], [7, 12]), ([2, 3, 0, 1, 2, 3, 4, 5, 6, 7, 8, 9, 10, 11, 12, 13], [2, 3]), ([14, 11, 13, 0, 1, 2, 3, 4, 5, 6, 7, 8, 9, 10, 11, 12, 13], [11, 14])])
def trustquorummake_Tape_Order.B10 : List Nat := [0, 0, 0, 0, 0, 0, 48, 112, 0, 0, 768, 1792, 4083, 8179, 16383, 32767]
theorem trustquorummake_Tape_Order.tab10 : rtab .any (opsOf Try.f94 10) = trustquorummake_Tape_Order.T10 := by kernel_rfl
theorem trustquorummake_Tape_Order.bits10 : waitsOk trustquorummake_Tape_Order.T10.2 trustquorummake_Tape_Order.B10 = true := by kernel_rfl
set_option maxHeartbeats 8000000 in
set_option maxRecDepth 100000 in
theorem trustquorummake_Tape_Order.calls (k : Nat) (g : Nat) (s0_0 : List Int) (s0_1 : Int) (a1 : Int) (r1 : List Int) (r2 : Int) (w0 w : World) (hI : IsS78 w0 w g s0_0 s0_1) (hB : Below w0.heap.size w0 w) (h : trustquorummake_Tape_Order.f k s0_0 s0_1 a1 = some (r1, r2)) :
    Calls Try.prog 94 #[.pointer (some ⟨g, 0, none⟩), .int .i64 a1] w fun e w' => ∃ v0_ : Value, e = .returned (v0_) ∧ Kd.R (Kd.int .i64) 3 w' w.heap.size (fun _ => True) v0_ r1 ∧ IsS78 w0 w' g s0_0 r2 ∧ Below w0.heap.size w0 w' ∧ KeepBut w w' g none := by
 have HI0 := Aside0.mk hI; have HK := Aside0.mk (KeepBut.refl w g none); have HL := Aside0.mk hB.size; clear hI; have HW0 := Aside0.mk hB.size; have HB := Aside0.mk hB; clear hB; have H : (trustquorummake_Tape_Order.l0 k a1 ([] : List Int) 0 s0_0 s0_1) = some (r1, r2) := h; clear h; have H' := Aside0.mk H; clear H
 go_enter Try.func94, Try.ntmps94
 go_wp2
 go_loopg [5, 6] k (fun kq v5 v6 w' => ∃ (x5_1 : List Int) (x6_1 : Int), v6 = .int .i64 x6_1 ∧ Aside0 (trustquorummake_Tape_Order.l0 kq a1 x5_1 x6_1 s0_0 s0_1 = some (r1, r2)) ∧ Aside0 (kq ≤ k) ∧ Aside0 (Kd.R (Kd.int .i64) 3 w' w.heap.size (fun _ => True) v5 x5_1) ∧ Aside0 (IsS78 w0 w' g s0_0 s0_1) ∧ Aside0 (KeepBut w w' g none) ∧ Aside0 (Below w0.heap.size w0 w'))
 case atStart => exact ⟨(([] : List Int)), (0), (by first | rfl | (simp; done) | (simp [*]; done) | (refine congrArg (Value.int .i64) ?_; unfold wrap64; omega)), H', ⟨Nat.le_refl _⟩, ⟨by first | exact Kd.R_nil _ _ _ _ _ | exact Kd.N_nil _ _ _ _ _ | exact Kd.V_nil _ _ _ _ _ | exact Kd.Q_nil _ _ _ _ _ | exact Kd.S_nil _ _ _ _ _⟩, ⟨by exact HI0.out⟩, ⟨by exact HK.out⟩, ⟨by exact HB.out⟩⟩
 case round =>
  clear H'; (try clear p2); obtain ⟨x5_1, x6_1, rfl, HA, HK1, HO_5, HI0, HK, HB⟩ := hrel
  cases gk with
  | zero => exact absurd HA.out (by simp [trustquorummake_Tape_Order.l0])
  | succ k1 =>
   have H := HA.out; clear HA; simp only [trustquorummake_Tape_Order.l0] at H
   by_cases c3 : x6_1 < a1
   ·
    rw [if_pos c3] at H; have c3b0 : decide (x6_1 < a1) = true := decide_eq_true c3; clear c3
    by_cases c4 : x5_1.length < 17592186044416
    ·
     rw [if_pos c4] at H; have LMc4 := Aside0.mk c4; clear c4; obtain ⟨y190, hy190⟩ : ∃ y_ : List Int, y_ = (x5_1 ++ [x6_1]) := ⟨_, rfl⟩; replace H : (trustquorummake_Tape_Order.l0 k1 a1 y190 (wrap64 (x6_1 + 1)) s0_0 s0_1) = some (r1, r2) := by first | (rw [hy190]; with_reducible exact H) | (have H2_ := (Option.bind_some _ _).symm.trans H; rw [hy190]; with_reducible exact H2_) | (have H2_ := (Option.bind_some _ _).symm.trans H; with_reducible exact H2_) | with_reducible exact H | (rw [hy190]; exact H) | exact H
     have Ny190 := Aside0.mk hy190; clear hy190; have H' := Aside0.mk H; clear H
     go_wp2_with (first | ((with_reducible refine gate_builtin (b := .append) (xs := #[.tmp 14, .tmp 16]) rfl ?_); at_builtin; refine Kd.R_append (Kd.int .i64) w.heap.size rfl (.tmp 14) (.tmp 16) 22 3 (.int .i64 0) 8 rfl Try.underlying22 info3 rfl (by decide) (by omega) u5 x5_1 x6_1 [.int .i64 x6_1] (fun _ => True) (fun _ => False) rfl rfl ?aP (fun _ hk => hk.elim) ?aF ?aO (Below.refl _ _) ?aS ?aL ?_; (case aP => exact rfl); (case aF => exact (fun _ _ => trivial)); (case aO => exact HO_5.out); (case aS => exact (keep_size (w := w) (g := g) (row := none) HK.out)); (case aL => have := LMc4.out; omega); intro v191 w5 ho hb hg hat; rw [← Ny190.out] at ho; replace HI0 := Aside0.mk (IsS78.grown HI0.out hg (IsS78.own_ne HI0.out HO_5.out (by decide))); replace HB := Aside0.mk (below_weaken HB.out HL.out hb); replace HK := Aside0.mk (KeepBut.trans HK.out (KeepBut.of_grown hg g) (Kd.R_base2 HO_5.out)); have HO192 := Aside0.mk (ho); clear HO_5; clear ho hb hg hat))
     go_roundg k1
     case measure => have := HK1.out; omega
     case rel => exact ⟨(y190), (wrap64 (x6_1 + 1)), (by first | rfl | (simp; done) | (simp [*]; done) | (refine congrArg (Value.int .i64) ?_; unfold wrap64; omega)), H', ⟨by have := HK1.out; omega⟩, ⟨by exact HO192.out⟩, ⟨by exact HI0.out⟩, ⟨by exact HK.out⟩, ⟨by exact HB.out⟩⟩
    ·
     rw [if_neg c4] at H; exact absurd H (by simp)
   ·
    rw [if_neg c3] at H; have c3b0 : decide (x6_1 < a1) = false := decide_eq_false c3; clear c3; have H' := Aside0.mk H; clear H
    go_wp2
    go_loopg [7] k1 (fun kq v7 w' => ∃ (x5_2 : List Int) (x7_2 : Int) (x1001_2 : Int), v7 = .int .i64 x7_2 ∧ Aside0 (trustquorummake_Tape_Order.l1 kq x5_2 x7_2 s0_0 x1001_2 = some (r1, r2)) ∧ Aside0 (kq ≤ k1) ∧ Aside0 (Kd.R (Kd.int .i64) 3 w' w.heap.size (fun _ => True) u5 x5_2) ∧ Aside0 (IsS78 w0 w' g s0_0 x1001_2) ∧ Aside0 (KeepBut w w' g none) ∧ Aside0 (Below w0.heap.size w0 w'))
    case atStart => exact ⟨(x5_1), (wrap64 (a1 - 1)), (s0_1), (by first | rfl | (simp; done) | (simp [*]; done) | (refine congrArg (Value.int .i64) ?_; unfold wrap64; omega)), H', ⟨Nat.le_refl _⟩, ⟨by exact HO_5.out⟩, ⟨by exact HI0.out⟩, ⟨by exact HK.out⟩, ⟨by exact HB.out⟩⟩
    case round =>
     clear H'; (try clear p2); (try clear c3); (try clear c3b0); (try clear c4); (try clear p2); obtain ⟨x5_2, x7_2, x1001_2, rfl, HA, HK2, HO_5, HI0, HK, HB⟩ := hrel
     cases gk with
     | zero => exact absurd HA.out (by simp [trustquorummake_Tape_Order.l1])
     | succ k2 =>
      have H := HA.out; clear HA; simp only [trustquorummake_Tape_Order.l1] at H
      by_cases c6 : x7_2 > 0
      ·
       rw [if_pos c6] at H; have c6b0 : decide (0 < x7_2) = true := decide_eq_true c6; clear c6; replace H := Option.bind_eq_some_iff.mp H; obtain ⟨⟨t193, t194⟩, A70, H⟩ := H; replace H : (if 0 ≤ t193 then (if t193 < (x5_2.length : Int) then (if 0 ≤ x7_2 then (if x7_2 < (x5_2.length : Int) then (trustquorummake_Tape_Order.l1 k2 ((x5_2.set (x7_2 : Int).toNat (rd x5_2 t193)).set (t193 : Int).toNat (rd x5_2 x7_2)) (wrap64 (x7_2 - 1)) s0_0 t194) else (none)) else (none)) else (none)) else (none)) = some (r1, r2) := H; have A7 := Aside0.mk A70; clear A70
       by_cases c8 : 0 ≤ t193
       ·
        rw [if_pos c8] at H; have c8b0 : decide (0 ≤ t193) = true := decide_eq_true c8; clear c8
        by_cases c9 : t193 < (x5_2.length : Int)
        ·
         rw [if_pos c9] at H; have c9b0 : decide (t193 < (x5_2.length : Int)) = true := decide_eq_true c9; clear c9
         by_cases c10 : 0 ≤ x7_2
         ·
          rw [if_pos c10] at H; have c10b0 : decide (0 ≤ x7_2) = true := decide_eq_true c10; clear c10
          by_cases c11 : x7_2 < (x5_2.length : Int)
          ·
           rw [if_pos c11] at H; have c11b0 : decide (x7_2 < (x5_2.length : Int)) = true := decide_eq_true c11; clear c11; obtain ⟨y197, hy197⟩ : ∃ y_ : List Int, y_ = (x5_2.set (x7_2 : Int).toNat (rd x5_2 t193)) := ⟨_, rfl⟩; replace H : (trustquorummake_Tape_Order.l1 k2 (y197.set (t193 : Int).toNat (rd x5_2 x7_2)) (wrap64 (x7_2 - 1)) s0_0 t194) = some (r1, r2) := by first | (rw [hy197]; with_reducible exact H) | (have H2_ := (Option.bind_some _ _).symm.trans H; rw [hy197]; with_reducible exact H2_) | (have H2_ := (Option.bind_some _ _).symm.trans H; with_reducible exact H2_) | with_reducible exact H | (rw [hy197]; exact H) | exact H
           have Ny197 := Aside0.mk hy197; clear hy197; obtain ⟨y198, hy198⟩ : ∃ y_ : List Int, y_ = (y197.set (t193 : Int).toNat (rd x5_2 x7_2)) := ⟨_, rfl⟩; replace H : (trustquorummake_Tape_Order.l1 k2 y198 (wrap64 (x7_2 - 1)) s0_0 t194) = some (r1, r2) := by first | (rw [hy198]; with_reducible exact H) | (have H2_ := (Option.bind_some _ _).symm.trans H; rw [hy198]; with_reducible exact H2_) | (have H2_ := (Option.bind_some _ _).symm.trans H; with_reducible exact H2_) | with_reducible exact H | (rw [hy198]; exact H) | exact H
           have Ny198 := Aside0.mk hy198; clear hy198; have H' := Aside0.mk H; clear H
           try go_wp2_with (first | ((with_reducible refine gate_callee (f := 10) rfl ?_); refine goesL_ (some 27) rfl rfl Try.func10 (by kernel_rfl) rfl #[.pointer (some ⟨g, 0, none⟩), .int .i64 (wrap64 (x7_2 + 1))] rfl (by (try simp only [List.map_toArray, List.map_cons, List.map_nil]); first | done | rfl | (simp only [List.length_drop, List.length_take]; rfl)) ?_; (with_reducible refine (trustquorummake_Tape_N.calls g s0_0 x1001_2 (wrap64 (x7_2 + 1)) t193 t194 w0 _ ?side1 ?side2 A7.out).mono ?_); (case side1 => exact HI0.out); (case side2 => exact HB.out); rintro e w14 ⟨rfl, hi, hb, hk⟩; refine ⟨_, rfl, ?_⟩; replace HO_5 := Aside0.mk (Kd.R_mono (Kd.R_keep (IsS78.apart (show IsS78 w0 _ g s0_0 x1001_2 from by exact HI0.out) HO_5.out (by decide)) hk (fun _ h => h.2)) (fun _ h => h.1)); replace HK := Aside0.mk (KeepBut.trans HK.out hk (.inl rfl)); replace HB := Aside0.mk (hb); replace HI0 := Aside0.mk (hi); (try clear hb); (try clear hb2); (try clear hk); (try clear hi)))
           replace HO_5 := Aside0.mk (Kd.R_drew HO_5.out); replace HI0 := Aside0.mk (IsS78.drew HI0.out); replace HK := Aside0.mk (keep_drew HK.out); replace HB := Aside0.mk (below_drew1 HB.out); obtain ⟨Ao16, co16, eo16⟩ := Kd.R_slice HO_5.out; (first | subst eo16 | (injection eo16 with f1_ f2_ f3_; have f4_ := f1_.symm; have f5_ := f3_.symm; clear f1_ f2_ f3_; subst f4_; subst f5_)); have p195 : 0 ≤ (t193 : Int) := of_decide_eq_true (by first | (with_reducible assumption) | assumption); have q195 : t193 < (x5_2.length : Int) := of_decide_eq_true (by first | (with_reducible assumption) | assumption); obtain ⟨ad195, e195, hx195_0⟩ := Kd.at_int (Kd.R_reads' HO_5.out).2.2 t193 p195 q195
           cases e195
           replace p195 := eq_true p195; replace q195 := eq_true q195; have p196 : 0 ≤ (x7_2 : Int) := of_decide_eq_true (by first | (with_reducible assumption) | assumption); have q196 : x7_2 < (x5_2.length : Int) := of_decide_eq_true (by first | (with_reducible assumption) | assumption); obtain ⟨ad196, e196, hx196_0⟩ := Kd.at_int (Kd.R_reads' HO_5.out).2.2 x7_2 p196 q196; obtain rfl : ad195 = ad196 := (by injection e196); replace p196 := eq_true p196; replace q196 := eq_true q196; have p12 : 0 ≤ (x7_2 : Int) := of_decide_eq_true (by first | (with_reducible assumption) | assumption); have q12 : (x7_2 : Int) < ((x5_2.length : Int) : Int) := of_decide_eq_true (by first | (with_reducible assumption) | assumption); obtain ⟨go12, co12, eo12, gb12, gl12, cl12, HG12⟩ := Kd.R_form HO_5.out (by omega); (first | cases eo12 | (injection eo12 with ea_ en_ ec_; (first | subst ea_ | (injection ea_ with ea_; subst ea_)); subst ec_; clear en_)); have GB12 := Aside0.mk gb12; have GG12 := Aside0.mk HG12; clear gb12 gl12 HG12; (first | simp only [add_plain] at hx195_0 | skip); (first | simp only [add_plain] at hx196_0 | skip); obtain ⟨hx12_0, hf12_0⟩ := Kd.R_celln 0 HO_5.out (x7_2 : Int) p12 q12; replace p12 := eq_true p12; replace q12 := eq_true q12; have HN0_go12 := Aside0.mk (show g ≠ go12 from by have h_ := IsS78.own_ne HI0.out HO_5.out (by decide); intro e_; exact h_ (by rw [e_]; rfl)); have HP17 := Kd.R_putn HO_5.out (x7_2 : Int) (rd x5_2 t193); rw [← Ny197.out] at HP17; have HQ17 := Aside0.mk HP17
           clear HP17; have p13 : 0 ≤ (t193 : Int) := of_decide_eq_true (by first | (with_reducible assumption) | assumption); have q13 : (t193 : Int) < ((x5_2.length : Int) : Int) := of_decide_eq_true (by first | (with_reducible assumption) | assumption); obtain ⟨hx13_0, hf13_0⟩ := Kd.R_celln 0 HQ17.out (t193 : Int) p13 q13; replace p13 := eq_true p13; replace q13 := eq_true q13; have HN0_go12 := Aside0.mk (show g ≠ go12 from by have h_ := IsS78.own_ne HI0.out HO_5.out (by decide); intro e_; exact h_ (by rw [e_]; rfl)); have HP18 := Kd.R_putn HQ17.out (t193 : Int) (rd x5_2 x7_2); rw [← Ny198.out] at HP18; have HQ18 := Aside0.mk HP18; clear HP18; refine start_ (n := 16) (S := fun w' => w'.cell? ⟨go12, (t193).toNat, none⟩ = some (.int .i64 (rd x5_2 t193)) ∧ w'.cell? ⟨go12, (x7_2).toNat, none⟩ = some (.int .i64 (rd x5_2 x7_2))) (ds := [13, 15]) #[false, false, false, false, false, false, false, false, false, false, false, false, false, false, false, false] (by kernel_rfl) rfl rfl ⟨hx195_0, hx196_0⟩ (fun hHeld => ?_); refine with_tabW trustquorummake_Tape_Order.tab10 trustquorummake_Tape_Order.bits10 (fun HT_ HW_ => ?_); generalize w14.drew = w15 at HO_5 HI0 HK HB GG12 HQ17 HQ18 hf12_0 hf13_0 hx12_0 hx13_0 hx195_0 hx196_0 hHeld ⊢; refine pure_ (i := 0) (N := some 28) (v := ?_) (a' := ?_) #[true, false, false, false, false, false, false, false, false, false, false, false, false, false, false, false] rfl rfl (any_of HT_.out (by kernel_rfl)) (fun _ _ _ h => h) (Or.inl ⟨by rfl, ?_⟩) ?_ ?_; rotate_left
           ·
            intro w'; go_simp
            with_reducible rfl
           rotate_left
           ·
            simp only [Act.put, List.setIfInBounds_toArray, List.set_cons_zero, List.set_cons_succ, i64_w, i32_w]; rfl
           refine pure_ (i := 1) (N := some 29) (v := ?_) (a' := ?_) #[true, true, false, false, false, false, false, false, false, false, false, false, false, false, false, false] rfl rfl (any_of HT_.out (by kernel_rfl)) (fun _ _ _ h => h) (Or.inl ⟨by rfl, ?_⟩) ?_ ?_; rotate_left
           ·
            intro w'; go_simp
            with_reducible rfl
           rotate_left
           ·
            simp only [Act.put, List.setIfInBounds_toArray, List.set_cons_zero, List.set_cons_succ, i64_w, i32_w]; rfl
           refine pure_ (i := 2) (N := some 30) (v := ?_) (a' := ?_) #[true, true, true, false, false, false, false, false, false, false, false, false, false, false, false, false] rfl rfl (any_of HT_.out (by kernel_rfl)) (fun _ _ _ h => h) (Or.inl ⟨by rfl, ?_⟩) ?_ ?_; rotate_left
           ·
            intro w'; go_simp
            with_reducible rfl
           rotate_left
           ·
            simp only [Act.put, List.setIfInBounds_toArray, List.set_cons_zero, List.set_cons_succ, i64_w, i32_w]; rfl
           refine pure_ (i := 3) (N := some 31) (v := ?_) (a' := ?_) #[true, true, true, true, false, false, false, false, false, false, false, false, false, false, false, false] rfl rfl (any_of HT_.out (by kernel_rfl)) (fun _ _ _ h => h) (Or.inl ⟨by rfl, ?_⟩) ?_ ?_; rotate_left
           ·
            intro w'; go_simp
            with_reducible rfl
           rotate_left
           ·
            simp only [Act.put, List.setIfInBounds_toArray, List.set_cons_zero, List.set_cons_succ, i64_w, i32_w]; rfl
           refine pure_ (i := 4) (N := some 32) (v := ?_) (a' := ?_) #[true, true, true, true, true, false, false, false, false, false, false, false, false, false, false, false] rfl rfl (any_of HT_.out (by kernel_rfl)) (fun _ _ _ h => h) (Or.inl ⟨by rfl, ?_⟩) ?_ ?_; rotate_left
           ·
            intro w'; go_simp
            with_reducible rfl
           rotate_left
           ·
            simp only [Act.put, List.setIfInBounds_toArray, List.set_cons_zero, List.set_cons_succ, i64_w, i32_w]; rfl
           refine pure_ (i := 5) (N := some 33) (v := ?_) (a' := ?_) #[true, true, true, true, true, true, false, false, false, false, false, false, false, false, false, false] rfl rfl (any_of HT_.out (by kernel_rfl)) (fun _ _ _ h => h) (Or.inl ⟨by rfl, ?_⟩) ?_ ?_; rotate_left
           ·
            intro w'; go_simp
            with_reducible rfl
           rotate_left
           ·
            simp only [Act.put, List.setIfInBounds_toArray, List.set_cons_zero, List.set_cons_succ, i64_w, i32_w]; rfl
           refine pure_ (i := 6) (N := some 34) (v := ?_) (a' := ?_) #[true, true, true, true, true, true, true, false, false, false, false, false, false, false, false, false] rfl rfl (any_of HT_.out (by kernel_rfl)) (fun _ _ _ h => h) (Or.inl ⟨by rfl, ?_⟩) ?_ ?_; rotate_left
           ·
            intro w'; go_simp
            with_reducible rfl
           rotate_left
           ·
            simp only [Act.put, List.setIfInBounds_toArray, List.set_cons_zero, List.set_cons_succ, i64_w, i32_w]; rfl
           refine pure_ (i := 8) (N := some 36) (v := ?_) (a' := ?_) #[true, true, true, true, true, true, true, false, true, false, false, false, false, false, false, false] rfl rfl (any_of HT_.out (by kernel_rfl)) (fun _ _ _ h => h) (Or.inl ⟨by rfl, ?_⟩) ?_ ?_; rotate_left
           ·
            intro w'; go_simp
            with_reducible rfl
           rotate_left
           ·
            simp only [Act.put, List.setIfInBounds_toArray, List.set_cons_zero, List.set_cons_succ, i64_w, i32_w]; rfl
           refine pure_ (i := 9) (N := some 37) (v := ?_) (a' := ?_) #[true, true, true, true, true, true, true, false, true, true, false, false, false, false, false, false] rfl rfl (any_of HT_.out (by kernel_rfl)) (fun _ _ _ h => h) (Or.inl ⟨by rfl, ?_⟩) ?_ ?_; rotate_left
           ·
            intro w'; go_simp
            with_reducible rfl
           rotate_left
           ·
            simp only [Act.put, List.setIfInBounds_toArray, List.set_cons_zero, List.set_cons_succ, i64_w, i32_w]; rfl
           refine pure_ (i := 10) (N := some 38) (v := ?_) (a' := ?_) #[true, true, true, true, true, true, true, false, true, true, true, false, false, false, false, false] rfl rfl (any_of HT_.out (by kernel_rfl)) (fun _ _ _ h => h) (Or.inl ⟨by rfl, ?_⟩) ?_ ?_; rotate_left
           ·
            intro w'; go_simp
            with_reducible rfl
           rotate_left
           ·
            simp only [Act.put, List.setIfInBounds_toArray, List.set_cons_zero, List.set_cons_succ, i64_w, i32_w]; rfl
           refine take_ (i := 7) (N := some 35) (v := ?_) (a' := ?_) #[true, true, true, true, true, true, true, true, true, true, true, false, false, false, false, false] rfl rfl (take_ofW HT_.out HW_.out (by kernel_rfl)) (fun _ _ _ h => h) (Or.inl ⟨by rfl, ?_⟩) hHeld ?_ ?_; rotate_left
           ·
            rintro w' ⟨s0, s1⟩; go_simp
            with_reducible rfl
           rotate_left
           ·
            simp only [Act.put, List.setIfInBounds_toArray, List.set_cons_zero, List.set_cons_succ, i64_w, i32_w]; rfl
           refine take_ (i := 11) (N := some 39) (v := ?_) (a' := ?_) #[true, true, true, true, true, true, true, true, true, true, true, true, false, false, false, false] rfl rfl (take_ofW HT_.out HW_.out (by kernel_rfl)) (fun _ _ _ h => h) (Or.inl ⟨by rfl, ?_⟩) hHeld ?_ ?_; rotate_left
           ·
            rintro w' ⟨s0, s1⟩; go_simp
            with_reducible rfl
           rotate_left
           ·
            simp only [Act.put, List.setIfInBounds_toArray, List.set_cons_zero, List.set_cons_succ, i64_w, i32_w]; rfl
           refine pure_ (i := 12) (N := some 40) (v := ?_) (a' := ?_) #[true, true, true, true, true, true, true, true, true, true, true, true, true, false, false, false] rfl rfl (any_of HT_.out (by kernel_rfl)) (fun _ _ _ h => h) (Or.inl ⟨by rfl, ?_⟩) ?_ ?_; rotate_left
           ·
            intro w'; go_simp
            with_reducible rfl
           rotate_left
           ·
            simp only [Act.put, List.setIfInBounds_toArray, List.set_cons_zero, List.set_cons_succ, i64_w, i32_w]; rfl
           refine last_ (i := 13) (N := none) #[true, true, true, true, true, true, true, true, true, true, true, true, true, true, false, false] rfl rfl (one_of HT_.out (by kernel_rfl)) (by decide) (fun K hK => ?_); refine skip_ (w1 := ?_) (by rfl) rfl ?_ ?_; rotate_left
           ·
            go_simp; rfl
           refine hK.out _ _ ?_; clear hK K; refine pure_ (i := 14) (N := some 41) (v := ?_) (a' := ?_) #[true, true, true, true, true, true, true, true, true, true, true, true, true, true, true, false] rfl rfl (any_of HT_.out (by kernel_rfl)) (fun _ _ _ h => h) (Or.inl ⟨by rfl, ?_⟩) ?_ ?_; rotate_left
           ·
            intro w'; go_simp
            with_reducible rfl
           rotate_left
           ·
            simp only [Act.put, List.setIfInBounds_toArray, List.set_cons_zero, List.set_cons_succ, i64_w, i32_w]; rfl
           refine last_ (i := 15) (N := none) #[true, true, true, true, true, true, true, true, true, true, true, true, true, true, true, true] rfl rfl (one_of HT_.out (by kernel_rfl)) (by decide) (fun K hK => ?_); refine skip_ (w1 := ?_) (by rfl) rfl ?_ ?_; rotate_left
           ·
            go_simp; rfl
           refine hK.out _ _ ?_; clear hK K; refine done_ (done_of HT_.out (by kernel_rfl)) ?_
           try go_wp2
           go_roundg k2
           case measure => have := HK1.out; have := HK2.out; omega
           case rel => exact ⟨(y198), (wrap64 (x7_2 - 1)), (t194), (by first | rfl | (simp; done) | (simp [*]; done) | (refine congrArg (Value.int .i64) ?_; unfold wrap64; omega)), H', ⟨by have := HK1.out; have := HK2.out; omega⟩, ⟨by (with_reducible repeat (first | apply Kd.R_alloc | apply Kd.R_drewN | apply Kd.R_drew)); exact HQ18.out⟩, ⟨by repeat (first | (with_reducible first | exact HI0.out | apply IsS78.alloc | apply IsS78.drewN | apply IsS78.drew | apply IsS78.set_1 | refine IsS78.far ?_ HN0_go12.out _ | refine IsS78.far ?_ HN0_go12.out _) | exact HI0.out)⟩, ⟨by repeat (first | (with_reducible first | exact HK.out | apply KeepBut.set_ | apply keep_drewN | apply keep_drew | apply keep_alloc | refine keep_far ?_ GB12.out _ | refine keep_far ?_ GB12.out _) | exact HK.out)⟩, ⟨by repeat (first | (with_reducible first | exact HB.out | apply below_alloc | apply pw_below_drewN | apply below_drew1 | refine below_set ?_ (Nat.le_trans HL.out GB12.out) | refine below_set ?_ (Nat.le_trans HL.out GB12.out) | refine below_set ?_ (IsS78.ge HI0.out)) | exact HB.out)⟩⟩
          ·
           rw [if_neg c11] at H; exact absurd H (by simp)
         ·
          rw [if_neg c10] at H; exact absurd H (by simp)
        ·
         rw [if_neg c9] at H; exact absurd H (by simp)
       ·
        rw [if_neg c8] at H; exact absurd H (by simp)
      ·
       rw [if_neg c6] at H; have c6b0 : decide (0 < x7_2) = false := decide_eq_false c6; clear c6; simp only [Option.some.injEq, Prod.mk.injEq] at H; obtain ⟨rfl, rfl⟩ := H
       go_wp2
       go_ret
       exact ⟨_, by first | rfl | (simp [errW_none, errW_some] <;> rfl) | (simp [*, errW_none, errW_some] <;> rfl), by exact HO_5.out, by exact HI0.out, by exact HB.out, by exact HK.out⟩
end Go.Proofs.Ytmeamdklonmahaa.QFederatedView
