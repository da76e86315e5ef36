/- Lean functions that answer as the Go functions do which the law reaches, and proofs that the Go code comes to exactly these answers. Conditions: those that each theorem names. -/
import Derived.Test.YtphndccgadblnaaLoop
import Derived.Test.YtphndccgadblnaaProg
import Derived.Test.YtphndccgadblnaaMine
import Derived.Below
import Derived.Deep.Draws
import Derived.Deep.AppendLies
import Derived.Maps.AppendAt
import Derived.OwnWalk
import Derived.Laws.BytesArg
import Derived.Laws.MakeOwn
import Derived.Laws.OwnMore
import Derived.Deep.OwnRows
import Derived.Tactics
import Derived.Lib.ConvBytes
import Derived.Laws.Slices
import Derived.WalkKit
import Derived.KernelRfl
import Derived.RowKit3
import Derived.Deep.LoopGhost
import Derived.Deep.QuietTactic
import Derived.BigQuiet
import Derived.WideLaws
import Derived.Deep.DeepCutAuto
import Derived.Deep.CutBlock
import Derived.Deep.RegionHeld3
import Derived.Laws.Rows
import Derived.Lib.AppendStr
import Derived.ArgAppend
import Derived.Laws.IdiomCopy
import Derived.OrdersHeld
import Derived.Laws.BitsLemmas
import Derived.RowKit
import Derived.Test.YtphndccgadblnaaBrief
import Derived.Test.YtphndccgadblnaaWWords
import Derived.Test.YtphndccgadblnaaWLast
import Derived.Test.YtphndccgadblnaaWTab
import Derived.Test.YtphndccgadblnaaWQPut
import Derived.Test.YtphndccgadblnaaWApart
import Derived.Test.YtphndccgadblnaaWArr
import Derived.Test.YtphndccgadblnaaWZeros
import Derived.Test.YtphndccgadblnaaWFoot
import Derived.Test.YtphndccgadblnaaWKept
import Derived.Test.YtphndccgadblnaaWShare
import Derived.Test.YtphndccgadblnaaWN
import Derived.Test.YtphndccgadblnaaWFootNe
import Derived.Test.YtphndccgadblnaaWEqStruct
import Derived.Test.YtphndccgadblnaaWRepsOne
import Derived.Test.YtphndccgadblnaaWGuard
import Derived.Test.YtphndccgadblnaaWNEv
import Derived.Test.YtphndccgadblnaaWMore
namespace Go.Proofs.Ytphndccgadblnaa.QLeadersAnswers
open Go.RowKit Go.Proofs.YtphndccgadblnaaW.PrintWords Go.Proofs.YtphndccgadblnaaW.PrintLast Go.Proofs.YtphndccgadblnaaW.PrintMore
attribute [local go_sem] max2_int min2_int max_two min_two max_three min_three max_four min_four   -- for this text's walks alone
set_option linter.unusedVariables false
set_option linter.unusedSimpArgs false



def errW : Option Int → Value
  | none => .nilIface
  | some c => .iface 0 (.int .i64 c)
theorem errW_none : errW none = .nilIface := rfl
theorem errW_some (c : Int) : errW (some c) = .iface 0 (.int .i64 c) := rfl

theorem blkC1 {w : World} {g : Nat} {t : TypeId} {a0 : Value} (h : w.heap[g]? = some (.cells #[a0] t (0, 0))) : w.cell? ⟨g, 0, none⟩ = some a0 ∧ w.frozen? ⟨g, 0, none⟩ = false := ⟨(blk_cell h 0).trans rfl, blk_frozen h 0⟩
theorem blkC2 {w : World} {g : Nat} {t : TypeId} {a0 a1 : Value} (h : w.heap[g]? = some (.cells #[a0, a1] t (0, 0))) : w.cell? ⟨g, 0, none⟩ = some a0 ∧ w.cell? ⟨g, 1, none⟩ = some a1 ∧ w.frozen? ⟨g, 0, none⟩ = false ∧ w.frozen? ⟨g, 1, none⟩ = false := ⟨(blk_cell h 0).trans rfl, (blk_cell h 1).trans rfl, blk_frozen h 0, blk_frozen h 1⟩
theorem blkC3 {w : World} {g : Nat} {t : TypeId} {a0 a1 a2 : Value} (h : w.heap[g]? = some (.cells #[a0, a1, a2] t (0, 0))) : w.cell? ⟨g, 0, none⟩ = some a0 ∧ w.cell? ⟨g, 1, none⟩ = some a1 ∧ w.cell? ⟨g, 2, none⟩ = some a2 ∧ w.frozen? ⟨g, 0, none⟩ = false ∧ w.frozen? ⟨g, 1, none⟩ = false ∧ w.frozen? ⟨g, 2, none⟩ = false := ⟨(blk_cell h 0).trans rfl, (blk_cell h 1).trans rfl, (blk_cell h 2).trans rfl, blk_frozen h 0, blk_frozen h 1, blk_frozen h 2⟩
theorem blkC4 {w : World} {g : Nat} {t : TypeId} {a0 a1 a2 a3 : Value} (h : w.heap[g]? = some (.cells #[a0, a1, a2, a3] t (0, 0))) : w.cell? ⟨g, 0, none⟩ = some a0 ∧ w.cell? ⟨g, 1, none⟩ = some a1 ∧ w.cell? ⟨g, 2, none⟩ = some a2 ∧ w.cell? ⟨g, 3, none⟩ = some a3 ∧ w.frozen? ⟨g, 0, none⟩ = false ∧ w.frozen? ⟨g, 1, none⟩ = false ∧ w.frozen? ⟨g, 2, none⟩ = false ∧ w.frozen? ⟨g, 3, none⟩ = false := ⟨(blk_cell h 0).trans rfl, (blk_cell h 1).trans rfl, (blk_cell h 2).trans rfl, (blk_cell h 3).trans rfl, blk_frozen h 0, blk_frozen h 1, blk_frozen h 2, blk_frozen h 3⟩
theorem info3 : (Try.prog.info? 3).map (fun i => (i.zero, i.size, i.bytes)) = some (some (.int .i64 0), 1, 8) := by kernel_rfl
theorem info27 : (Try.prog.info? 27).map (fun i => (i.zero, i.size, i.bytes)) = some (some (.agg #[(.int .i64 0), (.slice none 0 0), (.slice none 0 0)]), 3, 56) := by kernel_rfl
theorem info47 : (Try.prog.info? 47).map (fun i => (i.zero, i.size, i.bytes)) = some (some (.agg #[(.slice none 0 0)]), 1, 24) := by kernel_rfl
theorem info52 : (Try.prog.info? 52).map (fun i => (i.zero, i.size, i.bytes)) = some (some (.agg #[(.int .i64 0), (.int .i64 0), (.int .i64 0), (.int .i64 0)]), 4, 32) := by kernel_rfl
theorem info56 : (Try.prog.info? 56).map (fun i => (i.zero, i.size, i.bytes)) = some (some (.agg #[(.int .i64 0), (.int .i64 0), (.int .i64 0)]), 3, 24) := by kernel_rfl
theorem info71 : (Try.prog.info? 71).map (fun i => (i.zero, i.size, i.bytes)) = some (some (.agg #[(.bool false), (.int .i64 0), (.slice none 0 0), (.slice none 0 0)]), 4, 64) := by kernel_rfl
-- the values' own types
theorem foot_cell {α : Type} {d : Kd α} {w W W' : World} {g n : Nat} {ad : Addr} {xs : List α} (h : ∀ W', KeepBut w W' g none → d.C W' (some ad) n xs) (hn : 0 < n) (hs : 0 < d.sz) (hk : KeepBut w W g none) (hk' : KeepBut w W' g none) {a : Addr} (ha : a.block = ad.block) : W'.cell? a = W.cell? a := by
  have hne := Kd.foot_ne h hn hs
  have hlt := Kd.foot_lt h hn hs
  have e1 := hk.2 ad.block hlt hne (by simp)
  have e2 := hk'.2 ad.block hlt hne (by simp)
  simp only [World.cell?, ha, e1, e2]
def rd_L1 (xs : List (List Int)) (i : Int) : (List Int) := xs.getD i.toNat ([] : List Int)
theorem at_L1 {w : World} {A : Option Addr} {n : Nat} {xs : List (List Int)} (h : Kd.C (Kd.slice 3 (Kd.int .i64)) w A n xs) (i : Int) (h0 : 0 ≤ i) (h1 : i < n) : ∃ ad A0 c0, A = some ad ∧ w.cell? (ad.add i.toNat) = some (.slice A0 (rd_L1 xs i).length c0) ∧ (rd_L1 xs i).length ≤ c0 ∧ (Kd.int .i64).C w A0 (rd_L1 xs i).length (rd_L1 xs i) := by
  obtain ⟨ad, c, e, _, hK, hc0⟩ := Kd.C_get h ([] : List Int) i h0 h1
  have hc : ∀ j u, c[j]? = some u → w.cell? (ad.add (i.toNat * 1 + j)) = some u := hc0
  obtain ⟨A0, c0, rfl, l0, g0⟩ := hK
  exact ⟨ad, A0, c0, e, by have hq := hc 0 _ rfl; rwa [Nat.mul_one, Nat.add_zero] at hq, l0, g0⟩
theorem atF_L1 {w W : World} {g : Nat} {A : Option Addr} {n : Nat} {xs : List (List Int)} (h : ∀ W', KeepBut w W' g none → Kd.C (Kd.slice 3 (Kd.int .i64)) W' A n xs) (hk : KeepBut w W g none) (i : Int) (h0 : 0 ≤ i) (h1 : i < n) : ∃ ad A0 c0, A = some ad ∧ W.cell? (ad.add i.toNat) = some (.slice A0 (rd_L1 xs i).length c0) ∧ (rd_L1 xs i).length ≤ c0 ∧ (∀ W', KeepBut w W' g none → (Kd.int .i64).C W' A0 (rd_L1 xs i).length (rd_L1 xs i)) := by
  obtain ⟨ad, A0, c0, e, hx0, l0, g0⟩ := at_L1 (h W hk) i h0 h1
  subst e
  refine ⟨ad, A0, c0, rfl, hx0, l0, fun W' hk' => ?_⟩
  · obtain ⟨ad', A0', c0', e', hx0', l0', g0'⟩ := at_L1 (h W' hk') i h0 h1
    cases e'
    have hq := foot_cell h (by omega) (by decide) hk hk' (a := (ad.add i.toNat)) (by first | (rw [add_block]) | (show (Addr.add _ _).block = _; rw [add_block]) | rfl)
    have ht := Option.some.inj (hx0'.symm.trans (hq.trans hx0))
    injection ht with ha_ _ _
    rw [← ha_]; exact g0'


/-! #### struct type 27, nested in itself -/
structure S27 where
  f0 : Int
  f1 : (List Int)
  f2 : (List S27)
def z27 : S27 := ⟨(0 : Int), ([] : List Int), ([] : List S27)⟩
def F27 (d : Kd S27) : Kd S27 := Kd.iso (Kd.pair (Kd.int .i64) (Kd.pair (Kd.slice 3 (Kd.int .i64)) (Kd.slice 27 d))) (fun x : S27 => (x.f0, x.f1, x.f2))
theorem mono27 : Kd.Mono F27 := Kd.mono_iso _ (Kd.mono_pair (Kd.mono_const _) (Kd.mono_pair (Kd.mono_const _) (Kd.mono_slice 27 Kd.mono_id)))
theorem sub27 : Kd.Sub F27 [3, 27] := Kd.sub_iso _ (Kd.sub_pair (Kd.sub_const _ (by decide)) (Kd.sub_pair (Kd.sub_const _ (by decide)) (Kd.sub_slice 27 (by decide) Kd.sub_id)))
theorem sz27 : ∀ n, (Kd.upto F27 3 [3, 27] n).sz = 3 := Kd.upto_sz (fun _ => rfl)
def k27 : Kd S27 := Kd.fix F27 3 [3, 27] sz27 (Kd.upto_E sub27)
theorem k27_heap : Kd.Heap k27 := Kd.heap_fix (fun _ h_ => Kd.heap_iso _ (Kd.heap_pair (Kd.heap_int .i64) (Kd.heap_pair (Kd.heap_slice 3 (Kd.heap_int .i64)) (Kd.heap_slice 27 h_))))
theorem k27_open {w : World} {x : S27} {cs : List Value} (h : k27.K w x cs) : ∃ A1 c1 A2 c2, cs = [.int .i64 x.f0, .slice A1 x.f1.length c1, .slice A2 x.f2.length c2] ∧ x.f1.length ≤ c1 ∧ (Kd.int .i64).C w A1 x.f1.length x.f1 ∧ x.f2.length ≤ c2 ∧ k27.C w A2 x.f2.length x.f2 := by
  obtain ⟨n, h⟩ := h
  cases n with
  | zero => exact h.elim
  | succ n =>
    obtain ⟨_, _, rfl, rfl, ⟨_, _, rfl, ⟨A1, c1, rfl, l1, g1⟩, ⟨A2, c2, rfl, l2, g2⟩⟩⟩ := h
    exact ⟨A1, c1, A2, c2, rfl, l1, g1, l2, Kd.fix_C g2⟩
theorem k27_openM {w : World} {base : Nat} {ok : Nat → Prop} {x : S27} {cs : List Value} (h : k27.M w base ok x cs) : ∃ v1 v2, cs = [.int .i64 x.f0, v1, v2] ∧ (Kd.int .i64).R 3 w base ok v1 x.f1 ∧ k27.R 27 w base ok v2 x.f2 := by
  obtain ⟨n, h⟩ := h
  cases n with
  | zero => exact h.elim
  | succ n =>
    obtain ⟨_, _, rfl, rfl, ⟨_, _, rfl, ⟨v1, rfl, g1⟩, ⟨v2, rfl, g2⟩⟩⟩ := h
    exact ⟨v1, v2, rfl, g1, Kd.fix_R g2⟩
theorem k27_mk (w : World) (x : S27) {A1 : Option Addr} {c1 : Nat} (l1 : x.f1.length ≤ c1) (g1 : (Kd.int .i64).C w A1 x.f1.length x.f1) {A2 : Option Addr} {c2 : Nat} (l2 : x.f2.length ≤ c2) (g2 : k27.C w A2 x.f2.length x.f2) : k27.K w x [.int .i64 x.f0, .slice A1 x.f1.length c1, .slice A2 x.f2.length c2] := by
  obtain ⟨n2, q2⟩ := Kd.fix_C_back mono27 g2
  have r2 := Kd.upto_C_le mono27 sz27 (show n2 ≤ n2 by omega) q2
  exact ⟨n2 + 1, ⟨[.int .i64 x.f0], [.slice A1 x.f1.length c1, .slice A2 x.f2.length c2], rfl, rfl, ⟨[.slice A1 x.f1.length c1], [.slice A2 x.f2.length c2], rfl, ⟨A1, c1, rfl, l1, g1⟩, ⟨A2, c2, rfl, l2, r2⟩⟩⟩⟩
theorem k27_mkM (w : World) (base : Nat) (ok : Nat → Prop) (x : S27) {v1 : Value} (g1 : (Kd.int .i64).R 3 w base ok v1 x.f1) {v2 : Value} (g2 : k27.R 27 w base ok v2 x.f2) : k27.M w base ok x [.int .i64 x.f0, v1, v2] := by
  obtain ⟨n2, q2⟩ := Kd.fix_R_back mono27 g2
  have r2 := Kd.upto_R_le mono27 sz27 (show n2 ≤ n2 by omega) q2
  exact ⟨n2 + 1, ⟨[.int .i64 x.f0], [v1, v2], rfl, rfl, ⟨[v1], [v2], rfl, ⟨v1, rfl, g1⟩, ⟨v2, rfl, r2⟩⟩⟩⟩
theorem k27_openF {W : World} {ok : Nat → Prop} {x : S27} {cs : List Value} (h : Kd.FK k27 W ok x cs) : ∃ A1 c1 A2 c2, cs = [.int .i64 x.f0, .slice A1 x.f1.length c1, .slice A2 x.f2.length c2] ∧ x.f1.length ≤ c1 ∧ Kd.F (Kd.int .i64) W ok A1 x.f1.length x.f1 ∧ x.f2.length ≤ c2 ∧ Kd.F k27 W ok A2 x.f2.length x.f2 := by
  obtain ⟨A1, c1, A2, c2, rfl, l1, _, l2, _⟩ := k27_open (Kd.FK_now h)
  exact ⟨A1, c1, A2, c2, rfl, l1, (fun W' hW => by obtain ⟨A1_, c1_, A2_, c2_, he, l1_, g1_, l2_, g2_⟩ := k27_open (h W' hW); injection (Option.some.inj (show some (Value.slice A1 x.f1.length c1) = some (Value.slice A1_ x.f1.length c1_) from congrArg (fun l => l[1]?) he)) with ha_ _ _; rw [ha_]; exact g1_), l2, (fun W' hW => by obtain ⟨A1_, c1_, A2_, c2_, he, l1_, g1_, l2_, g2_⟩ := k27_open (h W' hW); injection (Option.some.inj (show some (Value.slice A2 x.f2.length c2) = some (Value.slice A2_ x.f2.length c2_) from congrArg (fun l => l[2]?) he)) with ha_ _ _; rw [ha_]; exact g2_)⟩
theorem k27_mkF (W : World) (ok : Nat → Prop) (x : S27) {A1 : Option Addr} {c1 : Nat} (l1 : x.f1.length ≤ c1) (g1 : Kd.F (Kd.int .i64) W ok A1 x.f1.length x.f1) {A2 : Option Addr} {c2 : Nat} (l2 : x.f2.length ≤ c2) (g2 : Kd.F k27 W ok A2 x.f2.length x.f2) : Kd.FK k27 W ok x [.int .i64 x.f0, .slice A1 x.f1.length c1, .slice A2 x.f2.length c2] := fun W2 hW => k27_mk W2 x l1 (g1 W2 hW) l2 (g2 W2 hW)
def rd_T27 (xs : List S27) (i : Int) : S27 := xs.getD i.toNat z27
theorem at_T27 {w : World} {A : Option Addr} {n : Nat} {xs : List S27} (h : Kd.C k27 w A n xs) (i : Int) (h0 : 0 ≤ i) (h1 : i < n) : ∃ ad A1 c1 A2 c2, A = some ad ∧ w.cell? (ad.add (i.toNat * 3)) = some (.int .i64 (rd_T27 xs i).f0) ∧ w.cell? ⟨(ad.add (i.toNat * 3)).block, (ad.add (i.toNat * 3)).off + 1, none⟩ = some (.slice A1 (rd_T27 xs i).f1.length c1) ∧ w.cell? ⟨(ad.add (i.toNat * 3)).block, (ad.add (i.toNat * 3)).off + 2, none⟩ = some (.slice A2 (rd_T27 xs i).f2.length c2) ∧ (rd_T27 xs i).f1.length ≤ c1 ∧ (Kd.int .i64).C w A1 (rd_T27 xs i).f1.length (rd_T27 xs i).f1 ∧ (rd_T27 xs i).f2.length ≤ c2 ∧ k27.C w A2 (rd_T27 xs i).f2.length (rd_T27 xs i).f2 := by
  obtain ⟨ad, c, e, _, hK, hc0⟩ := Kd.C_get h z27 i h0 h1
  have hc : ∀ j u, c[j]? = some u → w.cell? (ad.add (i.toNat * 3 + j)) = some u := hc0
  obtain ⟨A1, c1, A2, c2, rfl, l1, g1, l2, g2⟩ := k27_open hK
  exact ⟨ad, A1, c1, A2, c2, e, hc 0 _ rfl, by rw [← add_field _ _ 1 (by omega)]; exact hc 1 _ rfl, by rw [← add_field _ _ 2 (by omega)]; exact hc 2 _ rfl, l1, g1, l2, g2⟩
theorem atF_T27 {w W : World} {g : Nat} {A : Option Addr} {n : Nat} {xs : List S27} (h : ∀ W', KeepBut w W' g none → Kd.C k27 W' A n xs) (hk : KeepBut w W g none) (i : Int) (h0 : 0 ≤ i) (h1 : i < n) : ∃ ad A1 c1 A2 c2, A = some ad ∧ W.cell? (ad.add (i.toNat * 3)) = some (.int .i64 (rd_T27 xs i).f0) ∧ W.cell? ⟨(ad.add (i.toNat * 3)).block, (ad.add (i.toNat * 3)).off + 1, none⟩ = some (.slice A1 (rd_T27 xs i).f1.length c1) ∧ W.cell? ⟨(ad.add (i.toNat * 3)).block, (ad.add (i.toNat * 3)).off + 2, none⟩ = some (.slice A2 (rd_T27 xs i).f2.length c2) ∧ (rd_T27 xs i).f1.length ≤ c1 ∧ (∀ W', KeepBut w W' g none → (Kd.int .i64).C W' A1 (rd_T27 xs i).f1.length (rd_T27 xs i).f1) ∧ (rd_T27 xs i).f2.length ≤ c2 ∧ (∀ W', KeepBut w W' g none → k27.C W' A2 (rd_T27 xs i).f2.length (rd_T27 xs i).f2) := by
  obtain ⟨ad, A1, c1, A2, c2, e, hx0, hx1, hx2, l1, g1, l2, g2⟩ := at_T27 (h W hk) i h0 h1
  subst e
  refine ⟨ad, A1, c1, A2, c2, rfl, hx0, hx1, hx2, l1, fun W' hk' => ?_, l2, fun W' hk' => ?_⟩
  · obtain ⟨ad', A1', c1', A2', c2', e', hx0', hx1', hx2', l1', g1', l2', g2'⟩ := at_T27 (h W' hk') i h0 h1
    cases e'
    have hq := foot_cell h (by omega) (by decide) hk hk' (a := ⟨(ad.add (i.toNat * 3)).block, (ad.add (i.toNat * 3)).off + 1, none⟩) (by first | (rw [add_block]) | (show (Addr.add _ _).block = _; rw [add_block]) | rfl)
    have ht := Option.some.inj (hx1'.symm.trans (hq.trans hx1))
    injection ht with ha_ _ _
    rw [← ha_]; exact g1'
  · obtain ⟨ad', A1', c1', A2', c2', e', hx0', hx1', hx2', l1', g1', l2', g2'⟩ := at_T27 (h W' hk') i h0 h1
    cases e'
    have hq := foot_cell h (by omega) (by decide) hk hk' (a := ⟨(ad.add (i.toNat * 3)).block, (ad.add (i.toNat * 3)).off + 2, none⟩) (by first | (rw [add_block]) | (show (Addr.add _ _).block = _; rw [add_block]) | rfl)
    have ht := Option.some.inj (hx2'.symm.trans (hq.trans hx2))
    injection ht with ha_ _ _
    rw [← ha_]; exact g2'


/-! #### struct type 71 -/
structure S71 where
  f0 : Bool
  f1 : S27
def z71 : S71 := ⟨false, z27⟩
def k71 : Kd S71 := Kd.iso (Kd.pair Kd.bool k27) (fun x : S71 => (x.f0, x.f1))
theorem k71_heap : Kd.Heap k71 := Kd.heap_iso _ (Kd.heap_pair Kd.heap_bool k27_heap)
theorem k71_open {w : World} {x : S71} {cs : List Value} (h : k71.K w x cs) : ∃ A2 c2 A3 c3, cs = [.bool x.f0, .int .i64 x.f1.f0, .slice A2 x.f1.f1.length c2, .slice A3 x.f1.f2.length c3] ∧ x.f1.f1.length ≤ c2 ∧ (Kd.int .i64).C w A2 x.f1.f1.length x.f1.f1 ∧ x.f1.f2.length ≤ c3 ∧ k27.C w A3 x.f1.f2.length x.f1.f2 := by
  obtain ⟨_, _, rfl, rfl, s1⟩ := h
  obtain ⟨A2, c2, A3, c3, rfl, l2, g2, l3, g3⟩ := k27_open s1
  exact ⟨A2, c2, A3, c3, rfl, l2, g2, l3, g3⟩
theorem k71_openM {w : World} {base : Nat} {ok : Nat → Prop} {x : S71} {cs : List Value} (h : k71.M w base ok x cs) : ∃ v2 v3, cs = [.bool x.f0, .int .i64 x.f1.f0, v2, v3] ∧ (Kd.int .i64).R 3 w base ok v2 x.f1.f1 ∧ k27.R 27 w base ok v3 x.f1.f2 := by
  obtain ⟨_, _, rfl, rfl, s1⟩ := h
  obtain ⟨v2, v3, rfl, g2, g3⟩ := k27_openM s1
  exact ⟨v2, v3, rfl, g2, g3⟩
theorem k71_mk (w : World) (x : S71) {A2 : Option Addr} {c2 : Nat} (l2 : x.f1.f1.length ≤ c2) (g2 : (Kd.int .i64).C w A2 x.f1.f1.length x.f1.f1) {A3 : Option Addr} {c3 : Nat} (l3 : x.f1.f2.length ≤ c3) (g3 : k27.C w A3 x.f1.f2.length x.f1.f2) : k71.K w x [.bool x.f0, .int .i64 x.f1.f0, .slice A2 x.f1.f1.length c2, .slice A3 x.f1.f2.length c3] := ⟨[.bool x.f0], [.int .i64 x.f1.f0, .slice A2 x.f1.f1.length c2, .slice A3 x.f1.f2.length c3], rfl, rfl, (k27_mk w x.f1 l2 g2 l3 g3)⟩
theorem k71_mkM (w : World) (base : Nat) (ok : Nat → Prop) (x : S71) {v2 : Value} (g2 : (Kd.int .i64).R 3 w base ok v2 x.f1.f1) {v3 : Value} (g3 : k27.R 27 w base ok v3 x.f1.f2) : k71.M w base ok x [.bool x.f0, .int .i64 x.f1.f0, v2, v3] := ⟨[.bool x.f0], [.int .i64 x.f1.f0, v2, v3], rfl, rfl, (k27_mkM w base ok x.f1 g2 g3)⟩
theorem k71_openF {W : World} {ok : Nat → Prop} {x : S71} {cs : List Value} (h : Kd.FK k71 W ok x cs) : ∃ A2 c2 A3 c3, cs = [.bool x.f0, .int .i64 x.f1.f0, .slice A2 x.f1.f1.length c2, .slice A3 x.f1.f2.length c3] ∧ x.f1.f1.length ≤ c2 ∧ Kd.F (Kd.int .i64) W ok A2 x.f1.f1.length x.f1.f1 ∧ x.f1.f2.length ≤ c3 ∧ Kd.F k27 W ok A3 x.f1.f2.length x.f1.f2 := by
  obtain ⟨A2, c2, A3, c3, rfl, l2, _, l3, _⟩ := k71_open (Kd.FK_now h)
  exact ⟨A2, c2, A3, c3, rfl, l2, (fun W' hW => by obtain ⟨A2_, c2_, A3_, c3_, he, l2_, g2_, l3_, g3_⟩ := k71_open (h W' hW); injection (Option.some.inj (show some (Value.slice A2 x.f1.f1.length c2) = some (Value.slice A2_ x.f1.f1.length c2_) from congrArg (fun l => l[2]?) he)) with ha_ _ _; rw [ha_]; exact g2_), l3, (fun W' hW => by obtain ⟨A2_, c2_, A3_, c3_, he, l2_, g2_, l3_, g3_⟩ := k71_open (h W' hW); injection (Option.some.inj (show some (Value.slice A3 x.f1.f2.length c3) = some (Value.slice A3_ x.f1.f2.length c3_) from congrArg (fun l => l[3]?) he)) with ha_ _ _; rw [ha_]; exact g3_)⟩
theorem k71_mkF (W : World) (ok : Nat → Prop) (x : S71) {A2 : Option Addr} {c2 : Nat} (l2 : x.f1.f1.length ≤ c2) (g2 : Kd.F (Kd.int .i64) W ok A2 x.f1.f1.length x.f1.f1) {A3 : Option Addr} {c3 : Nat} (l3 : x.f1.f2.length ≤ c3) (g3 : Kd.F k27 W ok A3 x.f1.f2.length x.f1.f2) : Kd.FK k71 W ok x [.bool x.f0, .int .i64 x.f1.f0, .slice A2 x.f1.f1.length c2, .slice A3 x.f1.f2.length c3] := fun W2 hW => k71_mk W2 x l2 (g2 W2 hW) l3 (g3 W2 hW)
def rd_T71 (xs : List S71) (i : Int) : S71 := xs.getD i.toNat z71
theorem at_T71 {w : World} {A : Option Addr} {n : Nat} {xs : List S71} (h : Kd.C k71 w A n xs) (i : Int) (h0 : 0 ≤ i) (h1 : i < n) : ∃ ad A2 c2 A3 c3, A = some ad ∧ w.cell? (ad.add (i.toNat * 4)) = some (.bool (rd_T71 xs i).f0) ∧ w.cell? ⟨(ad.add (i.toNat * 4)).block, (ad.add (i.toNat * 4)).off + 1, none⟩ = some (.int .i64 (rd_T71 xs i).f1.f0) ∧ w.cell? ⟨(ad.add (i.toNat * 4)).block, (ad.add (i.toNat * 4)).off + 2, none⟩ = some (.slice A2 (rd_T71 xs i).f1.f1.length c2) ∧ w.cell? ⟨(ad.add (i.toNat * 4)).block, (ad.add (i.toNat * 4)).off + 3, none⟩ = some (.slice A3 (rd_T71 xs i).f1.f2.length c3) ∧ (rd_T71 xs i).f1.f1.length ≤ c2 ∧ (Kd.int .i64).C w A2 (rd_T71 xs i).f1.f1.length (rd_T71 xs i).f1.f1 ∧ (rd_T71 xs i).f1.f2.length ≤ c3 ∧ k27.C w A3 (rd_T71 xs i).f1.f2.length (rd_T71 xs i).f1.f2 := by
  obtain ⟨ad, c, e, _, hK, hc0⟩ := Kd.C_get h z71 i h0 h1
  have hc : ∀ j u, c[j]? = some u → w.cell? (ad.add (i.toNat * 4 + j)) = some u := hc0
  obtain ⟨A2, c2, A3, c3, rfl, l2, g2, l3, g3⟩ := k71_open hK
  exact ⟨ad, A2, c2, A3, c3, e, hc 0 _ rfl, by rw [← add_field _ _ 1 (by omega)]; exact hc 1 _ rfl, by rw [← add_field _ _ 2 (by omega)]; exact hc 2 _ rfl, by rw [← add_field _ _ 3 (by omega)]; exact hc 3 _ rfl, l2, g2, l3, g3⟩
theorem atF_T71 {w W : World} {g : Nat} {A : Option Addr} {n : Nat} {xs : List S71} (h : ∀ W', KeepBut w W' g none → Kd.C k71 W' A n xs) (hk : KeepBut w W g none) (i : Int) (h0 : 0 ≤ i) (h1 : i < n) : ∃ ad A2 c2 A3 c3, A = some ad ∧ W.cell? (ad.add (i.toNat * 4)) = some (.bool (rd_T71 xs i).f0) ∧ W.cell? ⟨(ad.add (i.toNat * 4)).block, (ad.add (i.toNat * 4)).off + 1, none⟩ = some (.int .i64 (rd_T71 xs i).f1.f0) ∧ W.cell? ⟨(ad.add (i.toNat * 4)).block, (ad.add (i.toNat * 4)).off + 2, none⟩ = some (.slice A2 (rd_T71 xs i).f1.f1.length c2) ∧ W.cell? ⟨(ad.add (i.toNat * 4)).block, (ad.add (i.toNat * 4)).off + 3, none⟩ = some (.slice A3 (rd_T71 xs i).f1.f2.length c3) ∧ (rd_T71 xs i).f1.f1.length ≤ c2 ∧ (∀ W', KeepBut w W' g none → (Kd.int .i64).C W' A2 (rd_T71 xs i).f1.f1.length (rd_T71 xs i).f1.f1) ∧ (rd_T71 xs i).f1.f2.length ≤ c3 ∧ (∀ W', KeepBut w W' g none → k27.C W' A3 (rd_T71 xs i).f1.f2.length (rd_T71 xs i).f1.f2) := by
  obtain ⟨ad, A2, c2, A3, c3, e, hx0, hx1, hx2, hx3, l2, g2, l3, g3⟩ := at_T71 (h W hk) i h0 h1
  subst e
  refine ⟨ad, A2, c2, A3, c3, rfl, hx0, hx1, hx2, hx3, l2, fun W' hk' => ?_, l3, fun W' hk' => ?_⟩
  · obtain ⟨ad', A2', c2', A3', c3', e', hx0', hx1', hx2', hx3', l2', g2', l3', g3'⟩ := at_T71 (h W' hk') i h0 h1
    cases e'
    have hq := foot_cell h (by omega) (by decide) hk hk' (a := ⟨(ad.add (i.toNat * 4)).block, (ad.add (i.toNat * 4)).off + 2, none⟩) (by first | (rw [add_block]) | (show (Addr.add _ _).block = _; rw [add_block]) | rfl)
    have ht := Option.some.inj (hx2'.symm.trans (hq.trans hx2))
    injection ht with ha_ _ _
    rw [← ha_]; exact g2'
  · obtain ⟨ad', A2', c2', A3', c3', e', hx0', hx1', hx2', hx3', l2', g2', l3', g3'⟩ := at_T71 (h W' hk') i h0 h1
    cases e'
    have hq := foot_cell h (by omega) (by decide) hk hk' (a := ⟨(ad.add (i.toNat * 4)).block, (ad.add (i.toNat * 4)).off + 3, none⟩) (by first | (rw [add_block]) | (show (Addr.add _ _).block = _; rw [add_block]) | rfl)
    have ht := Option.some.inj (hx3'.symm.trans (hq.trans hx3))
    injection ht with ha_ _ _
    rw [← ha_]; exact g3'


/-! #### struct type 52 -/
structure S52 where
  f0 : Int
  f1 : Int
  f2 : Int
  f3 : Int
def z52 : S52 := ⟨(0 : Int), (0 : Int), (0 : Int), (0 : Int)⟩
def k52 : Kd S52 := Kd.iso (Kd.pair (Kd.int .i64) (Kd.pair (Kd.int .i64) (Kd.pair (Kd.int .i64) (Kd.int .i64)))) (fun x : S52 => (x.f0, x.f1, x.f2, x.f3))
theorem k52_heap : Kd.Heap k52 := Kd.heap_iso _ (Kd.heap_pair (Kd.heap_int .i64) (Kd.heap_pair (Kd.heap_int .i64) (Kd.heap_pair (Kd.heap_int .i64) (Kd.heap_int .i64))))
theorem k52_open {w : World} {x : S52} {cs : List Value} (h : k52.K w x cs) : cs = [.int .i64 x.f0, .int .i64 x.f1, .int .i64 x.f2, .int .i64 x.f3] := by
  obtain ⟨_, _, rfl, rfl, ⟨_, _, rfl, rfl, ⟨_, _, rfl, rfl, rfl⟩⟩⟩ := h
  exact rfl
theorem k52_openM {w : World} {base : Nat} {ok : Nat → Prop} {x : S52} {cs : List Value} (h : k52.M w base ok x cs) : cs = [.int .i64 x.f0, .int .i64 x.f1, .int .i64 x.f2, .int .i64 x.f3] := by
  obtain ⟨_, _, rfl, rfl, ⟨_, _, rfl, rfl, ⟨_, _, rfl, rfl, rfl⟩⟩⟩ := h
  exact rfl
theorem k52_mk (w : World) (x : S52)  : k52.K w x [.int .i64 x.f0, .int .i64 x.f1, .int .i64 x.f2, .int .i64 x.f3] := ⟨[.int .i64 x.f0], [.int .i64 x.f1, .int .i64 x.f2, .int .i64 x.f3], rfl, rfl, ⟨[.int .i64 x.f1], [.int .i64 x.f2, .int .i64 x.f3], rfl, rfl, ⟨[.int .i64 x.f2], [.int .i64 x.f3], rfl, rfl, rfl⟩⟩⟩
theorem k52_mkM (w : World) (base : Nat) (ok : Nat → Prop) (x : S52)  : k52.M w base ok x [.int .i64 x.f0, .int .i64 x.f1, .int .i64 x.f2, .int .i64 x.f3] := ⟨[.int .i64 x.f0], [.int .i64 x.f1, .int .i64 x.f2, .int .i64 x.f3], rfl, rfl, ⟨[.int .i64 x.f1], [.int .i64 x.f2, .int .i64 x.f3], rfl, rfl, ⟨[.int .i64 x.f2], [.int .i64 x.f3], rfl, rfl, rfl⟩⟩⟩
theorem k52_mkF (W : World) (ok : Nat → Prop) (x : S52) : Kd.FK k52 W ok x [.int .i64 x.f0, .int .i64 x.f1, .int .i64 x.f2, .int .i64 x.f3] := fun W2 _ => k52_mk W2 x
def rd_T52 (xs : List S52) (i : Int) : S52 := xs.getD i.toNat z52
theorem at_T52 {w : World} {A : Option Addr} {n : Nat} {xs : List S52} (h : Kd.C k52 w A n xs) (i : Int) (h0 : 0 ≤ i) (h1 : i < n) : ∃ ad , A = some ad ∧ w.cell? (ad.add (i.toNat * 4)) = some (.int .i64 (rd_T52 xs i).f0) ∧ w.cell? ⟨(ad.add (i.toNat * 4)).block, (ad.add (i.toNat * 4)).off + 1, none⟩ = some (.int .i64 (rd_T52 xs i).f1) ∧ w.cell? ⟨(ad.add (i.toNat * 4)).block, (ad.add (i.toNat * 4)).off + 2, none⟩ = some (.int .i64 (rd_T52 xs i).f2) ∧ w.cell? ⟨(ad.add (i.toNat * 4)).block, (ad.add (i.toNat * 4)).off + 3, none⟩ = some (.int .i64 (rd_T52 xs i).f3) := by
  obtain ⟨ad, c, e, _, hK, hc0⟩ := Kd.C_get h z52 i h0 h1
  have hc : ∀ j u, c[j]? = some u → w.cell? (ad.add (i.toNat * 4 + j)) = some u := hc0
  obtain rfl := k52_open hK
  exact ⟨ad, e, hc 0 _ rfl, by rw [← add_field _ _ 1 (by omega)]; exact hc 1 _ rfl, by rw [← add_field _ _ 2 (by omega)]; exact hc 2 _ rfl, by rw [← add_field _ _ 3 (by omega)]; exact hc 3 _ rfl⟩

def rd_L6 (xs : List (List S71)) (i : Int) : (List S71) := xs.getD i.toNat ([] : List S71)
theorem at_L6 {w : World} {A : Option Addr} {n : Nat} {xs : List (List S71)} (h : Kd.C (Kd.slice 71 k71) w A n xs) (i : Int) (h0 : 0 ≤ i) (h1 : i < n) : ∃ ad A0 c0, A = some ad ∧ w.cell? (ad.add i.toNat) = some (.slice A0 (rd_L6 xs i).length c0) ∧ (rd_L6 xs i).length ≤ c0 ∧ k71.C w A0 (rd_L6 xs i).length (rd_L6 xs i) := by
  obtain ⟨ad, c, e, _, hK, hc0⟩ := Kd.C_get h ([] : List S71) i h0 h1
  have hc : ∀ j u, c[j]? = some u → w.cell? (ad.add (i.toNat * 1 + j)) = some u := hc0
  obtain ⟨A0, c0, rfl, l0, g0⟩ := hK
  exact ⟨ad, A0, c0, e, by have hq := hc 0 _ rfl; rwa [Nat.mul_one, Nat.add_zero] at hq, l0, g0⟩
theorem atF_L6 {w W : World} {g : Nat} {A : Option Addr} {n : Nat} {xs : List (List S71)} (h : ∀ W', KeepBut w W' g none → Kd.C (Kd.slice 71 k71) W' A n xs) (hk : KeepBut w W g none) (i : Int) (h0 : 0 ≤ i) (h1 : i < n) : ∃ ad A0 c0, A = some ad ∧ W.cell? (ad.add i.toNat) = some (.slice A0 (rd_L6 xs i).length c0) ∧ (rd_L6 xs i).length ≤ c0 ∧ (∀ W', KeepBut w W' g none → k71.C W' A0 (rd_L6 xs i).length (rd_L6 xs i)) := by
  obtain ⟨ad, A0, c0, e, hx0, l0, g0⟩ := at_L6 (h W hk) i h0 h1
  subst e
  refine ⟨ad, A0, c0, rfl, hx0, l0, fun W' hk' => ?_⟩
  · obtain ⟨ad', A0', c0', e', hx0', l0', g0'⟩ := at_L6 (h W' hk') i h0 h1
    cases e'
    have hq := foot_cell h (by omega) (by decide) hk hk' (a := (ad.add i.toNat)) (by first | (rw [add_block]) | (show (Addr.add _ _).block = _; rw [add_block]) | rfl)
    have ht := Option.some.inj (hx0'.symm.trans (hq.trans hx0))
    injection ht with ha_ _ _
    rw [← ha_]; exact g0'


/-! #### struct type 47 -/
structure S47 where
  f0 : (List S71)
def z47 : S47 := ⟨([] : List S71)⟩
def k47 : Kd S47 := Kd.iso (Kd.slice 71 k71) (fun x : S47 => x.f0)
theorem k47_heap : Kd.Heap k47 := Kd.heap_iso _ (Kd.heap_slice 71 k71_heap)
theorem k47_open {w : World} {x : S47} {cs : List Value} (h : k47.K w x cs) : ∃ A0 c0, cs = [.slice A0 x.f0.length c0] ∧ x.f0.length ≤ c0 ∧ k71.C w A0 x.f0.length x.f0 := by
  obtain ⟨A0, c0, rfl, l0, g0⟩ := h
  exact ⟨A0, c0, rfl, l0, g0⟩
theorem k47_openM {w : World} {base : Nat} {ok : Nat → Prop} {x : S47} {cs : List Value} (h : k47.M w base ok x cs) : ∃ v0, cs = [v0] ∧ k71.R 71 w base ok v0 x.f0 := by
  obtain ⟨v0, rfl, g0⟩ := h
  exact ⟨v0, rfl, g0⟩
theorem k47_mk (w : World) (x : S47) {A0 : Option Addr} {c0 : Nat} (l0 : x.f0.length ≤ c0) (g0 : k71.C w A0 x.f0.length x.f0) : k47.K w x [.slice A0 x.f0.length c0] := ⟨A0, c0, rfl, l0, g0⟩
theorem k47_mkM (w : World) (base : Nat) (ok : Nat → Prop) (x : S47) {v0 : Value} (g0 : k71.R 71 w base ok v0 x.f0) : k47.M w base ok x [v0] := ⟨v0, rfl, g0⟩
theorem k47_openF {W : World} {ok : Nat → Prop} {x : S47} {cs : List Value} (h : Kd.FK k47 W ok x cs) : ∃ A0 c0, cs = [.slice A0 x.f0.length c0] ∧ x.f0.length ≤ c0 ∧ Kd.F k71 W ok A0 x.f0.length x.f0 := by
  obtain ⟨A0, c0, rfl, l0, _⟩ := k47_open (Kd.FK_now h)
  exact ⟨A0, c0, rfl, l0, (fun W' hW => by obtain ⟨A0_, c0_, he, l0_, g0_⟩ := k47_open (h W' hW); injection (Option.some.inj (show some (Value.slice A0 x.f0.length c0) = some (Value.slice A0_ x.f0.length c0_) from congrArg (fun l => l[0]?) he)) with ha_ _ _; rw [ha_]; exact g0_)⟩
theorem k47_mkF (W : World) (ok : Nat → Prop) (x : S47) {A0 : Option Addr} {c0 : Nat} (l0 : x.f0.length ≤ c0) (g0 : Kd.F k71 W ok A0 x.f0.length x.f0) : Kd.FK k47 W ok x [.slice A0 x.f0.length c0] := fun W2 hW => k47_mk W2 x l0 (g0 W2 hW)
def rd_T47 (xs : List S47) (i : Int) : S47 := xs.getD i.toNat z47
theorem at_T47 {w : World} {A : Option Addr} {n : Nat} {xs : List S47} (h : Kd.C k47 w A n xs) (i : Int) (h0 : 0 ≤ i) (h1 : i < n) : ∃ ad A0 c0, A = some ad ∧ w.cell? (ad.add i.toNat) = some (.slice A0 (rd_T47 xs i).f0.length c0) ∧ (rd_T47 xs i).f0.length ≤ c0 ∧ k71.C w A0 (rd_T47 xs i).f0.length (rd_T47 xs i).f0 := by
  obtain ⟨ad, c, e, _, hK, hc0⟩ := Kd.C_get h z47 i h0 h1
  have hc : ∀ j u, c[j]? = some u → w.cell? (ad.add (i.toNat * 1 + j)) = some u := hc0
  obtain ⟨A0, c0, rfl, l0, g0⟩ := k47_open hK
  exact ⟨ad, A0, c0, e, by have hq := hc 0 _ rfl; rwa [Nat.mul_one, Nat.add_zero] at hq, l0, g0⟩
theorem atF_T47 {w W : World} {g : Nat} {A : Option Addr} {n : Nat} {xs : List S47} (h : ∀ W', KeepBut w W' g none → Kd.C k47 W' A n xs) (hk : KeepBut w W g none) (i : Int) (h0 : 0 ≤ i) (h1 : i < n) : ∃ ad A0 c0, A = some ad ∧ W.cell? (ad.add i.toNat) = some (.slice A0 (rd_T47 xs i).f0.length c0) ∧ (rd_T47 xs i).f0.length ≤ c0 ∧ (∀ W', KeepBut w W' g none → k71.C W' A0 (rd_T47 xs i).f0.length (rd_T47 xs i).f0) := by
  obtain ⟨ad, A0, c0, e, hx0, l0, g0⟩ := at_T47 (h W hk) i h0 h1
  subst e
  refine ⟨ad, A0, c0, rfl, hx0, l0, fun W' hk' => ?_⟩
  · obtain ⟨ad', A0', c0', e', hx0', l0', g0'⟩ := at_T47 (h W' hk') i h0 h1
    cases e'
    have hq := foot_cell h (by omega) (by decide) hk hk' (a := (ad.add i.toNat)) (by first | (rw [add_block]) | (show (Addr.add _ _).block = _; rw [add_block]) | rfl)
    have ht := Option.some.inj (hx0'.symm.trans (hq.trans hx0))
    injection ht with ha_ _ _
    rw [← ha_]; exact g0'


/-! #### struct type 56 -/
structure S56 where
  f0 : Int
  f1 : Int
  f2 : Int
def z56 : S56 := ⟨(0 : Int), (0 : Int), (0 : Int)⟩
def k56 : Kd S56 := Kd.iso (Kd.pair (Kd.int .i64) (Kd.pair (Kd.int .i64) (Kd.int .i64))) (fun x : S56 => (x.f0, x.f1, x.f2))
theorem k56_heap : Kd.Heap k56 := Kd.heap_iso _ (Kd.heap_pair (Kd.heap_int .i64) (Kd.heap_pair (Kd.heap_int .i64) (Kd.heap_int .i64)))
theorem k56_open {w : World} {x : S56} {cs : List Value} (h : k56.K w x cs) : cs = [.int .i64 x.f0, .int .i64 x.f1, .int .i64 x.f2] := by
  obtain ⟨_, _, rfl, rfl, ⟨_, _, rfl, rfl, rfl⟩⟩ := h
  exact rfl
theorem k56_openM {w : World} {base : Nat} {ok : Nat → Prop} {x : S56} {cs : List Value} (h : k56.M w base ok x cs) : cs = [.int .i64 x.f0, .int .i64 x.f1, .int .i64 x.f2] := by
  obtain ⟨_, _, rfl, rfl, ⟨_, _, rfl, rfl, rfl⟩⟩ := h
  exact rfl
theorem k56_mk (w : World) (x : S56)  : k56.K w x [.int .i64 x.f0, .int .i64 x.f1, .int .i64 x.f2] := ⟨[.int .i64 x.f0], [.int .i64 x.f1, .int .i64 x.f2], rfl, rfl, ⟨[.int .i64 x.f1], [.int .i64 x.f2], rfl, rfl, rfl⟩⟩
theorem k56_mkM (w : World) (base : Nat) (ok : Nat → Prop) (x : S56)  : k56.M w base ok x [.int .i64 x.f0, .int .i64 x.f1, .int .i64 x.f2] := ⟨[.int .i64 x.f0], [.int .i64 x.f1, .int .i64 x.f2], rfl, rfl, ⟨[.int .i64 x.f1], [.int .i64 x.f2], rfl, rfl, rfl⟩⟩
theorem k56_mkF (W : World) (ok : Nat → Prop) (x : S56) : Kd.FK k56 W ok x [.int .i64 x.f0, .int .i64 x.f1, .int .i64 x.f2] := fun W2 _ => k56_mk W2 x
def rd_T56 (xs : List S56) (i : Int) : S56 := xs.getD i.toNat z56
theorem at_T56 {w : World} {A : Option Addr} {n : Nat} {xs : List S56} (h : Kd.C k56 w A n xs) (i : Int) (h0 : 0 ≤ i) (h1 : i < n) : ∃ ad , A = some ad ∧ w.cell? (ad.add (i.toNat * 3)) = some (.int .i64 (rd_T56 xs i).f0) ∧ w.cell? ⟨(ad.add (i.toNat * 3)).block, (ad.add (i.toNat * 3)).off + 1, none⟩ = some (.int .i64 (rd_T56 xs i).f1) ∧ w.cell? ⟨(ad.add (i.toNat * 3)).block, (ad.add (i.toNat * 3)).off + 2, none⟩ = some (.int .i64 (rd_T56 xs i).f2) := by
  obtain ⟨ad, c, e, _, hK, hc0⟩ := Kd.C_get h z56 i h0 h1
  have hc : ∀ j u, c[j]? = some u → w.cell? (ad.add (i.toNat * 3 + j)) = some u := hc0
  obtain rfl := k56_open hK
  exact ⟨ad, e, hc 0 _ rfl, by rw [← add_field _ _ 1 (by omega)]; exact hc 1 _ rfl, by rw [← add_field _ _ 2 (by omega)]; exact hc 2 _ rfl⟩

theorem cl0 {p : Prop} (h : p := by repeat (first | (with_reducible first | exact HB.out | apply below_alloc | apply pw_below_drewN | apply below_drew1 | refine below_set ?_ (Aside0.out (by assumption))) | exact HB.out)) : p := h
theorem cl1 {p : Prop} (h : p := by repeat (first | (with_reducible first | exact HI0.out | apply IsS62.alloc | apply IsS62.drewN | apply IsS62.drew | apply IsS62.set_1 | refine IsS62.far ?_ (Aside0.out (by assumption)) _) | exact HI0.out)) : p := h
theorem cl2 {p : Prop} (h : p := by repeat (first | (with_reducible first | exact HK.out | apply KeepBut.set_ | apply keep_drewN | apply keep_drew | apply keep_alloc | refine keep_far ?_ (Aside0.out (by assumption)) _) | exact HK.out)) : p := h
theorem cl3 {p : Prop} (h : p := by repeat (first | (with_reducible first | exact HB.out | apply below_alloc | apply pw_below_drewN | apply below_drew1 | refine below_set ?_ (IsS62.ge HI0.out) | refine below_set ?_ (Aside0.out (by assumption))) | exact HB.out)) : p := h
theorem cl4 {p : Prop} (h : p := by repeat (first | (with_reducible first | exact HB.out | apply below_alloc | apply pw_below_drewN | apply below_drew1) | exact HB.out)) : p := h
theorem cl5 {p : Prop} (h : p := by repeat (first | (with_reducible first | exact HI506.out | apply IsS62.alloc | apply IsS62.drewN | apply IsS62.drew | apply IsS62.set_1 | refine IsS62.far ?_ (Aside0.out (by assumption)) _) | exact HI506.out)) : p := h
theorem cl6 {p : Prop} (h : p := by repeat (first | (with_reducible first | exact HB.out | apply below_alloc | apply pw_below_drewN | apply below_drew1 | refine below_set ?_ (IsS62.ge HI506.out) | refine below_set ?_ (Aside0.out (by assumption))) | exact HB.out)) : p := h
theorem cl7 {p : Prop} (h : p := by repeat (first | (with_reducible first | exact HB.out | apply below_alloc | apply pw_below_drewN | apply below_drew1 | refine below_set ?_ (IsS62.ge HI0.out)) | exact HB.out)) : p := h
theorem cl8 {p : Prop} (h : p := by repeat (first | (with_reducible first | exact HI0.out | apply IsS62.alloc | apply IsS62.drewN | apply IsS62.drew | apply IsS62.set_1) | exact HI0.out)) : p := h
theorem cl9 {p : Prop} (h : p := by repeat (first | (with_reducible first | exact HK.out | apply KeepBut.set_ | apply keep_drewN | apply keep_drew | apply keep_alloc) | exact HK.out)) : p := h
end Go.Proofs.Ytphndccgadblnaa.QLeadersAnswers
