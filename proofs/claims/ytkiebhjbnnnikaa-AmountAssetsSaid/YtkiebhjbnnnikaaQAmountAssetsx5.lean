/- Lean functions that answer as the Go functions do which the law reaches, and proofs that the Go code comes to exactly these answers. Conditions: those that each theorem names. -/
import Derived.Test.YtkiebhjbnnnikaaQAmountAssetsx0
import Derived.Test.YtkiebhjbnnnikaaQAmountAssetsx1
import Derived.Test.YtkiebhjbnnnikaaQAmountAssetsx2
import Derived.Test.YtkiebhjbnnnikaaQAmountAssetsx3
import Derived.Test.YtkiebhjbnnnikaaQAmountAssetsx4
namespace Go.Proofs.Ytkiebhjbnnnikaa.QAmountAssets
open Go.RowKit Go.Proofs.YtkiebhjbnnnikaaW.PrintWords Go.Proofs.YtkiebhjbnnnikaaW.PrintLast Go.Proofs.YtkiebhjbnnnikaaW.PrintMore
attribute [local go_sem] max2_int min2_int max_two min_two max_three min_three max_four min_four   -- for this text's walks alone
set_option linter.unusedVariables false
set_option linter.unusedSimpArgs false

attribute [local go_sem high] eqA38
/-! ### trustquorumlaw35_AmountAssets: function 6 -/
def trustquorumlaw35_AmountAssets.j0 : Nat → Bool → ByteArray → Int → Option (Bool)
  | 0, _, _, _ => none
  | k + 1, x55, x175000, x175001 => if x55 = true then (some false) else ((amount_Asset.f x175000 x175001).bind fun t197 => (if t197 = true then ((amount_Less.f k x175000 x175001 (⟨#[]⟩ : ByteArray) 0).bind fun t198 => (if t198 = true then (some false) else ((amount_Native.f x175000 x175001).bind fun t199 => (if (t199 == (x175000.toList == ([] : List UInt8) && (x175001 == 0))) = true then ((amount_Asset.f (⟨#[88, 65, 85]⟩ : ByteArray) 9).bind fun t200 => (if t200 = true then ((amount_Asset.f (⟨#[88, 65, 85]⟩ : ByteArray) 0).bind fun t201 => (if t201 = true then (some false) else ((trustquorumlaw35_sane.f k).bind fun t202 => (some t202)))) else (some false))) else (some false))))) else (some false)))
def trustquorumlaw35_AmountAssets.f (k : Nat) (l0 : List Int) : Option (Bool) := (trustquorumplay_New.f l0).bind fun bt162 => ((trustquorumplay_Src_Asset.f bt162.1 bt162.2).bind fun bt165 => ((trustquorumplay_Src_Asset.f bt162.1 bt165.2.2).bind fun bt168 => ((trustquorumplay_Src_Asset.f bt162.1 bt168.2.2).bind fun bt171 => ((amount_Less.f k bt165.1 bt165.2.1 bt168.1 bt168.2.1).bind fun t177 => (if t177 = true then ((amount_Less.f k bt168.1 bt168.2.1 bt165.1 bt165.2.1).bind fun t178 => (if t178 = true then (trustquorumlaw35_AmountAssets.j0 k true bt165.1 bt165.2.1) else ((amount_Less.f k bt165.1 bt165.2.1 bt168.1 bt168.2.1).bind fun t179 => (if t179 = true then ((amount_Less.f k bt168.1 bt168.2.1 bt171.1 bt171.2.1).bind fun t180 => (if t180 = true then ((amount_Less.f k bt165.1 bt165.2.1 bt171.1 bt171.2.1).bind fun t181 => (if t181 = true then ((amount_Less.f k bt165.1 bt165.2.1 bt168.1 bt168.2.1).bind fun t182 => (if t182 = true then (trustquorumlaw35_AmountAssets.j0 k false bt165.1 bt165.2.1) else ((amount_Less.f k bt168.1 bt168.2.1 bt165.1 bt165.2.1).bind fun t183 => (if t183 = true then (trustquorumlaw35_AmountAssets.j0 k false bt165.1 bt165.2.1) else (trustquorumlaw35_AmountAssets.j0 k (!(bt165.1.toList == bt168.1.toList) || (!(bt165.2.1 == bt168.2.1))) bt165.1 bt165.2.1))))) else (trustquorumlaw35_AmountAssets.j0 k true bt165.1 bt165.2.1))) else ((amount_Less.f k bt165.1 bt165.2.1 bt168.1 bt168.2.1).bind fun t184 => (if t184 = true then (trustquorumlaw35_AmountAssets.j0 k false bt165.1 bt165.2.1) else ((amount_Less.f k bt168.1 bt168.2.1 bt165.1 bt165.2.1).bind fun t185 => (if t185 = true then (trustquorumlaw35_AmountAssets.j0 k false bt165.1 bt165.2.1) else (trustquorumlaw35_AmountAssets.j0 k (!(bt165.1.toList == bt168.1.toList) || (!(bt165.2.1 == bt168.2.1))) bt165.1 bt165.2.1))))))) else ((amount_Less.f k bt165.1 bt165.2.1 bt168.1 bt168.2.1).bind fun t186 => (if t186 = true then (trustquorumlaw35_AmountAssets.j0 k false bt165.1 bt165.2.1) else ((amount_Less.f k bt168.1 bt168.2.1 bt165.1 bt165.2.1).bind fun t187 => (if t187 = true then (trustquorumlaw35_AmountAssets.j0 k false bt165.1 bt165.2.1) else (trustquorumlaw35_AmountAssets.j0 k (!(bt165.1.toList == bt168.1.toList) || (!(bt165.2.1 == bt168.2.1))) bt165.1 bt165.2.1))))))))) else ((amount_Less.f k bt165.1 bt165.2.1 bt168.1 bt168.2.1).bind fun t188 => (if t188 = true then ((amount_Less.f k bt168.1 bt168.2.1 bt171.1 bt171.2.1).bind fun t189 => (if t189 = true then ((amount_Less.f k bt165.1 bt165.2.1 bt171.1 bt171.2.1).bind fun t190 => (if t190 = true then ((amount_Less.f k bt165.1 bt165.2.1 bt168.1 bt168.2.1).bind fun t191 => (if t191 = true then (trustquorumlaw35_AmountAssets.j0 k false bt165.1 bt165.2.1) else ((amount_Less.f k bt168.1 bt168.2.1 bt165.1 bt165.2.1).bind fun t192 => (if t192 = true then (trustquorumlaw35_AmountAssets.j0 k false bt165.1 bt165.2.1) else (trustquorumlaw35_AmountAssets.j0 k (!(bt165.1.toList == bt168.1.toList) || (!(bt165.2.1 == bt168.2.1))) bt165.1 bt165.2.1))))) else (trustquorumlaw35_AmountAssets.j0 k true bt165.1 bt165.2.1))) else ((amount_Less.f k bt165.1 bt165.2.1 bt168.1 bt168.2.1).bind fun t193 => (if t193 = true then (trustquorumlaw35_AmountAssets.j0 k false bt165.1 bt165.2.1) else ((amount_Less.f k bt168.1 bt168.2.1 bt165.1 bt165.2.1).bind fun t194 => (if t194 = true then (trustquorumlaw35_AmountAssets.j0 k false bt165.1 bt165.2.1) else (trustquorumlaw35_AmountAssets.j0 k (!(bt165.1.toList == bt168.1.toList) || (!(bt165.2.1 == bt168.2.1))) bt165.1 bt165.2.1))))))) else ((amount_Less.f k bt165.1 bt165.2.1 bt168.1 bt168.2.1).bind fun t195 => (if t195 = true then (trustquorumlaw35_AmountAssets.j0 k false bt165.1 bt165.2.1) else ((amount_Less.f k bt168.1 bt168.2.1 bt165.1 bt165.2.1).bind fun t196 => (if t196 = true then (trustquorumlaw35_AmountAssets.j0 k false bt165.1 bt165.2.1) else (trustquorumlaw35_AmountAssets.j0 k (!(bt165.1.toList == bt168.1.toList) || (!(bt165.2.1 == bt168.2.1))) bt165.1 bt165.2.1))))))))))))
theorem trustquorumlaw35_AmountAssets.mono_l : ∀ k, (∀ y0 y1 y2, LeO (trustquorumlaw35_AmountAssets.j0 k y0 y1 y2) (trustquorumlaw35_AmountAssets.j0 (k + 1) y0 y1 y2))
  | 0 => fun _ _ _ r h => by simp [trustquorumlaw35_AmountAssets.j0] at h
  | k + 1 => by
    have ih0 := trustquorumlaw35_AmountAssets.mono_l k
    · intro y0 y1 y2
      unfold trustquorumlaw35_AmountAssets.j0
      repeat' first
      | (with_reducible exact ih0 _ _ _)
      | (with_reducible exact amount_Less.mono _ _ _ _ _)
      | (with_reducible exact trustquorumlaw35_sane.mono _)
      | (with_reducible exact LeO.refl _)
      | (with_reducible exact LeO.none _)
      | (with_reducible refine LeO.ite ?_ ?_)
      | (with_reducible refine LeO.bind ?_ (fun _ => ?_))
      | exact ih0 _ _ _
      | exact amount_Less.mono _ _ _ _ _
      | exact trustquorumlaw35_sane.mono _
      | exact LeO.none _
      | refine LeO.ite ?_ ?_
      | refine LeO.bind ?_ (fun _ => ?_)
theorem trustquorumlaw35_AmountAssets.mono : ∀ a0 k, LeO (trustquorumlaw35_AmountAssets.f k a0) (trustquorumlaw35_AmountAssets.f (k + 1) a0) := by
  intro a0 k
  have ih0 := trustquorumlaw35_AmountAssets.mono_l k
  unfold trustquorumlaw35_AmountAssets.f
  repeat' first
      | (with_reducible exact ih0 _ _ _)
      | (with_reducible exact amount_Less.mono _ _ _ _ _)
      | (with_reducible exact trustquorumlaw35_sane.mono _)
      | (with_reducible exact LeO.refl _)
      | (with_reducible exact LeO.none _)
      | (with_reducible refine LeO.ite ?_ ?_)
      | (with_reducible refine LeO.bind ?_ (fun _ => ?_))
      | exact ih0 _ _ _
      | exact amount_Less.mono _ _ _ _ _
      | exact trustquorumlaw35_sane.mono _
      | exact LeO.none _
      | refine LeO.ite ?_ ?_
      | refine LeO.bind ?_ (fun _ => ?_)
def trustquorumlaw35_AmountAssets.T5 : Bool × List (List Nat × List Nat) := (true, [([], []), ([0], [0]), ([1, 1], [1]), ([2], [2]), ([2], [2]), ([3, 4, 2, 2], [2, 3, 4]), ([5, 2], [2, 5]), ([2, 6], [2, 6]), ([7, 5], [7]), ([8], [8]), ([9, 8, 8], [8, 9]), ([8], [8]), ([8], [8]), ([11, 12, 8], [8, 11, 12]), ([10, 13, 8], [8, 10, 13]), ([8, 14], [8, 14]), ([15, 10], [15]), ([16], [16]), ([17, 16, 16], [16, 17]), ([16, 18], [16, 18]), ([19, 18], [19]), ([20], [20]), ([21, 20, 20], [20, 21]), ([22, 20], [20, 22]), ([20, 23], [20, 23]), ([24, 22], [24]), ([25, 25], [25]), ([25, 26], [25, 26]), ([27, 26, 0, 1, 2, 3, 4, 5, 6, 7, 8, 9, 10, 11, 12, 13, 14, 15, 16, 17, 18, 19, 20, 21, 22, 23, 24, 25, 26, 27], [27])])
def trustquorumlaw35_AmountAssets.B5 : List Nat := [0, 1, 3, 7, 7, 31, 63, 127, 255, 511, 1023, 511, 511, 6655, 16383, 32767, 65535, 131071, 262143, 524287, 1048575, 2097151, 4194303, 8388607, 16777215, 33554431, 67108863, 134217727, 268435455]
theorem trustquorumlaw35_AmountAssets.tab5 : rtab .any (opsOf Try.f6 5) = trustquorumlaw35_AmountAssets.T5 := by kernel_rfl
theorem trustquorumlaw35_AmountAssets.bits5 : waitsOk trustquorumlaw35_AmountAssets.T5.2 trustquorumlaw35_AmountAssets.B5 = true := by kernel_rfl
set_option maxHeartbeats 8000000 in
set_option maxRecDepth 100000 in
theorem trustquorumlaw35_AmountAssets.calls (k : Nat) (A0 : Option Addr) (c0 : Nat) (l0 : List Int) (r : Bool) (w : World) (hr0 : Kd.C (Kd.int .i64) w A0 l0.length l0) (hc0 : l0.length ≤ c0) (HRT : Aside0 (r = true)) (h : trustquorumlaw35_AmountAssets.f k l0 = some r) :
    Calls Try.prog 6 #[.slice A0 l0.length c0] w fun e w' => e = .returned (.bool r) ∧ Below w.heap.size w w' := by
  have hu38 := Try.underlying38
  have HR0 := Aside0.mk hr0
  have HC0 := Aside0.mk hc0
  clear hr0 hc0
  have HB := Aside0.mk (Below.refl w.heap.size w)
  have H : ((trustquorumplay_New.f l0).bind fun bt162 => ((trustquorumplay_Src_Asset.f bt162.1 bt162.2).bind fun bt165 => ((trustquorumplay_Src_Asset.f bt162.1 bt165.2.2).bind fun bt168 => ((trustquorumplay_Src_Asset.f bt162.1 bt168.2.2).bind fun bt171 => ((amount_Less.f k bt165.1 bt165.2.1 bt168.1 bt168.2.1).bind fun t177 => (if t177 = true then ((amount_Less.f k bt168.1 bt168.2.1 bt165.1 bt165.2.1).bind fun t178 => (if t178 = true then (trustquorumlaw35_AmountAssets.j0 k true bt165.1 bt165.2.1) else ((amount_Less.f k bt165.1 bt165.2.1 bt168.1 bt168.2.1).bind fun t179 => (if t179 = true then ((amount_Less.f k bt168.1 bt168.2.1 bt171.1 bt171.2.1).bind fun t180 => (if t180 = true then ((amount_Less.f k bt165.1 bt165.2.1 bt171.1 bt171.2.1).bind fun t181 => (if t181 = true then ((amount_Less.f k bt165.1 bt165.2.1 bt168.1 bt168.2.1).bind fun t182 => (if t182 = true then (trustquorumlaw35_AmountAssets.j0 k false bt165.1 bt165.2.1) else ((amount_Less.f k bt168.1 bt168.2.1 bt165.1 bt165.2.1).bind fun t183 => (if t183 = true then (trustquorumlaw35_AmountAssets.j0 k false bt165.1 bt165.2.1) else (trustquorumlaw35_AmountAssets.j0 k (!(bt165.1.toList == bt168.1.toList) || (!(bt165.2.1 == bt168.2.1))) bt165.1 bt165.2.1))))) else (trustquorumlaw35_AmountAssets.j0 k true bt165.1 bt165.2.1))) else ((amount_Less.f k bt165.1 bt165.2.1 bt168.1 bt168.2.1).bind fun t184 => (if t184 = true then (trustquorumlaw35_AmountAssets.j0 k false bt165.1 bt165.2.1) else ((amount_Less.f k bt168.1 bt168.2.1 bt165.1 bt165.2.1).bind fun t185 => (if t185 = true then (trustquorumlaw35_AmountAssets.j0 k false bt165.1 bt165.2.1) else (trustquorumlaw35_AmountAssets.j0 k (!(bt165.1.toList == bt168.1.toList) || (!(bt165.2.1 == bt168.2.1))) bt165.1 bt165.2.1))))))) else ((amount_Less.f k bt165.1 bt165.2.1 bt168.1 bt168.2.1).bind fun t186 => (if t186 = true then (trustquorumlaw35_AmountAssets.j0 k false bt165.1 bt165.2.1) else ((amount_Less.f k bt168.1 bt168.2.1 bt165.1 bt165.2.1).bind fun t187 => (if t187 = true then (trustquorumlaw35_AmountAssets.j0 k false bt165.1 bt165.2.1) else (trustquorumlaw35_AmountAssets.j0 k (!(bt165.1.toList == bt168.1.toList) || (!(bt165.2.1 == bt168.2.1))) bt165.1 bt165.2.1))))))))) else ((amount_Less.f k bt165.1 bt165.2.1 bt168.1 bt168.2.1).bind fun t188 => (if t188 = true then ((amount_Less.f k bt168.1 bt168.2.1 bt171.1 bt171.2.1).bind fun t189 => (if t189 = true then ((amount_Less.f k bt165.1 bt165.2.1 bt171.1 bt171.2.1).bind fun t190 => (if t190 = true then ((amount_Less.f k bt165.1 bt165.2.1 bt168.1 bt168.2.1).bind fun t191 => (if t191 = true then (trustquorumlaw35_AmountAssets.j0 k false bt165.1 bt165.2.1) else ((amount_Less.f k bt168.1 bt168.2.1 bt165.1 bt165.2.1).bind fun t192 => (if t192 = true then (trustquorumlaw35_AmountAssets.j0 k false bt165.1 bt165.2.1) else (trustquorumlaw35_AmountAssets.j0 k (!(bt165.1.toList == bt168.1.toList) || (!(bt165.2.1 == bt168.2.1))) bt165.1 bt165.2.1))))) else (trustquorumlaw35_AmountAssets.j0 k true bt165.1 bt165.2.1))) else ((amount_Less.f k bt165.1 bt165.2.1 bt168.1 bt168.2.1).bind fun t193 => (if t193 = true then (trustquorumlaw35_AmountAssets.j0 k false bt165.1 bt165.2.1) else ((amount_Less.f k bt168.1 bt168.2.1 bt165.1 bt165.2.1).bind fun t194 => (if t194 = true then (trustquorumlaw35_AmountAssets.j0 k false bt165.1 bt165.2.1) else (trustquorumlaw35_AmountAssets.j0 k (!(bt165.1.toList == bt168.1.toList) || (!(bt165.2.1 == bt168.2.1))) bt165.1 bt165.2.1))))))) else ((amount_Less.f k bt165.1 bt165.2.1 bt168.1 bt168.2.1).bind fun t195 => (if t195 = true then (trustquorumlaw35_AmountAssets.j0 k false bt165.1 bt165.2.1) else ((amount_Less.f k bt168.1 bt168.2.1 bt165.1 bt165.2.1).bind fun t196 => (if t196 = true then (trustquorumlaw35_AmountAssets.j0 k false bt165.1 bt165.2.1) else (trustquorumlaw35_AmountAssets.j0 k (!(bt165.1.toList == bt168.1.toList) || (!(bt165.2.1 == bt168.2.1))) bt165.1 bt165.2.1))))))))))))) = some r := h
  clear h
  replace H := Option.bind_eq_some_iff.mp H
  obtain ⟨⟨t162, t163⟩, A20, H⟩ := H
  replace H : ((trustquorumplay_Src_Asset.f t162 t163).bind fun bt165 => ((trustquorumplay_Src_Asset.f t162 bt165.2.2).bind fun bt168 => ((trustquorumplay_Src_Asset.f t162 bt168.2.2).bind fun bt171 => ((amount_Less.f k bt165.1 bt165.2.1 bt168.1 bt168.2.1).bind fun t177 => (if t177 = true then ((amount_Less.f k bt168.1 bt168.2.1 bt165.1 bt165.2.1).bind fun t178 => (if t178 = true then (trustquorumlaw35_AmountAssets.j0 k true bt165.1 bt165.2.1) else ((amount_Less.f k bt165.1 bt165.2.1 bt168.1 bt168.2.1).bind fun t179 => (if t179 = true then ((amount_Less.f k bt168.1 bt168.2.1 bt171.1 bt171.2.1).bind fun t180 => (if t180 = true then ((amount_Less.f k bt165.1 bt165.2.1 bt171.1 bt171.2.1).bind fun t181 => (if t181 = true then ((amount_Less.f k bt165.1 bt165.2.1 bt168.1 bt168.2.1).bind fun t182 => (if t182 = true then (trustquorumlaw35_AmountAssets.j0 k false bt165.1 bt165.2.1) else ((amount_Less.f k bt168.1 bt168.2.1 bt165.1 bt165.2.1).bind fun t183 => (if t183 = true then (trustquorumlaw35_AmountAssets.j0 k false bt165.1 bt165.2.1) else (trustquorumlaw35_AmountAssets.j0 k (!(bt165.1.toList == bt168.1.toList) || (!(bt165.2.1 == bt168.2.1))) bt165.1 bt165.2.1))))) else (trustquorumlaw35_AmountAssets.j0 k true bt165.1 bt165.2.1))) else ((amount_Less.f k bt165.1 bt165.2.1 bt168.1 bt168.2.1).bind fun t184 => (if t184 = true then (trustquorumlaw35_AmountAssets.j0 k false bt165.1 bt165.2.1) else ((amount_Less.f k bt168.1 bt168.2.1 bt165.1 bt165.2.1).bind fun t185 => (if t185 = true then (trustquorumlaw35_AmountAssets.j0 k false bt165.1 bt165.2.1) else (trustquorumlaw35_AmountAssets.j0 k (!(bt165.1.toList == bt168.1.toList) || (!(bt165.2.1 == bt168.2.1))) bt165.1 bt165.2.1))))))) else ((amount_Less.f k bt165.1 bt165.2.1 bt168.1 bt168.2.1).bind fun t186 => (if t186 = true then (trustquorumlaw35_AmountAssets.j0 k false bt165.1 bt165.2.1) else ((amount_Less.f k bt168.1 bt168.2.1 bt165.1 bt165.2.1).bind fun t187 => (if t187 = true then (trustquorumlaw35_AmountAssets.j0 k false bt165.1 bt165.2.1) else (trustquorumlaw35_AmountAssets.j0 k (!(bt165.1.toList == bt168.1.toList) || (!(bt165.2.1 == bt168.2.1))) bt165.1 bt165.2.1))))))))) else ((amount_Less.f k bt165.1 bt165.2.1 bt168.1 bt168.2.1).bind fun t188 => (if t188 = true then ((amount_Less.f k bt168.1 bt168.2.1 bt171.1 bt171.2.1).bind fun t189 => (if t189 = true then ((amount_Less.f k bt165.1 bt165.2.1 bt171.1 bt171.2.1).bind fun t190 => (if t190 = true then ((amount_Less.f k bt165.1 bt165.2.1 bt168.1 bt168.2.1).bind fun t191 => (if t191 = true then (trustquorumlaw35_AmountAssets.j0 k false bt165.1 bt165.2.1) else ((amount_Less.f k bt168.1 bt168.2.1 bt165.1 bt165.2.1).bind fun t192 => (if t192 = true then (trustquorumlaw35_AmountAssets.j0 k false bt165.1 bt165.2.1) else (trustquorumlaw35_AmountAssets.j0 k (!(bt165.1.toList == bt168.1.toList) || (!(bt165.2.1 == bt168.2.1))) bt165.1 bt165.2.1))))) else (trustquorumlaw35_AmountAssets.j0 k true bt165.1 bt165.2.1))) else ((amount_Less.f k bt165.1 bt165.2.1 bt168.1 bt168.2.1).bind fun t193 => (if t193 = true then (trustquorumlaw35_AmountAssets.j0 k false bt165.1 bt165.2.1) else ((amount_Less.f k bt168.1 bt168.2.1 bt165.1 bt165.2.1).bind fun t194 => (if t194 = true then (trustquorumlaw35_AmountAssets.j0 k false bt165.1 bt165.2.1) else (trustquorumlaw35_AmountAssets.j0 k (!(bt165.1.toList == bt168.1.toList) || (!(bt165.2.1 == bt168.2.1))) bt165.1 bt165.2.1))))))) else ((amount_Less.f k bt165.1 bt165.2.1 bt168.1 bt168.2.1).bind fun t195 => (if t195 = true then (trustquorumlaw35_AmountAssets.j0 k false bt165.1 bt165.2.1) else ((amount_Less.f k bt168.1 bt168.2.1 bt165.1 bt165.2.1).bind fun t196 => (if t196 = true then (trustquorumlaw35_AmountAssets.j0 k false bt165.1 bt165.2.1) else (trustquorumlaw35_AmountAssets.j0 k (!(bt165.1.toList == bt168.1.toList) || (!(bt165.2.1 == bt168.2.1))) bt165.1 bt165.2.1)))))))))))) = some r := H
  have A2 := Aside0.mk A20
  clear A20
  replace H := Option.bind_eq_some_iff.mp H
  obtain ⟨⟨t165, t166, t167⟩, A30, H⟩ := H
  replace H : ((trustquorumplay_Src_Asset.f t162 t167).bind fun bt168 => ((trustquorumplay_Src_Asset.f t162 bt168.2.2).bind fun bt171 => ((amount_Less.f k t165 t166 bt168.1 bt168.2.1).bind fun t177 => (if t177 = true then ((amount_Less.f k bt168.1 bt168.2.1 t165 t166).bind fun t178 => (if t178 = true then (trustquorumlaw35_AmountAssets.j0 k true t165 t166) else ((amount_Less.f k t165 t166 bt168.1 bt168.2.1).bind fun t179 => (if t179 = true then ((amount_Less.f k bt168.1 bt168.2.1 bt171.1 bt171.2.1).bind fun t180 => (if t180 = true then ((amount_Less.f k t165 t166 bt171.1 bt171.2.1).bind fun t181 => (if t181 = true then ((amount_Less.f k t165 t166 bt168.1 bt168.2.1).bind fun t182 => (if t182 = true then (trustquorumlaw35_AmountAssets.j0 k false t165 t166) else ((amount_Less.f k bt168.1 bt168.2.1 t165 t166).bind fun t183 => (if t183 = true then (trustquorumlaw35_AmountAssets.j0 k false t165 t166) else (trustquorumlaw35_AmountAssets.j0 k (!(t165.toList == bt168.1.toList) || (!(t166 == bt168.2.1))) t165 t166))))) else (trustquorumlaw35_AmountAssets.j0 k true t165 t166))) else ((amount_Less.f k t165 t166 bt168.1 bt168.2.1).bind fun t184 => (if t184 = true then (trustquorumlaw35_AmountAssets.j0 k false t165 t166) else ((amount_Less.f k bt168.1 bt168.2.1 t165 t166).bind fun t185 => (if t185 = true then (trustquorumlaw35_AmountAssets.j0 k false t165 t166) else (trustquorumlaw35_AmountAssets.j0 k (!(t165.toList == bt168.1.toList) || (!(t166 == bt168.2.1))) t165 t166))))))) else ((amount_Less.f k t165 t166 bt168.1 bt168.2.1).bind fun t186 => (if t186 = true then (trustquorumlaw35_AmountAssets.j0 k false t165 t166) else ((amount_Less.f k bt168.1 bt168.2.1 t165 t166).bind fun t187 => (if t187 = true then (trustquorumlaw35_AmountAssets.j0 k false t165 t166) else (trustquorumlaw35_AmountAssets.j0 k (!(t165.toList == bt168.1.toList) || (!(t166 == bt168.2.1))) t165 t166))))))))) else ((amount_Less.f k t165 t166 bt168.1 bt168.2.1).bind fun t188 => (if t188 = true then ((amount_Less.f k bt168.1 bt168.2.1 bt171.1 bt171.2.1).bind fun t189 => (if t189 = true then ((amount_Less.f k t165 t166 bt171.1 bt171.2.1).bind fun t190 => (if t190 = true then ((amount_Less.f k t165 t166 bt168.1 bt168.2.1).bind fun t191 => (if t191 = true then (trustquorumlaw35_AmountAssets.j0 k false t165 t166) else ((amount_Less.f k bt168.1 bt168.2.1 t165 t166).bind fun t192 => (if t192 = true then (trustquorumlaw35_AmountAssets.j0 k false t165 t166) else (trustquorumlaw35_AmountAssets.j0 k (!(t165.toList == bt168.1.toList) || (!(t166 == bt168.2.1))) t165 t166))))) else (trustquorumlaw35_AmountAssets.j0 k true t165 t166))) else ((amount_Less.f k t165 t166 bt168.1 bt168.2.1).bind fun t193 => (if t193 = true then (trustquorumlaw35_AmountAssets.j0 k false t165 t166) else ((amount_Less.f k bt168.1 bt168.2.1 t165 t166).bind fun t194 => (if t194 = true then (trustquorumlaw35_AmountAssets.j0 k false t165 t166) else (trustquorumlaw35_AmountAssets.j0 k (!(t165.toList == bt168.1.toList) || (!(t166 == bt168.2.1))) t165 t166))))))) else ((amount_Less.f k t165 t166 bt168.1 bt168.2.1).bind fun t195 => (if t195 = true then (trustquorumlaw35_AmountAssets.j0 k false t165 t166) else ((amount_Less.f k bt168.1 bt168.2.1 t165 t166).bind fun t196 => (if t196 = true then (trustquorumlaw35_AmountAssets.j0 k false t165 t166) else (trustquorumlaw35_AmountAssets.j0 k (!(t165.toList == bt168.1.toList) || (!(t166 == bt168.2.1))) t165 t166))))))))))) = some r := H
  have A3 := Aside0.mk A30
  clear A30
  replace H := Option.bind_eq_some_iff.mp H
  obtain ⟨⟨t168, t169, t170⟩, A40, H⟩ := H
  replace H : ((trustquorumplay_Src_Asset.f t162 t170).bind fun bt171 => ((amount_Less.f k t165 t166 t168 t169).bind fun t177 => (if t177 = true then ((amount_Less.f k t168 t169 t165 t166).bind fun t178 => (if t178 = true then (trustquorumlaw35_AmountAssets.j0 k true t165 t166) else ((amount_Less.f k t165 t166 t168 t169).bind fun t179 => (if t179 = true then ((amount_Less.f k t168 t169 bt171.1 bt171.2.1).bind fun t180 => (if t180 = true then ((amount_Less.f k t165 t166 bt171.1 bt171.2.1).bind fun t181 => (if t181 = true then ((amount_Less.f k t165 t166 t168 t169).bind fun t182 => (if t182 = true then (trustquorumlaw35_AmountAssets.j0 k false t165 t166) else ((amount_Less.f k t168 t169 t165 t166).bind fun t183 => (if t183 = true then (trustquorumlaw35_AmountAssets.j0 k false t165 t166) else (trustquorumlaw35_AmountAssets.j0 k (!(t165.toList == t168.toList) || (!(t166 == t169))) t165 t166))))) else (trustquorumlaw35_AmountAssets.j0 k true t165 t166))) else ((amount_Less.f k t165 t166 t168 t169).bind fun t184 => (if t184 = true then (trustquorumlaw35_AmountAssets.j0 k false t165 t166) else ((amount_Less.f k t168 t169 t165 t166).bind fun t185 => (if t185 = true then (trustquorumlaw35_AmountAssets.j0 k false t165 t166) else (trustquorumlaw35_AmountAssets.j0 k (!(t165.toList == t168.toList) || (!(t166 == t169))) t165 t166))))))) else ((amount_Less.f k t165 t166 t168 t169).bind fun t186 => (if t186 = true then (trustquorumlaw35_AmountAssets.j0 k false t165 t166) else ((amount_Less.f k t168 t169 t165 t166).bind fun t187 => (if t187 = true then (trustquorumlaw35_AmountAssets.j0 k false t165 t166) else (trustquorumlaw35_AmountAssets.j0 k (!(t165.toList == t168.toList) || (!(t166 == t169))) t165 t166))))))))) else ((amount_Less.f k t165 t166 t168 t169).bind fun t188 => (if t188 = true then ((amount_Less.f k t168 t169 bt171.1 bt171.2.1).bind fun t189 => (if t189 = true then ((amount_Less.f k t165 t166 bt171.1 bt171.2.1).bind fun t190 => (if t190 = true then ((amount_Less.f k t165 t166 t168 t169).bind fun t191 => (if t191 = true then (trustquorumlaw35_AmountAssets.j0 k false t165 t166) else ((amount_Less.f k t168 t169 t165 t166).bind fun t192 => (if t192 = true then (trustquorumlaw35_AmountAssets.j0 k false t165 t166) else (trustquorumlaw35_AmountAssets.j0 k (!(t165.toList == t168.toList) || (!(t166 == t169))) t165 t166))))) else (trustquorumlaw35_AmountAssets.j0 k true t165 t166))) else ((amount_Less.f k t165 t166 t168 t169).bind fun t193 => (if t193 = true then (trustquorumlaw35_AmountAssets.j0 k false t165 t166) else ((amount_Less.f k t168 t169 t165 t166).bind fun t194 => (if t194 = true then (trustquorumlaw35_AmountAssets.j0 k false t165 t166) else (trustquorumlaw35_AmountAssets.j0 k (!(t165.toList == t168.toList) || (!(t166 == t169))) t165 t166))))))) else ((amount_Less.f k t165 t166 t168 t169).bind fun t195 => (if t195 = true then (trustquorumlaw35_AmountAssets.j0 k false t165 t166) else ((amount_Less.f k t168 t169 t165 t166).bind fun t196 => (if t196 = true then (trustquorumlaw35_AmountAssets.j0 k false t165 t166) else (trustquorumlaw35_AmountAssets.j0 k (!(t165.toList == t168.toList) || (!(t166 == t169))) t165 t166)))))))))) = some r := H
  have A4 := Aside0.mk A40
  clear A40
  replace H := Option.bind_eq_some_iff.mp H
  obtain ⟨⟨t171, t172, t173⟩, A50, H⟩ := H
  replace H : ((amount_Less.f k t165 t166 t168 t169).bind fun t177 => (if t177 = true then ((amount_Less.f k t168 t169 t165 t166).bind fun t178 => (if t178 = true then (trustquorumlaw35_AmountAssets.j0 k true t165 t166) else ((amount_Less.f k t165 t166 t168 t169).bind fun t179 => (if t179 = true then ((amount_Less.f k t168 t169 t171 t172).bind fun t180 => (if t180 = true then ((amount_Less.f k t165 t166 t171 t172).bind fun t181 => (if t181 = true then ((amount_Less.f k t165 t166 t168 t169).bind fun t182 => (if t182 = true then (trustquorumlaw35_AmountAssets.j0 k false t165 t166) else ((amount_Less.f k t168 t169 t165 t166).bind fun t183 => (if t183 = true then (trustquorumlaw35_AmountAssets.j0 k false t165 t166) else (trustquorumlaw35_AmountAssets.j0 k (!(t165.toList == t168.toList) || (!(t166 == t169))) t165 t166))))) else (trustquorumlaw35_AmountAssets.j0 k true t165 t166))) else ((amount_Less.f k t165 t166 t168 t169).bind fun t184 => (if t184 = true then (trustquorumlaw35_AmountAssets.j0 k false t165 t166) else ((amount_Less.f k t168 t169 t165 t166).bind fun t185 => (if t185 = true then (trustquorumlaw35_AmountAssets.j0 k false t165 t166) else (trustquorumlaw35_AmountAssets.j0 k (!(t165.toList == t168.toList) || (!(t166 == t169))) t165 t166))))))) else ((amount_Less.f k t165 t166 t168 t169).bind fun t186 => (if t186 = true then (trustquorumlaw35_AmountAssets.j0 k false t165 t166) else ((amount_Less.f k t168 t169 t165 t166).bind fun t187 => (if t187 = true then (trustquorumlaw35_AmountAssets.j0 k false t165 t166) else (trustquorumlaw35_AmountAssets.j0 k (!(t165.toList == t168.toList) || (!(t166 == t169))) t165 t166))))))))) else ((amount_Less.f k t165 t166 t168 t169).bind fun t188 => (if t188 = true then ((amount_Less.f k t168 t169 t171 t172).bind fun t189 => (if t189 = true then ((amount_Less.f k t165 t166 t171 t172).bind fun t190 => (if t190 = true then ((amount_Less.f k t165 t166 t168 t169).bind fun t191 => (if t191 = true then (trustquorumlaw35_AmountAssets.j0 k false t165 t166) else ((amount_Less.f k t168 t169 t165 t166).bind fun t192 => (if t192 = true then (trustquorumlaw35_AmountAssets.j0 k false t165 t166) else (trustquorumlaw35_AmountAssets.j0 k (!(t165.toList == t168.toList) || (!(t166 == t169))) t165 t166))))) else (trustquorumlaw35_AmountAssets.j0 k true t165 t166))) else ((amount_Less.f k t165 t166 t168 t169).bind fun t193 => (if t193 = true then (trustquorumlaw35_AmountAssets.j0 k false t165 t166) else ((amount_Less.f k t168 t169 t165 t166).bind fun t194 => (if t194 = true then (trustquorumlaw35_AmountAssets.j0 k false t165 t166) else (trustquorumlaw35_AmountAssets.j0 k (!(t165.toList == t168.toList) || (!(t166 == t169))) t165 t166))))))) else ((amount_Less.f k t165 t166 t168 t169).bind fun t195 => (if t195 = true then (trustquorumlaw35_AmountAssets.j0 k false t165 t166) else ((amount_Less.f k t168 t169 t165 t166).bind fun t196 => (if t196 = true then (trustquorumlaw35_AmountAssets.j0 k false t165 t166) else (trustquorumlaw35_AmountAssets.j0 k (!(t165.toList == t168.toList) || (!(t166 == t169))) t165 t166))))))))) = some r := H
  have A5 := Aside0.mk A50
  clear A50
  have HC6 := Aside0.mk H
  clear H
  go_enter Try.func6, Try.ntmps6
  go_upto_region 3 with (first | ((with_reducible refine gate_callee (f := 15) rfl ?_); refine goesL_ (some 8) rfl rfl Try.func15 (by kernel_rfl) rfl #[.slice A0 l0.length c0] rfl (by (try simp only [List.map_toArray, List.map_cons, List.map_nil]); first | done | rfl | (simp only [List.length_drop, List.length_take]; rfl)) ?_; (with_reducible refine (trustquorumplay_New.calls _ _ l0 t162 t163 w _ ?side1 ?side2 ?side3 A2.out).mono ?_); (case side1 => repeat (first | (with_reducible first | exact HB.out | apply below_alloc | apply pw_below_drewN | apply below_drew1) | exact HB.out)); (case side2 => exact HR0.out); (case side3 => exact HC0.out); rintro e w7 ⟨g164, rfl, hi, hb, hb2⟩; refine ⟨_, rfl, ?_⟩; have n0_ := Aside0.mk (hb); have n1_ := Aside0.mk (hi); clear HB; have HB := n0_; have HI164 := n1_; clear n0_ n1_; (try clear hb); (try clear hb2); (try clear hk); (try clear hi)) | ((with_reducible refine gate_callee (f := 16) rfl ?_); refine goesL_ (some 10) rfl rfl Try.func16 (by kernel_rfl) rfl #[.pointer (some ⟨g164, 0, none⟩)] rfl (by (try simp only [List.map_toArray, List.map_cons, List.map_nil]); first | done | rfl | (simp only [List.length_drop, List.length_take]; rfl)) ?_; (with_reducible refine (trustquorumplay_Src_Asset.calls g164 t162 t163 t165 t166 t167 w _ ?side1 ?side2 A3.out).mono ?_); (case side1 => repeat (first | (with_reducible first | exact HI164.out | apply IsS52.alloc | apply IsS52.drewN | apply IsS52.drew | apply IsS52.set_1) | exact HI164.out)); (case side2 => repeat (first | (with_reducible first | exact HB.out | apply below_alloc | apply pw_below_drewN | apply below_drew1 | refine below_set ?_ (IsS52.ge HI164.out)) | exact HB.out)); rintro e w8 ⟨rfl, hi, hb, hk⟩; refine ⟨_, rfl, ?_⟩; have n0_ := Aside0.mk (hb); have n1_ := Aside0.mk (hi); clear HB; clear HI164; have HB := n0_; have HI164 := n1_; clear n0_ n1_; (try clear hb); (try clear hb2); (try clear hk); (try clear hi)) | ((with_reducible refine gate_callee (f := 16) rfl ?_); refine goesL_ (some 12) rfl rfl Try.func16 (by kernel_rfl) rfl #[.pointer (some ⟨g164, 0, none⟩)] rfl (by (try simp only [List.map_toArray, List.map_cons, List.map_nil]); first | done | rfl | (simp only [List.length_drop, List.length_take]; rfl)) ?_; (with_reducible refine (trustquorumplay_Src_Asset.calls g164 t162 t167 t168 t169 t170 w _ ?side1 ?side2 A4.out).mono ?_); (case side1 => repeat (first | (with_reducible first | exact HI164.out | apply IsS52.alloc | apply IsS52.drewN | apply IsS52.drew | apply IsS52.set_1) | exact HI164.out)); (case side2 => repeat (first | (with_reducible first | exact HB.out | apply below_alloc | apply pw_below_drewN | apply below_drew1 | refine below_set ?_ (IsS52.ge HI164.out)) | exact HB.out)); rintro e w9 ⟨rfl, hi, hb, hk⟩; refine ⟨_, rfl, ?_⟩; have n0_ := Aside0.mk (hb); have n1_ := Aside0.mk (hi); clear HB; clear HI164; have HB := n0_; have HI164 := n1_; clear n0_ n1_; (try clear hb); (try clear hb2); (try clear hk); (try clear hi)) | ((with_reducible refine gate_callee (f := 16) rfl ?_); refine goesL_ (some 14) rfl rfl Try.func16 (by kernel_rfl) rfl #[.pointer (some ⟨g164, 0, none⟩)] rfl (by (try simp only [List.map_toArray, List.map_cons, List.map_nil]); first | done | rfl | (simp only [List.length_drop, List.length_take]; rfl)) ?_; (with_reducible refine (trustquorumplay_Src_Asset.calls g164 t162 t170 t171 t172 t173 w _ ?side1 ?side2 A5.out).mono ?_); (case side1 => repeat (first | (with_reducible first | exact HI164.out | apply IsS52.alloc | apply IsS52.drewN | apply IsS52.drew | apply IsS52.set_1) | exact HI164.out)); (case side2 => repeat (first | (with_reducible first | exact HB.out | apply below_alloc | apply pw_below_drewN | apply below_drew1 | refine below_set ?_ (IsS52.ge HI164.out)) | exact HB.out)); rintro e w10 ⟨rfl, hi, hb, hk⟩; refine ⟨_, rfl, ?_⟩; have n0_ := Aside0.mk (hb); have n1_ := Aside0.mk (hi); clear HB; clear HI164; have HB := n0_; have HI164 := n1_; clear n0_ n1_; (try clear hb); (try clear hb2); (try clear hk); (try clear hi)) | ((with_reducible refine gate_dst (N := 4) rfl ?_); refine box_event ?hg (N := 4) ?hd (cs := #[.string (⟨#[]⟩ : ByteArray), .int .i64 0]) (t := 38) ?hr ?_; (case hd => rfl); (case hg => rfl); (case hr => first | (go_simp; done) | (go_simp; rfl)); intro gb174 hg w11 hbox hb; have n0_ := Aside0.mk (IsS52.below (by repeat (first | (with_reducible first | exact HI164.out | apply IsS52.alloc | apply IsS52.drewN | apply IsS52.drew | apply IsS52.set_1) | exact HI164.out)) hb); have n1_ := Aside0.mk (below_step (by repeat (first | (with_reducible first | exact HB.out | apply below_alloc | apply pw_below_drewN | apply below_drew1 | refine below_set ?_ (IsS52.ge HI164.out)) | exact HB.out)) hb); have n2_ := Aside0.mk (hbox); have n3_ := Aside0.mk ((by rw [hg]; exact (below_size (by repeat (first | (with_reducible first | exact HB.out | apply below_alloc | apply pw_below_drewN | apply below_drew1 | refine below_set ?_ (IsS52.ge HI164.out)) | exact HB.out))) : w.heap.size ≤ gb174)); have n4_ := Aside0.mk ((by rw [hg]; exact (below_size (by repeat (first | (with_reducible first | exact HB.out | apply below_alloc | apply pw_below_drewN | apply below_drew1 | refine below_set ?_ (IsS52.ge HI164.out)) | exact HB.out))) : w.heap.size ≤ gb174)); have n5_ := Aside0.mk ((by rw [hg]; exact Nat.ne_of_lt (IsS52.lt (show IsS52 w _ g164 t162 t173 from by repeat (first | (with_reducible first | exact HI164.out | apply IsS52.alloc | apply IsS52.drewN | apply IsS52.drew | apply IsS52.set_1) | exact HI164.out))) : g164 ≠ gb174)); have n6_ := Aside0.mk ((by rw [hg]; exact Nat.ne_of_gt (IsS52.lt (show IsS52 w _ g164 t162 t173 from by repeat (first | (with_reducible first | exact HI164.out | apply IsS52.alloc | apply IsS52.drewN | apply IsS52.drew | apply IsS52.set_1) | exact HI164.out))) : gb174 ≠ g164)); clear HI164; clear HB; have HI164 := n0_; have HB := n1_; have BK174 := n2_; have GW174 := n3_; have GE174 := n4_; have NB164_174 := n5_; have NB174_164 := n6_; clear n0_ n1_ n2_ n3_ n4_ n5_ n6_; clear hb hbox hg) | ((with_reducible refine gate_dst (N := 5) rfl ?_); refine box_event ?hg (N := 5) ?hd (cs := #[.string (⟨#[]⟩ : ByteArray), .int .i64 0]) (t := 38) ?hr ?_; (case hd => rfl); (case hg => rfl); (case hr => first | (go_simp; done) | (go_simp; rfl)); intro gb175 hg w12 hbox hb; have n0_ := Aside0.mk (IsS52.below (by repeat (first | (with_reducible first | exact HI164.out | apply IsS52.alloc | apply IsS52.drewN | apply IsS52.drew | apply IsS52.set_1 | refine IsS52.far ?_ NB164_174.out _) | exact HI164.out)) hb); have n1_ := Aside0.mk (blk_below (g := gb174) (o := .cells #[.string (⟨#[]⟩ : ByteArray), .int .i64 0] 38 (0, 0)) (by (with_reducible repeat (first | refine blk_drewN ?_ _ | refine blk_drew ?_ | refine blk_alloc ?_ _)); exact BK174.out) hb); have n2_ := Aside0.mk (below_step (by repeat (first | (with_reducible first | exact HB.out | apply below_alloc | apply pw_below_drewN | apply below_drew1 | refine below_set ?_ (IsS52.ge HI164.out) | refine below_set ?_ GE174.out) | exact HB.out)) hb); have n3_ := Aside0.mk (hbox); have n4_ := Aside0.mk ((by rw [hg]; exact (below_size (by repeat (first | (with_reducible first | exact HB.out | apply below_alloc | apply pw_below_drewN | apply below_drew1 | refine below_set ?_ (IsS52.ge HI164.out) | refine below_set ?_ GE174.out) | exact HB.out))) : w.heap.size ≤ gb175)); have n5_ := Aside0.mk ((by rw [hg]; exact (below_size (by repeat (first | (with_reducible first | exact HB.out | apply below_alloc | apply pw_below_drewN | apply below_drew1 | refine below_set ?_ (IsS52.ge HI164.out) | refine below_set ?_ GE174.out) | exact HB.out))) : w.heap.size ≤ gb175)); have n6_ := Aside0.mk ((by rw [hg]; exact Nat.ne_of_lt (blk_lt (g := gb174) (o := .cells #[.string (⟨#[]⟩ : ByteArray), .int .i64 0] 38 (0, 0)) (by (with_reducible repeat (first | refine blk_drewN ?_ _ | refine blk_drew ?_ | refine blk_alloc ?_ _)); exact BK174.out)) : gb174 ≠ gb175)); have n7_ := Aside0.mk ((by rw [hg]; exact Nat.ne_of_gt (blk_lt (g := gb174) (o := .cells #[.string (⟨#[]⟩ : ByteArray), .int .i64 0] 38 (0, 0)) (by (with_reducible repeat (first | refine blk_drewN ?_ _ | refine blk_drew ?_ | refine blk_alloc ?_ _)); exact BK174.out)) : gb175 ≠ gb174)); have n8_ := Aside0.mk ((by rw [hg]; exact Nat.ne_of_lt (IsS52.lt (show IsS52 w _ g164 t162 t173 from by repeat (first | (with_reducible first | exact HI164.out | apply IsS52.alloc | apply IsS52.drewN | apply IsS52.drew | apply IsS52.set_1 | refine IsS52.far ?_ NB164_174.out _) | exact HI164.out))) : g164 ≠ gb175)); have n9_ := Aside0.mk ((by rw [hg]; exact Nat.ne_of_gt (IsS52.lt (show IsS52 w _ g164 t162 t173 from by repeat (first | (with_reducible first | exact HI164.out | apply IsS52.alloc | apply IsS52.drewN | apply IsS52.drew | apply IsS52.set_1 | refine IsS52.far ?_ NB164_174.out _) | exact HI164.out))) : gb175 ≠ g164)); clear HI164; clear BK174; clear HB; have HI164 := n0_; have BK174 := n1_; have HB := n2_; have BK175 := n3_; have GW175 := n4_; have GE175 := n5_; have NB174_175 := n6_; have NB175_174 := n7_; have NB164_175 := n8_; have NB175_164 := n9_; clear n0_ n1_ n2_ n3_ n4_ n5_ n6_ n7_ n8_ n9_; clear hb hbox hg) | ((with_reducible refine gate_dst (N := 6) rfl ?_); refine box_event ?hg (N := 6) ?hd (cs := #[.string (⟨#[]⟩ : ByteArray), .int .i64 0]) (t := 38) ?hr ?_; (case hd => rfl); (case hg => rfl); (case hr => first | (go_simp; done) | (go_simp; rfl)); intro gb176 hg w13 hbox hb; have n0_ := Aside0.mk (IsS52.below (by repeat (first | (with_reducible first | exact HI164.out | apply IsS52.alloc | apply IsS52.drewN | apply IsS52.drew | apply IsS52.set_1 | refine IsS52.far ?_ NB164_174.out _ | refine IsS52.far ?_ NB164_175.out _) | exact HI164.out)) hb); have n1_ := Aside0.mk (blk_below (g := gb174) (o := .cells #[.string (⟨#[]⟩ : ByteArray), .int .i64 0] 38 (0, 0)) (by (with_reducible repeat (first | refine blk_drewN ?_ _ | refine blk_drew ?_ | refine blk_alloc ?_ _)); exact BK174.out) hb); have n2_ := Aside0.mk (blk_below (g := gb175) (o := .cells #[.string (⟨#[]⟩ : ByteArray), .int .i64 0] 38 (0, 0)) (by (with_reducible repeat (first | refine blk_drewN ?_ _ | refine blk_drew ?_ | refine blk_alloc ?_ _)); exact BK175.out) hb); have n3_ := Aside0.mk (below_step (by repeat (first | (with_reducible first | exact HB.out | apply below_alloc | apply pw_below_drewN | apply below_drew1 | refine below_set ?_ (IsS52.ge HI164.out) | refine below_set ?_ GE174.out | refine below_set ?_ GE175.out) | exact HB.out)) hb); have n4_ := Aside0.mk (hbox); have n5_ := Aside0.mk ((by rw [hg]; exact (below_size (by repeat (first | (with_reducible first | exact HB.out | apply below_alloc | apply pw_below_drewN | apply below_drew1 | refine below_set ?_ (IsS52.ge HI164.out) | refine below_set ?_ GE174.out | refine below_set ?_ GE175.out) | exact HB.out))) : w.heap.size ≤ gb176)); have n6_ := Aside0.mk ((by rw [hg]; exact (below_size (by repeat (first | (with_reducible first | exact HB.out | apply below_alloc | apply pw_below_drewN | apply below_drew1 | refine below_set ?_ (IsS52.ge HI164.out) | refine below_set ?_ GE174.out | refine below_set ?_ GE175.out) | exact HB.out))) : w.heap.size ≤ gb176)); have n7_ := Aside0.mk ((by rw [hg]; exact Nat.ne_of_lt (blk_lt (g := gb174) (o := .cells #[.string (⟨#[]⟩ : ByteArray), .int .i64 0] 38 (0, 0)) (by (with_reducible repeat (first | refine blk_drewN ?_ _ | refine blk_drew ?_ | refine blk_alloc ?_ _)); exact BK174.out)) : gb174 ≠ gb176)); have n8_ := Aside0.mk ((by rw [hg]; exact Nat.ne_of_gt (blk_lt (g := gb174) (o := .cells #[.string (⟨#[]⟩ : ByteArray), .int .i64 0] 38 (0, 0)) (by (with_reducible repeat (first | refine blk_drewN ?_ _ | refine blk_drew ?_ | refine blk_alloc ?_ _)); exact BK174.out)) : gb176 ≠ gb174)); have n9_ := Aside0.mk ((by rw [hg]; exact Nat.ne_of_lt (blk_lt (g := gb175) (o := .cells #[.string (⟨#[]⟩ : ByteArray), .int .i64 0] 38 (0, 0)) (by (with_reducible repeat (first | refine blk_drewN ?_ _ | refine blk_drew ?_ | refine blk_alloc ?_ _)); exact BK175.out)) : gb175 ≠ gb176)); have n10_ := Aside0.mk ((by rw [hg]; exact Nat.ne_of_gt (blk_lt (g := gb175) (o := .cells #[.string (⟨#[]⟩ : ByteArray), .int .i64 0] 38 (0, 0)) (by (with_reducible repeat (first | refine blk_drewN ?_ _ | refine blk_drew ?_ | refine blk_alloc ?_ _)); exact BK175.out)) : gb176 ≠ gb175)); have n11_ := Aside0.mk ((by rw [hg]; exact Nat.ne_of_lt (IsS52.lt (show IsS52 w _ g164 t162 t173 from by repeat (first | (with_reducible first | exact HI164.out | apply IsS52.alloc | apply IsS52.drewN | apply IsS52.drew | apply IsS52.set_1 | refine IsS52.far ?_ NB164_174.out _ | refine IsS52.far ?_ NB164_175.out _) | exact HI164.out))) : g164 ≠ gb176)); have n12_ := Aside0.mk ((by rw [hg]; exact Nat.ne_of_gt (IsS52.lt (show IsS52 w _ g164 t162 t173 from by repeat (first | (with_reducible first | exact HI164.out | apply IsS52.alloc | apply IsS52.drewN | apply IsS52.drew | apply IsS52.set_1 | refine IsS52.far ?_ NB164_174.out _ | refine IsS52.far ?_ NB164_175.out _) | exact HI164.out))) : gb176 ≠ g164)); clear HI164; clear BK174; clear BK175; clear HB; have HI164 := n0_; have BK174 := n1_; have BK175 := n2_; have HB := n3_; have BK176 := n4_; have GW176 := n5_; have GE176 := n6_; have NB174_176 := n7_; have NB176_174 := n8_; have NB175_176 := n9_; have NB176_175 := n10_; have NB164_176 := n11_; have NB176_164 := n12_; clear n0_ n1_ n2_ n3_ n4_ n5_ n6_ n7_ n8_ n9_ n10_ n11_ n12_; clear hb hbox hg; have hnb14 := NB174_175.out; have hnc14 := NB175_174.out; have hnb15 := NB174_176.out; have hnc15 := NB176_174.out; have hnb16 := NB174_164.out; have hnc16 := NB164_174.out; have hcz17_0 : w13.cell? ⟨gb174, 0, none⟩ = some (.string (⟨#[]⟩ : ByteArray)) := (blk_cell BK174.out 0).trans rfl; have hcz17_1 : w13.cell? ⟨gb174, 1, none⟩ = some (.int .i64 0) := (blk_cell BK174.out 1).trans rfl; have hfz17_0 := blk_frozen BK174.out 0; have hfz17_1 := blk_frozen BK174.out 1; have hnb18 := NB175_176.out; have hnc18 := NB176_175.out; have hnb19 := NB175_164.out; have hnc19 := NB164_175.out; have hcz20_0 : w13.cell? ⟨gb175, 0, none⟩ = some (.string (⟨#[]⟩ : ByteArray)) := (blk_cell BK175.out 0).trans rfl; have hcz20_1 : w13.cell? ⟨gb175, 1, none⟩ = some (.int .i64 0) := (blk_cell BK175.out 1).trans rfl; have hfz20_0 := blk_frozen BK175.out 0; have hfz20_1 := blk_frozen BK175.out 1; have hnb21 := NB176_164.out; have hnc21 := NB164_176.out; have hcz22_0 : w13.cell? ⟨gb176, 0, none⟩ = some (.string (⟨#[]⟩ : ByteArray)) := (blk_cell BK176.out 0).trans rfl; have hcz22_1 : w13.cell? ⟨gb176, 1, none⟩ = some (.int .i64 0) := (blk_cell BK176.out 1).trans rfl; have hfz22_0 := blk_frozen BK176.out 0; have hfz22_1 := blk_frozen BK176.out 1))
  (try simp only [Act.put, List.setIfInBounds_toArray, List.set_cons_zero, List.set_cons_succ])
  go_cut [55] (fun v55 wc => ∃ (kq : Nat) (x55_5 : Bool), v55 = .bool x55_5 ∧ Aside0 (trustquorumlaw35_AmountAssets.j0 kq x55_5 t165 t166 = some r) ∧ Aside0 (kq ≤ k) ∧ Aside0 (wc.heap[gb174]? = some (.cells #[.string t165, .int .i64 t166] 38 (0, 0))) ∧ Aside0 (wc.heap[gb175]? = some (.cells #[.string t168, .int .i64 t169] 38 (0, 0))) ∧ Aside0 (wc.heap[gb176]? = some (.cells #[.string t171, .int .i64 t172] 38 (0, 0))) ∧ Aside0 (Below w.heap.size w wc))
  case first =>
    have H := HC6.out
    clear HC6
    replace H := Option.bind_eq_some_iff.mp H
    obtain ⟨t177, A230, H⟩ := H
    replace H : (if t177 = true then ((amount_Less.f k t168 t169 t165 t166).bind fun t178 => (if t178 = true then (trustquorumlaw35_AmountAssets.j0 k true t165 t166) else ((amount_Less.f k t165 t166 t168 t169).bind fun t179 => (if t179 = true then ((amount_Less.f k t168 t169 t171 t172).bind fun t180 => (if t180 = true then ((amount_Less.f k t165 t166 t171 t172).bind fun t181 => (if t181 = true then ((amount_Less.f k t165 t166 t168 t169).bind fun t182 => (if t182 = true then (trustquorumlaw35_AmountAssets.j0 k false t165 t166) else ((amount_Less.f k t168 t169 t165 t166).bind fun t183 => (if t183 = true then (trustquorumlaw35_AmountAssets.j0 k false t165 t166) else (trustquorumlaw35_AmountAssets.j0 k (!(t165.toList == t168.toList) || (!(t166 == t169))) t165 t166))))) else (trustquorumlaw35_AmountAssets.j0 k true t165 t166))) else ((amount_Less.f k t165 t166 t168 t169).bind fun t184 => (if t184 = true then (trustquorumlaw35_AmountAssets.j0 k false t165 t166) else ((amount_Less.f k t168 t169 t165 t166).bind fun t185 => (if t185 = true then (trustquorumlaw35_AmountAssets.j0 k false t165 t166) else (trustquorumlaw35_AmountAssets.j0 k (!(t165.toList == t168.toList) || (!(t166 == t169))) t165 t166))))))) else ((amount_Less.f k t165 t166 t168 t169).bind fun t186 => (if t186 = true then (trustquorumlaw35_AmountAssets.j0 k false t165 t166) else ((amount_Less.f k t168 t169 t165 t166).bind fun t187 => (if t187 = true then (trustquorumlaw35_AmountAssets.j0 k false t165 t166) else (trustquorumlaw35_AmountAssets.j0 k (!(t165.toList == t168.toList) || (!(t166 == t169))) t165 t166))))))))) else ((amount_Less.f k t165 t166 t168 t169).bind fun t188 => (if t188 = true then ((amount_Less.f k t168 t169 t171 t172).bind fun t189 => (if t189 = true then ((amount_Less.f k t165 t166 t171 t172).bind fun t190 => (if t190 = true then ((amount_Less.f k t165 t166 t168 t169).bind fun t191 => (if t191 = true then (trustquorumlaw35_AmountAssets.j0 k false t165 t166) else ((amount_Less.f k t168 t169 t165 t166).bind fun t192 => (if t192 = true then (trustquorumlaw35_AmountAssets.j0 k false t165 t166) else (trustquorumlaw35_AmountAssets.j0 k (!(t165.toList == t168.toList) || (!(t166 == t169))) t165 t166))))) else (trustquorumlaw35_AmountAssets.j0 k true t165 t166))) else ((amount_Less.f k t165 t166 t168 t169).bind fun t193 => (if t193 = true then (trustquorumlaw35_AmountAssets.j0 k false t165 t166) else ((amount_Less.f k t168 t169 t165 t166).bind fun t194 => (if t194 = true then (trustquorumlaw35_AmountAssets.j0 k false t165 t166) else (trustquorumlaw35_AmountAssets.j0 k (!(t165.toList == t168.toList) || (!(t166 == t169))) t165 t166))))))) else ((amount_Less.f k t165 t166 t168 t169).bind fun t195 => (if t195 = true then (trustquorumlaw35_AmountAssets.j0 k false t165 t166) else ((amount_Less.f k t168 t169 t165 t166).bind fun t196 => (if t196 = true then (trustquorumlaw35_AmountAssets.j0 k false t165 t166) else (trustquorumlaw35_AmountAssets.j0 k (!(t165.toList == t168.toList) || (!(t166 == t169))) t165 t166)))))))) = some r := H
    have A23 := Aside0.mk A230
    clear A230
    by_cases c24 : t177 = true
    · subst c24
      have H1 : ((amount_Less.f k t168 t169 t165 t166).bind fun t178 => (if t178 = true then (trustquorumlaw35_AmountAssets.j0 k true t165 t166) else ((amount_Less.f k t165 t166 t168 t169).bind fun t179 => (if t179 = true then ((amount_Less.f k t168 t169 t171 t172).bind fun t180 => (if t180 = true then ((amount_Less.f k t165 t166 t171 t172).bind fun t181 => (if t181 = true then ((amount_Less.f k t165 t166 t168 t169).bind fun t182 => (if t182 = true then (trustquorumlaw35_AmountAssets.j0 k false t165 t166) else ((amount_Less.f k t168 t169 t165 t166).bind fun t183 => (if t183 = true then (trustquorumlaw35_AmountAssets.j0 k false t165 t166) else (trustquorumlaw35_AmountAssets.j0 k (!(t165.toList == t168.toList) || (!(t166 == t169))) t165 t166))))) else (trustquorumlaw35_AmountAssets.j0 k true t165 t166))) else ((amount_Less.f k t165 t166 t168 t169).bind fun t184 => (if t184 = true then (trustquorumlaw35_AmountAssets.j0 k false t165 t166) else ((amount_Less.f k t168 t169 t165 t166).bind fun t185 => (if t185 = true then (trustquorumlaw35_AmountAssets.j0 k false t165 t166) else (trustquorumlaw35_AmountAssets.j0 k (!(t165.toList == t168.toList) || (!(t166 == t169))) t165 t166))))))) else ((amount_Less.f k t165 t166 t168 t169).bind fun t186 => (if t186 = true then (trustquorumlaw35_AmountAssets.j0 k false t165 t166) else ((amount_Less.f k t168 t169 t165 t166).bind fun t187 => (if t187 = true then (trustquorumlaw35_AmountAssets.j0 k false t165 t166) else (trustquorumlaw35_AmountAssets.j0 k (!(t165.toList == t168.toList) || (!(t166 == t169))) t165 t166))))))))) = some r := by rw [if_pos rfl] at H; exact H
      clear H
      have H := H1
      clear H1
      replace H := Option.bind_eq_some_iff.mp H
      obtain ⟨t178, A250, H⟩ := H
      replace H : (if t178 = true then (trustquorumlaw35_AmountAssets.j0 k true t165 t166) else ((amount_Less.f k t165 t166 t168 t169).bind fun t179 => (if t179 = true then ((amount_Less.f k t168 t169 t171 t172).bind fun t180 => (if t180 = true then ((amount_Less.f k t165 t166 t171 t172).bind fun t181 => (if t181 = true then ((amount_Less.f k t165 t166 t168 t169).bind fun t182 => (if t182 = true then (trustquorumlaw35_AmountAssets.j0 k false t165 t166) else ((amount_Less.f k t168 t169 t165 t166).bind fun t183 => (if t183 = true then (trustquorumlaw35_AmountAssets.j0 k false t165 t166) else (trustquorumlaw35_AmountAssets.j0 k (!(t165.toList == t168.toList) || (!(t166 == t169))) t165 t166))))) else (trustquorumlaw35_AmountAssets.j0 k true t165 t166))) else ((amount_Less.f k t165 t166 t168 t169).bind fun t184 => (if t184 = true then (trustquorumlaw35_AmountAssets.j0 k false t165 t166) else ((amount_Less.f k t168 t169 t165 t166).bind fun t185 => (if t185 = true then (trustquorumlaw35_AmountAssets.j0 k false t165 t166) else (trustquorumlaw35_AmountAssets.j0 k (!(t165.toList == t168.toList) || (!(t166 == t169))) t165 t166))))))) else ((amount_Less.f k t165 t166 t168 t169).bind fun t186 => (if t186 = true then (trustquorumlaw35_AmountAssets.j0 k false t165 t166) else ((amount_Less.f k t168 t169 t165 t166).bind fun t187 => (if t187 = true then (trustquorumlaw35_AmountAssets.j0 k false t165 t166) else (trustquorumlaw35_AmountAssets.j0 k (!(t165.toList == t168.toList) || (!(t166 == t169))) t165 t166)))))))) = some r := H
      have A25 := Aside0.mk A250
      clear A250
      by_cases c26 : t178 = true
      · subst c26
        have H1 : (trustquorumlaw35_AmountAssets.j0 k true t165 t166) = some r := by rw [if_pos rfl] at H; exact H
        clear H
        have H := H1
        clear H1
        have H' := Aside0.mk H
        clear H
        have hnb27 := NB174_175.out
        have hnc27 := NB175_174.out
        have hnb28 := NB174_176.out
        have hnc28 := NB176_174.out
        have hnb29 := NB174_164.out
        have hnc29 := NB164_174.out
        have hcz30_0 : w13.cell? ⟨gb174, 0, none⟩ = some (.string (⟨#[]⟩ : ByteArray)) := (blk_cell BK174.out 0).trans rfl
        have hcz30_1 : w13.cell? ⟨gb174, 1, none⟩ = some (.int .i64 0) := (blk_cell BK174.out 1).trans rfl
        have hfz30_0 := blk_frozen BK174.out 0
        have hfz30_1 := blk_frozen BK174.out 1
        have hnb31 := NB175_176.out
        have hnc31 := NB176_175.out
        have hnb32 := NB175_164.out
        have hnc32 := NB164_175.out
        have hcz33_0 : w13.cell? ⟨gb175, 0, none⟩ = some (.string (⟨#[]⟩ : ByteArray)) := (blk_cell BK175.out 0).trans rfl
        have hcz33_1 : w13.cell? ⟨gb175, 1, none⟩ = some (.int .i64 0) := (blk_cell BK175.out 1).trans rfl
        have hfz33_0 := blk_frozen BK175.out 0
        have hfz33_1 := blk_frozen BK175.out 1
        go_wp2_with (first | ((with_reducible refine gate_callee (f := 17) rfl ?_); refine goesL_ (some 17) rfl rfl Try.func17 (by kernel_rfl) rfl #[.agg #[.string t165, .int .i64 t166], .agg #[.string t168, .int .i64 t169]] rfl (by (try simp only [List.map_toArray, List.map_cons, List.map_nil]); first | done | rfl | (simp only [List.length_drop, List.length_take]; rfl)) ?_; (with_reducible refine (amount_Less.calls k t165 t166 t168 t169 true _ A23.out).mono ?_); rintro e w34 ⟨rfl, hb⟩; refine ⟨_, rfl, ?_⟩; have n0_ := Aside0.mk (IsS52.below (show IsS52 w ((((((w13.setCell ⟨gb174, 0, none⟩ (.string t165)).setCell ⟨gb174, 1, none⟩ (.int .i64 t166)).setCell ⟨gb175, 0, none⟩ (.string t168)).setCell ⟨gb175, 1, none⟩ (.int .i64 t169)).setCell ⟨gb176, 0, none⟩ (.string t171)).setCell ⟨gb176, 1, none⟩ (.int .i64 t172)) g164 t162 t173 from by repeat (first | (with_reducible first | exact HI164.out | apply IsS52.alloc | apply IsS52.drewN | apply IsS52.drew | apply IsS52.set_1 | refine IsS52.far ?_ NB164_174.out _ | refine IsS52.far ?_ NB164_175.out _ | refine IsS52.far ?_ NB164_176.out _) | exact HI164.out)) hb); have n1_ := Aside0.mk (blk_below (g := gb174) (o := .cells #[.string t165, .int .i64 t166] 38 (0, 0)) (by (with_reducible repeat (first | refine blk_drewN ?_ _ | refine blk_drew ?_ | refine blk_alloc ?_ _)); refine blk_far ?_ NB174_176.out _; (with_reducible repeat (first | refine blk_drewN ?_ _ | refine blk_drew ?_ | refine blk_alloc ?_ _)); refine blk_far ?_ NB174_176.out _; (with_reducible repeat (first | refine blk_drewN ?_ _ | refine blk_drew ?_ | refine blk_alloc ?_ _)); refine blk_far ?_ NB174_175.out _; (with_reducible repeat (first | refine blk_drewN ?_ _ | refine blk_drew ?_ | refine blk_alloc ?_ _)); refine blk_far ?_ NB174_175.out _; (with_reducible repeat (first | refine blk_drewN ?_ _ | refine blk_drew ?_ | refine blk_alloc ?_ _)); refine blk_put (cs := #[.string t165, .int .i64 0]) ?_ 1 _ rfl; (with_reducible repeat (first | refine blk_drewN ?_ _ | refine blk_drew ?_ | refine blk_alloc ?_ _)); refine blk_put (cs := #[.string (⟨#[]⟩ : ByteArray), .int .i64 0]) ?_ 0 _ rfl; (with_reducible repeat (first | refine blk_drewN ?_ _ | refine blk_drew ?_ | refine blk_alloc ?_ _)); exact BK174.out) hb); have n2_ := Aside0.mk (blk_below (g := gb175) (o := .cells #[.string t168, .int .i64 t169] 38 (0, 0)) (by (with_reducible repeat (first | refine blk_drewN ?_ _ | refine blk_drew ?_ | refine blk_alloc ?_ _)); refine blk_far ?_ NB175_176.out _; (with_reducible repeat (first | refine blk_drewN ?_ _ | refine blk_drew ?_ | refine blk_alloc ?_ _)); refine blk_far ?_ NB175_176.out _; (with_reducible repeat (first | refine blk_drewN ?_ _ | refine blk_drew ?_ | refine blk_alloc ?_ _)); refine blk_put (cs := #[.string t168, .int .i64 0]) ?_ 1 _ rfl; (with_reducible repeat (first | refine blk_drewN ?_ _ | refine blk_drew ?_ | refine blk_alloc ?_ _)); refine blk_put (cs := #[.string (⟨#[]⟩ : ByteArray), .int .i64 0]) ?_ 0 _ rfl; (with_reducible repeat (first | refine blk_drewN ?_ _ | refine blk_drew ?_ | refine blk_alloc ?_ _)); refine blk_far ?_ NB175_174.out _; (with_reducible repeat (first | refine blk_drewN ?_ _ | refine blk_drew ?_ | refine blk_alloc ?_ _)); refine blk_far ?_ NB175_174.out _; (with_reducible repeat (first | refine blk_drewN ?_ _ | refine blk_drew ?_ | refine blk_alloc ?_ _)); exact BK175.out) hb); have n3_ := Aside0.mk (blk_below (g := gb176) (o := .cells #[.string t171, .int .i64 t172] 38 (0, 0)) (by (with_reducible repeat (first | refine blk_drewN ?_ _ | refine blk_drew ?_ | refine blk_alloc ?_ _)); refine blk_put (cs := #[.string t171, .int .i64 0]) ?_ 1 _ rfl; (with_reducible repeat (first | refine blk_drewN ?_ _ | refine blk_drew ?_ | refine blk_alloc ?_ _)); refine blk_put (cs := #[.string (⟨#[]⟩ : ByteArray), .int .i64 0]) ?_ 0 _ rfl; (with_reducible repeat (first | refine blk_drewN ?_ _ | refine blk_drew ?_ | refine blk_alloc ?_ _)); refine blk_far ?_ NB176_175.out _; (with_reducible repeat (first | refine blk_drewN ?_ _ | refine blk_drew ?_ | refine blk_alloc ?_ _)); refine blk_far ?_ NB176_175.out _; (with_reducible repeat (first | refine blk_drewN ?_ _ | refine blk_drew ?_ | refine blk_alloc ?_ _)); refine blk_far ?_ NB176_174.out _; (with_reducible repeat (first | refine blk_drewN ?_ _ | refine blk_drew ?_ | refine blk_alloc ?_ _)); refine blk_far ?_ NB176_174.out _; (with_reducible repeat (first | refine blk_drewN ?_ _ | refine blk_drew ?_ | refine blk_alloc ?_ _)); exact BK176.out) hb); have n4_ := Aside0.mk (below_step (by repeat (first | (with_reducible first | exact HB.out | apply below_alloc | apply pw_below_drewN | apply below_drew1 | refine below_set ?_ (IsS52.ge HI164.out) | refine below_set ?_ GE174.out | refine below_set ?_ GE175.out | refine below_set ?_ GE176.out) | exact HB.out)) hb); clear HI164; clear BK174; clear BK175; clear BK176; clear HB; have HI164 := n0_; have BK174 := n1_; have BK175 := n2_; have BK176 := n3_; have HB := n4_; clear n0_ n1_ n2_ n3_ n4_; (try clear hb); (try clear hb2); (try clear hk); (try clear hi); have hcz35_0 : w34.cell? ⟨gb175, 0, none⟩ = some (.string t168) := (blk_cell BK175.out 0).trans rfl; have hcz35_1 : w34.cell? ⟨gb175, 1, none⟩ = some (.int .i64 t169) := (blk_cell BK175.out 1).trans rfl; have hfz35_0 := blk_frozen BK175.out 0; have hfz35_1 := blk_frozen BK175.out 1; have hcz36_0 : w34.cell? ⟨gb174, 0, none⟩ = some (.string t165) := (blk_cell BK174.out 0).trans rfl; have hcz36_1 : w34.cell? ⟨gb174, 1, none⟩ = some (.int .i64 t166) := (blk_cell BK174.out 1).trans rfl; have hfz36_0 := blk_frozen BK174.out 0; have hfz36_1 := blk_frozen BK174.out 1) | (go_at_call 17; (with_reducible refine (amount_Less.calls k t168 t169 t165 t166 true _ A25.out).mono ?_); rintro e w37 ⟨rfl, hb⟩; have n0_ := Aside0.mk (IsS52.below (by repeat (first | (with_reducible first | exact HI164.out | apply IsS52.alloc | apply IsS52.drewN | apply IsS52.drew | apply IsS52.set_1 | refine IsS52.far ?_ NB164_174.out _ | refine IsS52.far ?_ NB164_175.out _ | refine IsS52.far ?_ NB164_176.out _) | exact HI164.out)) hb); have n1_ := Aside0.mk (blk_below (g := gb174) (o := .cells #[.string t165, .int .i64 t166] 38 (0, 0)) (by (with_reducible repeat (first | refine blk_drewN ?_ _ | refine blk_drew ?_ | refine blk_alloc ?_ _)); exact BK174.out) hb); have n2_ := Aside0.mk (blk_below (g := gb175) (o := .cells #[.string t168, .int .i64 t169] 38 (0, 0)) (by (with_reducible repeat (first | refine blk_drewN ?_ _ | refine blk_drew ?_ | refine blk_alloc ?_ _)); exact BK175.out) hb); have n3_ := Aside0.mk (blk_below (g := gb176) (o := .cells #[.string t171, .int .i64 t172] 38 (0, 0)) (by (with_reducible repeat (first | refine blk_drewN ?_ _ | refine blk_drew ?_ | refine blk_alloc ?_ _)); exact BK176.out) hb); have n4_ := Aside0.mk (below_step (by repeat (first | (with_reducible first | exact HB.out | apply below_alloc | apply pw_below_drewN | apply below_drew1 | refine below_set ?_ (IsS52.ge HI164.out) | refine below_set ?_ GE174.out | refine below_set ?_ GE175.out | refine below_set ?_ GE176.out) | exact HB.out)) hb); clear HI164; clear BK174; clear BK175; clear BK176; clear HB; have HI164 := n0_; have BK174 := n1_; have BK175 := n2_; have BK176 := n3_; have HB := n4_; clear n0_ n1_ n2_ n3_ n4_; (try clear hb); (try clear hb2); (try clear hk); (try clear hi)))
        go_meet
        case rel => exact ⟨_, (true), (by first | rfl | (simp; done) | (simp [*]; done)), H', ⟨by first | omega | exact Nat.le_refl _⟩, ⟨by (with_reducible repeat (first | refine blk_drewN ?_ _ | refine blk_drew ?_ | refine blk_alloc ?_ _)); exact BK174.out⟩, ⟨by (with_reducible repeat (first | refine blk_drewN ?_ _ | refine blk_drew ?_ | refine blk_alloc ?_ _)); exact BK175.out⟩, ⟨by (with_reducible repeat (first | refine blk_drewN ?_ _ | refine blk_drew ?_ | refine blk_alloc ?_ _)); exact BK176.out⟩, ⟨by repeat (first | (with_reducible first | exact HB.out | apply below_alloc | apply pw_below_drewN | apply below_drew1 | refine below_set ?_ (IsS52.ge HI164.out) | refine below_set ?_ GE174.out | refine below_set ?_ GE175.out | refine below_set ?_ GE176.out) | exact HB.out)⟩⟩
      · replace c26 := Bool.eq_false_iff.mpr c26
        subst c26
        have H1 : ((amount_Less.f k t165 t166 t168 t169).bind fun t179 => (if t179 = true then ((amount_Less.f k t168 t169 t171 t172).bind fun t180 => (if t180 = true then ((amount_Less.f k t165 t166 t171 t172).bind fun t181 => (if t181 = true then ((amount_Less.f k t165 t166 t168 t169).bind fun t182 => (if t182 = true then (trustquorumlaw35_AmountAssets.j0 k false t165 t166) else ((amount_Less.f k t168 t169 t165 t166).bind fun t183 => (if t183 = true then (trustquorumlaw35_AmountAssets.j0 k false t165 t166) else (trustquorumlaw35_AmountAssets.j0 k (!(t165.toList == t168.toList) || (!(t166 == t169))) t165 t166))))) else (trustquorumlaw35_AmountAssets.j0 k true t165 t166))) else ((amount_Less.f k t165 t166 t168 t169).bind fun t184 => (if t184 = true then (trustquorumlaw35_AmountAssets.j0 k false t165 t166) else ((amount_Less.f k t168 t169 t165 t166).bind fun t185 => (if t185 = true then (trustquorumlaw35_AmountAssets.j0 k false t165 t166) else (trustquorumlaw35_AmountAssets.j0 k (!(t165.toList == t168.toList) || (!(t166 == t169))) t165 t166))))))) else ((amount_Less.f k t165 t166 t168 t169).bind fun t186 => (if t186 = true then (trustquorumlaw35_AmountAssets.j0 k false t165 t166) else ((amount_Less.f k t168 t169 t165 t166).bind fun t187 => (if t187 = true then (trustquorumlaw35_AmountAssets.j0 k false t165 t166) else (trustquorumlaw35_AmountAssets.j0 k (!(t165.toList == t168.toList) || (!(t166 == t169))) t165 t166))))))) = some r := by rw [if_neg (show ¬ (false = true) by decide)] at H; exact H
        clear H
        have H := H1
        clear H1
        replace H := Option.bind_eq_some_iff.mp H
        obtain ⟨t179, A380, H⟩ := H
        replace H : (if t179 = true then ((amount_Less.f k t168 t169 t171 t172).bind fun t180 => (if t180 = true then ((amount_Less.f k t165 t166 t171 t172).bind fun t181 => (if t181 = true then ((amount_Less.f k t165 t166 t168 t169).bind fun t182 => (if t182 = true then (trustquorumlaw35_AmountAssets.j0 k false t165 t166) else ((amount_Less.f k t168 t169 t165 t166).bind fun t183 => (if t183 = true then (trustquorumlaw35_AmountAssets.j0 k false t165 t166) else (trustquorumlaw35_AmountAssets.j0 k (!(t165.toList == t168.toList) || (!(t166 == t169))) t165 t166))))) else (trustquorumlaw35_AmountAssets.j0 k true t165 t166))) else ((amount_Less.f k t165 t166 t168 t169).bind fun t184 => (if t184 = true then (trustquorumlaw35_AmountAssets.j0 k false t165 t166) else ((amount_Less.f k t168 t169 t165 t166).bind fun t185 => (if t185 = true then (trustquorumlaw35_AmountAssets.j0 k false t165 t166) else (trustquorumlaw35_AmountAssets.j0 k (!(t165.toList == t168.toList) || (!(t166 == t169))) t165 t166))))))) else ((amount_Less.f k t165 t166 t168 t169).bind fun t186 => (if t186 = true then (trustquorumlaw35_AmountAssets.j0 k false t165 t166) else ((amount_Less.f k t168 t169 t165 t166).bind fun t187 => (if t187 = true then (trustquorumlaw35_AmountAssets.j0 k false t165 t166) else (trustquorumlaw35_AmountAssets.j0 k (!(t165.toList == t168.toList) || (!(t166 == t169))) t165 t166)))))) = some r := H
        have A38 := Aside0.mk A380
        clear A380
        obtain rfl : true = t179 := Option.some.inj (A23.out.symm.trans A38.out)
        have H1 : ((amount_Less.f k t168 t169 t171 t172).bind fun t180 => (if t180 = true then ((amount_Less.f k t165 t166 t171 t172).bind fun t181 => (if t181 = true then ((amount_Less.f k t165 t166 t168 t169).bind fun t182 => (if t182 = true then (trustquorumlaw35_AmountAssets.j0 k false t165 t166) else ((amount_Less.f k t168 t169 t165 t166).bind fun t183 => (if t183 = true then (trustquorumlaw35_AmountAssets.j0 k false t165 t166) else (trustquorumlaw35_AmountAssets.j0 k (!(t165.toList == t168.toList) || (!(t166 == t169))) t165 t166))))) else (trustquorumlaw35_AmountAssets.j0 k true t165 t166))) else ((amount_Less.f k t165 t166 t168 t169).bind fun t184 => (if t184 = true then (trustquorumlaw35_AmountAssets.j0 k false t165 t166) else ((amount_Less.f k t168 t169 t165 t166).bind fun t185 => (if t185 = true then (trustquorumlaw35_AmountAssets.j0 k false t165 t166) else (trustquorumlaw35_AmountAssets.j0 k (!(t165.toList == t168.toList) || (!(t166 == t169))) t165 t166))))))) = some r := by rw [if_pos rfl] at H; exact H
        clear H
        have H := H1
        clear H1
        replace H := Option.bind_eq_some_iff.mp H
        obtain ⟨t180, A390, H⟩ := H
        replace H : (if t180 = true then ((amount_Less.f k t165 t166 t171 t172).bind fun t181 => (if t181 = true then ((amount_Less.f k t165 t166 t168 t169).bind fun t182 => (if t182 = true then (trustquorumlaw35_AmountAssets.j0 k false t165 t166) else ((amount_Less.f k t168 t169 t165 t166).bind fun t183 => (if t183 = true then (trustquorumlaw35_AmountAssets.j0 k false t165 t166) else (trustquorumlaw35_AmountAssets.j0 k (!(t165.toList == t168.toList) || (!(t166 == t169))) t165 t166))))) else (trustquorumlaw35_AmountAssets.j0 k true t165 t166))) else ((amount_Less.f k t165 t166 t168 t169).bind fun t184 => (if t184 = true then (trustquorumlaw35_AmountAssets.j0 k false t165 t166) else ((amount_Less.f k t168 t169 t165 t166).bind fun t185 => (if t185 = true then (trustquorumlaw35_AmountAssets.j0 k false t165 t166) else (trustquorumlaw35_AmountAssets.j0 k (!(t165.toList == t168.toList) || (!(t166 == t169))) t165 t166)))))) = some r := H
        have A39 := Aside0.mk A390
        clear A390
        by_cases c40 : t180 = true
        · subst c40
          have H1 : ((amount_Less.f k t165 t166 t171 t172).bind fun t181 => (if t181 = true then ((amount_Less.f k t165 t166 t168 t169).bind fun t182 => (if t182 = true then (trustquorumlaw35_AmountAssets.j0 k false t165 t166) else ((amount_Less.f k t168 t169 t165 t166).bind fun t183 => (if t183 = true then (trustquorumlaw35_AmountAssets.j0 k false t165 t166) else (trustquorumlaw35_AmountAssets.j0 k (!(t165.toList == t168.toList) || (!(t166 == t169))) t165 t166))))) else (trustquorumlaw35_AmountAssets.j0 k true t165 t166))) = some r := by rw [if_pos rfl] at H; exact H
          clear H
          have H := H1
          clear H1
          replace H := Option.bind_eq_some_iff.mp H
          obtain ⟨t181, A410, H⟩ := H
          replace H : (if t181 = true then ((amount_Less.f k t165 t166 t168 t169).bind fun t182 => (if t182 = true then (trustquorumlaw35_AmountAssets.j0 k false t165 t166) else ((amount_Less.f k t168 t169 t165 t166).bind fun t183 => (if t183 = true then (trustquorumlaw35_AmountAssets.j0 k false t165 t166) else (trustquorumlaw35_AmountAssets.j0 k (!(t165.toList == t168.toList) || (!(t166 == t169))) t165 t166))))) else (trustquorumlaw35_AmountAssets.j0 k true t165 t166)) = some r := H
          have A41 := Aside0.mk A410
          clear A410
          by_cases c42 : t181 = true
          · subst c42
            have H1 : ((amount_Less.f k t165 t166 t168 t169).bind fun t182 => (if t182 = true then (trustquorumlaw35_AmountAssets.j0 k false t165 t166) else ((amount_Less.f k t168 t169 t165 t166).bind fun t183 => (if t183 = true then (trustquorumlaw35_AmountAssets.j0 k false t165 t166) else (trustquorumlaw35_AmountAssets.j0 k (!(t165.toList == t168.toList) || (!(t166 == t169))) t165 t166))))) = some r := by rw [if_pos rfl] at H; exact H
            clear H
            have H := H1
            clear H1
            replace H := Option.bind_eq_some_iff.mp H
            obtain ⟨t182, A430, H⟩ := H
            replace H : (if t182 = true then (trustquorumlaw35_AmountAssets.j0 k false t165 t166) else ((amount_Less.f k t168 t169 t165 t166).bind fun t183 => (if t183 = true then (trustquorumlaw35_AmountAssets.j0 k false t165 t166) else (trustquorumlaw35_AmountAssets.j0 k (!(t165.toList == t168.toList) || (!(t166 == t169))) t165 t166)))) = some r := H
            have A43 := Aside0.mk A430
            clear A430
            obtain rfl : true = t182 := Option.some.inj (A23.out.symm.trans A43.out)
            have H1 : (trustquorumlaw35_AmountAssets.j0 k false t165 t166) = some r := by rw [if_pos rfl] at H; exact H
            clear H
            have H := H1
            clear H1
            have H' := Aside0.mk H
            clear H
            have hnb44 := NB174_175.out
            have hnc44 := NB175_174.out
            have hnb45 := NB174_176.out
            have hnc45 := NB176_174.out
            have hnb46 := NB174_164.out
            have hnc46 := NB164_174.out
            have hcz47_0 : w13.cell? ⟨gb174, 0, none⟩ = some (.string (⟨#[]⟩ : ByteArray)) := (blk_cell BK174.out 0).trans rfl
            have hcz47_1 : w13.cell? ⟨gb174, 1, none⟩ = some (.int .i64 0) := (blk_cell BK174.out 1).trans rfl
            have hfz47_0 := blk_frozen BK174.out 0
            have hfz47_1 := blk_frozen BK174.out 1
            have hnb48 := NB175_176.out
            have hnc48 := NB176_175.out
            have hnb49 := NB175_164.out
            have hnc49 := NB164_175.out
            have hcz50_0 : w13.cell? ⟨gb175, 0, none⟩ = some (.string (⟨#[]⟩ : ByteArray)) := (blk_cell BK175.out 0).trans rfl
            have hcz50_1 : w13.cell? ⟨gb175, 1, none⟩ = some (.int .i64 0) := (blk_cell BK175.out 1).trans rfl
            have hfz50_0 := blk_frozen BK175.out 0
            have hfz50_1 := blk_frozen BK175.out 1
            go_wp2_with (first | ((with_reducible refine gate_callee (f := 17) rfl ?_); refine goesL_ (some 17) rfl rfl Try.func17 (by kernel_rfl) rfl #[.agg #[.string t165, .int .i64 t166], .agg #[.string t168, .int .i64 t169]] rfl (by (try simp only [List.map_toArray, List.map_cons, List.map_nil]); first | done | rfl | (simp only [List.length_drop, List.length_take]; rfl)) ?_; (with_reducible refine (amount_Less.calls k t165 t166 t168 t169 true _ A23.out).mono ?_); rintro e w51 ⟨rfl, hb⟩; refine ⟨_, rfl, ?_⟩; have n0_ := Aside0.mk (IsS52.below (show IsS52 w ((((((w13.setCell ⟨gb174, 0, none⟩ (.string t165)).setCell ⟨gb174, 1, none⟩ (.int .i64 t166)).setCell ⟨gb175, 0, none⟩ (.string t168)).setCell ⟨gb175, 1, none⟩ (.int .i64 t169)).setCell ⟨gb176, 0, none⟩ (.string t171)).setCell ⟨gb176, 1, none⟩ (.int .i64 t172)) g164 t162 t173 from by repeat (first | (with_reducible first | exact HI164.out | apply IsS52.alloc | apply IsS52.drewN | apply IsS52.drew | apply IsS52.set_1 | refine IsS52.far ?_ NB164_174.out _ | refine IsS52.far ?_ NB164_175.out _ | refine IsS52.far ?_ NB164_176.out _) | exact HI164.out)) hb); have n1_ := Aside0.mk (blk_below (g := gb174) (o := .cells #[.string t165, .int .i64 t166] 38 (0, 0)) (by (with_reducible repeat (first | refine blk_drewN ?_ _ | refine blk_drew ?_ | refine blk_alloc ?_ _)); refine blk_far ?_ NB174_176.out _; (with_reducible repeat (first | refine blk_drewN ?_ _ | refine blk_drew ?_ | refine blk_alloc ?_ _)); refine blk_far ?_ NB174_176.out _; (with_reducible repeat (first | refine blk_drewN ?_ _ | refine blk_drew ?_ | refine blk_alloc ?_ _)); refine blk_far ?_ NB174_175.out _; (with_reducible repeat (first | refine blk_drewN ?_ _ | refine blk_drew ?_ | refine blk_alloc ?_ _)); refine blk_far ?_ NB174_175.out _; (with_reducible repeat (first | refine blk_drewN ?_ _ | refine blk_drew ?_ | refine blk_alloc ?_ _)); refine blk_put (cs := #[.string t165, .int .i64 0]) ?_ 1 _ rfl; (with_reducible repeat (first | refine blk_drewN ?_ _ | refine blk_drew ?_ | refine blk_alloc ?_ _)); refine blk_put (cs := #[.string (⟨#[]⟩ : ByteArray), .int .i64 0]) ?_ 0 _ rfl; (with_reducible repeat (first | refine blk_drewN ?_ _ | refine blk_drew ?_ | refine blk_alloc ?_ _)); exact BK174.out) hb); have n2_ := Aside0.mk (blk_below (g := gb175) (o := .cells #[.string t168, .int .i64 t169] 38 (0, 0)) (by (with_reducible repeat (first | refine blk_drewN ?_ _ | refine blk_drew ?_ | refine blk_alloc ?_ _)); refine blk_far ?_ NB175_176.out _; (with_reducible repeat (first | refine blk_drewN ?_ _ | refine blk_drew ?_ | refine blk_alloc ?_ _)); refine blk_far ?_ NB175_176.out _; (with_reducible repeat (first | refine blk_drewN ?_ _ | refine blk_drew ?_ | refine blk_alloc ?_ _)); refine blk_put (cs := #[.string t168, .int .i64 0]) ?_ 1 _ rfl; (with_reducible repeat (first | refine blk_drewN ?_ _ | refine blk_drew ?_ | refine blk_alloc ?_ _)); refine blk_put (cs := #[.string (⟨#[]⟩ : ByteArray), .int .i64 0]) ?_ 0 _ rfl; (with_reducible repeat (first | refine blk_drewN ?_ _ | refine blk_drew ?_ | refine blk_alloc ?_ _)); refine blk_far ?_ NB175_174.out _; (with_reducible repeat (first | refine blk_drewN ?_ _ | refine blk_drew ?_ | refine blk_alloc ?_ _)); refine blk_far ?_ NB175_174.out _; (with_reducible repeat (first | refine blk_drewN ?_ _ | refine blk_drew ?_ | refine blk_alloc ?_ _)); exact BK175.out) hb); have n3_ := Aside0.mk (blk_below (g := gb176) (o := .cells #[.string t171, .int .i64 t172] 38 (0, 0)) (by (with_reducible repeat (first | refine blk_drewN ?_ _ | refine blk_drew ?_ | refine blk_alloc ?_ _)); refine blk_put (cs := #[.string t171, .int .i64 0]) ?_ 1 _ rfl; (with_reducible repeat (first | refine blk_drewN ?_ _ | refine blk_drew ?_ | refine blk_alloc ?_ _)); refine blk_put (cs := #[.string (⟨#[]⟩ : ByteArray), .int .i64 0]) ?_ 0 _ rfl; (with_reducible repeat (first | refine blk_drewN ?_ _ | refine blk_drew ?_ | refine blk_alloc ?_ _)); refine blk_far ?_ NB176_175.out _; (with_reducible repeat (first | refine blk_drewN ?_ _ | refine blk_drew ?_ | refine blk_alloc ?_ _)); refine blk_far ?_ NB176_175.out _; (with_reducible repeat (first | refine blk_drewN ?_ _ | refine blk_drew ?_ | refine blk_alloc ?_ _)); refine blk_far ?_ NB176_174.out _; (with_reducible repeat (first | refine blk_drewN ?_ _ | refine blk_drew ?_ | refine blk_alloc ?_ _)); refine blk_far ?_ NB176_174.out _; (with_reducible repeat (first | refine blk_drewN ?_ _ | refine blk_drew ?_ | refine blk_alloc ?_ _)); exact BK176.out) hb); have n4_ := Aside0.mk (below_step (by repeat (first | (with_reducible first | exact HB.out | apply below_alloc | apply pw_below_drewN | apply below_drew1 | refine below_set ?_ (IsS52.ge HI164.out) | refine below_set ?_ GE174.out | refine below_set ?_ GE175.out | refine below_set ?_ GE176.out) | exact HB.out)) hb); clear HI164; clear BK174; clear BK175; clear BK176; clear HB; have HI164 := n0_; have BK174 := n1_; have BK175 := n2_; have BK176 := n3_; have HB := n4_; clear n0_ n1_ n2_ n3_ n4_; (try clear hb); (try clear hb2); (try clear hk); (try clear hi); have hcz52_0 : w51.cell? ⟨gb175, 0, none⟩ = some (.string t168) := (blk_cell BK175.out 0).trans rfl; have hcz52_1 : w51.cell? ⟨gb175, 1, none⟩ = some (.int .i64 t169) := (blk_cell BK175.out 1).trans rfl; have hfz52_0 := blk_frozen BK175.out 0; have hfz52_1 := blk_frozen BK175.out 1; have hcz53_0 : w51.cell? ⟨gb174, 0, none⟩ = some (.string t165) := (blk_cell BK174.out 0).trans rfl; have hcz53_1 : w51.cell? ⟨gb174, 1, none⟩ = some (.int .i64 t166) := (blk_cell BK174.out 1).trans rfl; have hfz53_0 := blk_frozen BK174.out 0; have hfz53_1 := blk_frozen BK174.out 1) | (go_at_call 17; (with_reducible refine (amount_Less.calls k t168 t169 t165 t166 false _ A25.out).mono ?_); rintro e w54 ⟨rfl, hb⟩; have n0_ := Aside0.mk (IsS52.below (by repeat (first | (with_reducible first | exact HI164.out | apply IsS52.alloc | apply IsS52.drewN | apply IsS52.drew | apply IsS52.set_1 | refine IsS52.far ?_ NB164_174.out _ | refine IsS52.far ?_ NB164_175.out _ | refine IsS52.far ?_ NB164_176.out _) | exact HI164.out)) hb); have n1_ := Aside0.mk (blk_below (g := gb174) (o := .cells #[.string t165, .int .i64 t166] 38 (0, 0)) (by (with_reducible repeat (first | refine blk_drewN ?_ _ | refine blk_drew ?_ | refine blk_alloc ?_ _)); exact BK174.out) hb); have n2_ := Aside0.mk (blk_below (g := gb175) (o := .cells #[.string t168, .int .i64 t169] 38 (0, 0)) (by (with_reducible repeat (first | refine blk_drewN ?_ _ | refine blk_drew ?_ | refine blk_alloc ?_ _)); exact BK175.out) hb); have n3_ := Aside0.mk (blk_below (g := gb176) (o := .cells #[.string t171, .int .i64 t172] 38 (0, 0)) (by (with_reducible repeat (first | refine blk_drewN ?_ _ | refine blk_drew ?_ | refine blk_alloc ?_ _)); exact BK176.out) hb); have n4_ := Aside0.mk (below_step (by repeat (first | (with_reducible first | exact HB.out | apply below_alloc | apply pw_below_drewN | apply below_drew1 | refine below_set ?_ (IsS52.ge HI164.out) | refine below_set ?_ GE174.out | refine below_set ?_ GE175.out | refine below_set ?_ GE176.out) | exact HB.out)) hb); clear HI164; clear BK174; clear BK175; clear BK176; clear HB; have HI164 := n0_; have BK174 := n1_; have BK175 := n2_; have BK176 := n3_; have HB := n4_; clear n0_ n1_ n2_ n3_ n4_; (try clear hb); (try clear hb2); (try clear hk); (try clear hi); have hcz55_0 : w54.cell? ⟨gb174, 0, none⟩ = some (.string t165) := (blk_cell BK174.out 0).trans rfl; have hcz55_1 : w54.cell? ⟨gb174, 1, none⟩ = some (.int .i64 t166) := (blk_cell BK174.out 1).trans rfl; have hfz55_0 := blk_frozen BK174.out 0; have hfz55_1 := blk_frozen BK174.out 1; have hcz56_0 : w54.cell? ⟨gb175, 0, none⟩ = some (.string t168) := (blk_cell BK175.out 0).trans rfl; have hcz56_1 : w54.cell? ⟨gb175, 1, none⟩ = some (.int .i64 t169) := (blk_cell BK175.out 1).trans rfl; have hfz56_0 := blk_frozen BK175.out 0; have hfz56_1 := blk_frozen BK175.out 1) | (go_at_call 17; (with_reducible refine (amount_Less.calls k t165 t166 t168 t169 true _ A38.out).mono ?_); rintro e w57 ⟨rfl, hb⟩; have n0_ := Aside0.mk (IsS52.below (by repeat (first | (with_reducible first | exact HI164.out | apply IsS52.alloc | apply IsS52.drewN | apply IsS52.drew | apply IsS52.set_1 | refine IsS52.far ?_ NB164_174.out _ | refine IsS52.far ?_ NB164_175.out _ | refine IsS52.far ?_ NB164_176.out _) | exact HI164.out)) hb); have n1_ := Aside0.mk (blk_below (g := gb174) (o := .cells #[.string t165, .int .i64 t166] 38 (0, 0)) (by (with_reducible repeat (first | refine blk_drewN ?_ _ | refine blk_drew ?_ | refine blk_alloc ?_ _)); exact BK174.out) hb); have n2_ := Aside0.mk (blk_below (g := gb175) (o := .cells #[.string t168, .int .i64 t169] 38 (0, 0)) (by (with_reducible repeat (first | refine blk_drewN ?_ _ | refine blk_drew ?_ | refine blk_alloc ?_ _)); exact BK175.out) hb); have n3_ := Aside0.mk (blk_below (g := gb176) (o := .cells #[.string t171, .int .i64 t172] 38 (0, 0)) (by (with_reducible repeat (first | refine blk_drewN ?_ _ | refine blk_drew ?_ | refine blk_alloc ?_ _)); exact BK176.out) hb); have n4_ := Aside0.mk (below_step (by repeat (first | (with_reducible first | exact HB.out | apply below_alloc | apply pw_below_drewN | apply below_drew1 | refine below_set ?_ (IsS52.ge HI164.out) | refine below_set ?_ GE174.out | refine below_set ?_ GE175.out | refine below_set ?_ GE176.out) | exact HB.out)) hb); clear HI164; clear BK174; clear BK175; clear BK176; clear HB; have HI164 := n0_; have BK174 := n1_; have BK175 := n2_; have BK176 := n3_; have HB := n4_; clear n0_ n1_ n2_ n3_ n4_; (try clear hb); (try clear hb2); (try clear hk); (try clear hi); have hcz58_0 : w57.cell? ⟨gb175, 0, none⟩ = some (.string t168) := (blk_cell BK175.out 0).trans rfl; have hcz58_1 : w57.cell? ⟨gb175, 1, none⟩ = some (.int .i64 t169) := (blk_cell BK175.out 1).trans rfl; have hfz58_0 := blk_frozen BK175.out 0; have hfz58_1 := blk_frozen BK175.out 1; have hnb59 := NB176_164.out; have hnc59 := NB164_176.out; have hcz60_0 : w57.cell? ⟨gb176, 0, none⟩ = some (.string t171) := (blk_cell BK176.out 0).trans rfl; have hcz60_1 : w57.cell? ⟨gb176, 1, none⟩ = some (.int .i64 t172) := (blk_cell BK176.out 1).trans rfl; have hfz60_0 := blk_frozen BK176.out 0; have hfz60_1 := blk_frozen BK176.out 1) | (go_at_call 17; (with_reducible refine (amount_Less.calls k t168 t169 t171 t172 true _ A39.out).mono ?_); rintro e w61 ⟨rfl, hb⟩; have n0_ := Aside0.mk (IsS52.below (by repeat (first | (with_reducible first | exact HI164.out | apply IsS52.alloc | apply IsS52.drewN | apply IsS52.drew | apply IsS52.set_1 | refine IsS52.far ?_ NB164_174.out _ | refine IsS52.far ?_ NB164_175.out _ | refine IsS52.far ?_ NB164_176.out _) | exact HI164.out)) hb); have n1_ := Aside0.mk (blk_below (g := gb174) (o := .cells #[.string t165, .int .i64 t166] 38 (0, 0)) (by (with_reducible repeat (first | refine blk_drewN ?_ _ | refine blk_drew ?_ | refine blk_alloc ?_ _)); exact BK174.out) hb); have n2_ := Aside0.mk (blk_below (g := gb175) (o := .cells #[.string t168, .int .i64 t169] 38 (0, 0)) (by (with_reducible repeat (first | refine blk_drewN ?_ _ | refine blk_drew ?_ | refine blk_alloc ?_ _)); exact BK175.out) hb); have n3_ := Aside0.mk (blk_below (g := gb176) (o := .cells #[.string t171, .int .i64 t172] 38 (0, 0)) (by (with_reducible repeat (first | refine blk_drewN ?_ _ | refine blk_drew ?_ | refine blk_alloc ?_ _)); exact BK176.out) hb); have n4_ := Aside0.mk (below_step (by repeat (first | (with_reducible first | exact HB.out | apply below_alloc | apply pw_below_drewN | apply below_drew1 | refine below_set ?_ (IsS52.ge HI164.out) | refine below_set ?_ GE174.out | refine below_set ?_ GE175.out | refine below_set ?_ GE176.out) | exact HB.out)) hb); clear HI164; clear BK174; clear BK175; clear BK176; clear HB; have HI164 := n0_; have BK174 := n1_; have BK175 := n2_; have BK176 := n3_; have HB := n4_; clear n0_ n1_ n2_ n3_ n4_; (try clear hb); (try clear hb2); (try clear hk); (try clear hi); have hcz62_0 : w61.cell? ⟨gb174, 0, none⟩ = some (.string t165) := (blk_cell BK174.out 0).trans rfl; have hcz62_1 : w61.cell? ⟨gb174, 1, none⟩ = some (.int .i64 t166) := (blk_cell BK174.out 1).trans rfl; have hfz62_0 := blk_frozen BK174.out 0; have hfz62_1 := blk_frozen BK174.out 1; have hcz63_0 : w61.cell? ⟨gb176, 0, none⟩ = some (.string t171) := (blk_cell BK176.out 0).trans rfl; have hcz63_1 : w61.cell? ⟨gb176, 1, none⟩ = some (.int .i64 t172) := (blk_cell BK176.out 1).trans rfl; have hfz63_0 := blk_frozen BK176.out 0; have hfz63_1 := blk_frozen BK176.out 1) | (go_at_call 17; (with_reducible refine (amount_Less.calls k t165 t166 t171 t172 true _ A41.out).mono ?_); rintro e w64 ⟨rfl, hb⟩; have n0_ := Aside0.mk (IsS52.below (by repeat (first | (with_reducible first | exact HI164.out | apply IsS52.alloc | apply IsS52.drewN | apply IsS52.drew | apply IsS52.set_1 | refine IsS52.far ?_ NB164_174.out _ | refine IsS52.far ?_ NB164_175.out _ | refine IsS52.far ?_ NB164_176.out _) | exact HI164.out)) hb); have n1_ := Aside0.mk (blk_below (g := gb174) (o := .cells #[.string t165, .int .i64 t166] 38 (0, 0)) (by (with_reducible repeat (first | refine blk_drewN ?_ _ | refine blk_drew ?_ | refine blk_alloc ?_ _)); exact BK174.out) hb); have n2_ := Aside0.mk (blk_below (g := gb175) (o := .cells #[.string t168, .int .i64 t169] 38 (0, 0)) (by (with_reducible repeat (first | refine blk_drewN ?_ _ | refine blk_drew ?_ | refine blk_alloc ?_ _)); exact BK175.out) hb); have n3_ := Aside0.mk (blk_below (g := gb176) (o := .cells #[.string t171, .int .i64 t172] 38 (0, 0)) (by (with_reducible repeat (first | refine blk_drewN ?_ _ | refine blk_drew ?_ | refine blk_alloc ?_ _)); exact BK176.out) hb); have n4_ := Aside0.mk (below_step (by repeat (first | (with_reducible first | exact HB.out | apply below_alloc | apply pw_below_drewN | apply below_drew1 | refine below_set ?_ (IsS52.ge HI164.out) | refine below_set ?_ GE174.out | refine below_set ?_ GE175.out | refine below_set ?_ GE176.out) | exact HB.out)) hb); clear HI164; clear BK174; clear BK175; clear BK176; clear HB; have HI164 := n0_; have BK174 := n1_; have BK175 := n2_; have BK176 := n3_; have HB := n4_; clear n0_ n1_ n2_ n3_ n4_; (try clear hb); (try clear hb2); (try clear hk); (try clear hi); have hcz65_0 : w64.cell? ⟨gb174, 0, none⟩ = some (.string t165) := (blk_cell BK174.out 0).trans rfl; have hcz65_1 : w64.cell? ⟨gb174, 1, none⟩ = some (.int .i64 t166) := (blk_cell BK174.out 1).trans rfl; have hfz65_0 := blk_frozen BK174.out 0; have hfz65_1 := blk_frozen BK174.out 1; have hcz66_0 : w64.cell? ⟨gb175, 0, none⟩ = some (.string t168) := (blk_cell BK175.out 0).trans rfl; have hcz66_1 : w64.cell? ⟨gb175, 1, none⟩ = some (.int .i64 t169) := (blk_cell BK175.out 1).trans rfl; have hfz66_0 := blk_frozen BK175.out 0; have hfz66_1 := blk_frozen BK175.out 1) | (go_at_call 17; (with_reducible refine (amount_Less.calls k t165 t166 t168 t169 true _ A43.out).mono ?_); rintro e w67 ⟨rfl, hb⟩; have n0_ := Aside0.mk (IsS52.below (by repeat (first | (with_reducible first | exact HI164.out | apply IsS52.alloc | apply IsS52.drewN | apply IsS52.drew | apply IsS52.set_1 | refine IsS52.far ?_ NB164_174.out _ | refine IsS52.far ?_ NB164_175.out _ | refine IsS52.far ?_ NB164_176.out _) | exact HI164.out)) hb); have n1_ := Aside0.mk (blk_below (g := gb174) (o := .cells #[.string t165, .int .i64 t166] 38 (0, 0)) (by (with_reducible repeat (first | refine blk_drewN ?_ _ | refine blk_drew ?_ | refine blk_alloc ?_ _)); exact BK174.out) hb); have n2_ := Aside0.mk (blk_below (g := gb175) (o := .cells #[.string t168, .int .i64 t169] 38 (0, 0)) (by (with_reducible repeat (first | refine blk_drewN ?_ _ | refine blk_drew ?_ | refine blk_alloc ?_ _)); exact BK175.out) hb); have n3_ := Aside0.mk (blk_below (g := gb176) (o := .cells #[.string t171, .int .i64 t172] 38 (0, 0)) (by (with_reducible repeat (first | refine blk_drewN ?_ _ | refine blk_drew ?_ | refine blk_alloc ?_ _)); exact BK176.out) hb); have n4_ := Aside0.mk (below_step (by repeat (first | (with_reducible first | exact HB.out | apply below_alloc | apply pw_below_drewN | apply below_drew1 | refine below_set ?_ (IsS52.ge HI164.out) | refine below_set ?_ GE174.out | refine below_set ?_ GE175.out | refine below_set ?_ GE176.out) | exact HB.out)) hb); clear HI164; clear BK174; clear BK175; clear BK176; clear HB; have HI164 := n0_; have BK174 := n1_; have BK175 := n2_; have BK176 := n3_; have HB := n4_; clear n0_ n1_ n2_ n3_ n4_; (try clear hb); (try clear hb2); (try clear hk); (try clear hi)))
            go_meet
            case rel => exact ⟨_, (false), (by first | rfl | (simp; done) | (simp [*]; done)), H', ⟨by first | omega | exact Nat.le_refl _⟩, ⟨by (with_reducible repeat (first | refine blk_drewN ?_ _ | refine blk_drew ?_ | refine blk_alloc ?_ _)); exact BK174.out⟩, ⟨by (with_reducible repeat (first | refine blk_drewN ?_ _ | refine blk_drew ?_ | refine blk_alloc ?_ _)); exact BK175.out⟩, ⟨by (with_reducible repeat (first | refine blk_drewN ?_ _ | refine blk_drew ?_ | refine blk_alloc ?_ _)); exact BK176.out⟩, ⟨by repeat (first | (with_reducible first | exact HB.out | apply below_alloc | apply pw_below_drewN | apply below_drew1 | refine below_set ?_ (IsS52.ge HI164.out) | refine below_set ?_ GE174.out | refine below_set ?_ GE175.out | refine below_set ?_ GE176.out) | exact HB.out)⟩⟩
          · replace c42 := Bool.eq_false_iff.mpr c42
            subst c42
            have H1 : (trustquorumlaw35_AmountAssets.j0 k true t165 t166) = some r := by rw [if_neg (show ¬ (false = true) by decide)] at H; exact H
            clear H
            have H := H1
            clear H1
            have H' := Aside0.mk H
            clear H
            have hnb68 := NB174_175.out
            have hnc68 := NB175_174.out
            have hnb69 := NB174_176.out
            have hnc69 := NB176_174.out
            have hnb70 := NB174_164.out
            have hnc70 := NB164_174.out
            have hcz71_0 : w13.cell? ⟨gb174, 0, none⟩ = some (.string (⟨#[]⟩ : ByteArray)) := (blk_cell BK174.out 0).trans rfl
            have hcz71_1 : w13.cell? ⟨gb174, 1, none⟩ = some (.int .i64 0) := (blk_cell BK174.out 1).trans rfl
            have hfz71_0 := blk_frozen BK174.out 0
            have hfz71_1 := blk_frozen BK174.out 1
            have hnb72 := NB175_176.out
            have hnc72 := NB176_175.out
            have hnb73 := NB175_164.out
            have hnc73 := NB164_175.out
            have hcz74_0 : w13.cell? ⟨gb175, 0, none⟩ = some (.string (⟨#[]⟩ : ByteArray)) := (blk_cell BK175.out 0).trans rfl
            have hcz74_1 : w13.cell? ⟨gb175, 1, none⟩ = some (.int .i64 0) := (blk_cell BK175.out 1).trans rfl
            have hfz74_0 := blk_frozen BK175.out 0
            have hfz74_1 := blk_frozen BK175.out 1
            go_wp2_with (first | ((with_reducible refine gate_callee (f := 17) rfl ?_); refine goesL_ (some 17) rfl rfl Try.func17 (by kernel_rfl) rfl #[.agg #[.string t165, .int .i64 t166], .agg #[.string t168, .int .i64 t169]] rfl (by (try simp only [List.map_toArray, List.map_cons, List.map_nil]); first | done | rfl | (simp only [List.length_drop, List.length_take]; rfl)) ?_; (with_reducible refine (amount_Less.calls k t165 t166 t168 t169 true _ A23.out).mono ?_); rintro e w75 ⟨rfl, hb⟩; refine ⟨_, rfl, ?_⟩; have n0_ := Aside0.mk (IsS52.below (show IsS52 w ((((((w13.setCell ⟨gb174, 0, none⟩ (.string t165)).setCell ⟨gb174, 1, none⟩ (.int .i64 t166)).setCell ⟨gb175, 0, none⟩ (.string t168)).setCell ⟨gb175, 1, none⟩ (.int .i64 t169)).setCell ⟨gb176, 0, none⟩ (.string t171)).setCell ⟨gb176, 1, none⟩ (.int .i64 t172)) g164 t162 t173 from by repeat (first | (with_reducible first | exact HI164.out | apply IsS52.alloc | apply IsS52.drewN | apply IsS52.drew | apply IsS52.set_1 | refine IsS52.far ?_ NB164_174.out _ | refine IsS52.far ?_ NB164_175.out _ | refine IsS52.far ?_ NB164_176.out _) | exact HI164.out)) hb); have n1_ := Aside0.mk (blk_below (g := gb174) (o := .cells #[.string t165, .int .i64 t166] 38 (0, 0)) (by (with_reducible repeat (first | refine blk_drewN ?_ _ | refine blk_drew ?_ | refine blk_alloc ?_ _)); refine blk_far ?_ NB174_176.out _; (with_reducible repeat (first | refine blk_drewN ?_ _ | refine blk_drew ?_ | refine blk_alloc ?_ _)); refine blk_far ?_ NB174_176.out _; (with_reducible repeat (first | refine blk_drewN ?_ _ | refine blk_drew ?_ | refine blk_alloc ?_ _)); refine blk_far ?_ NB174_175.out _; (with_reducible repeat (first | refine blk_drewN ?_ _ | refine blk_drew ?_ | refine blk_alloc ?_ _)); refine blk_far ?_ NB174_175.out _; (with_reducible repeat (first | refine blk_drewN ?_ _ | refine blk_drew ?_ | refine blk_alloc ?_ _)); refine blk_put (cs := #[.string t165, .int .i64 0]) ?_ 1 _ rfl; (with_reducible repeat (first | refine blk_drewN ?_ _ | refine blk_drew ?_ | refine blk_alloc ?_ _)); refine blk_put (cs := #[.string (⟨#[]⟩ : ByteArray), .int .i64 0]) ?_ 0 _ rfl; (with_reducible repeat (first | refine blk_drewN ?_ _ | refine blk_drew ?_ | refine blk_alloc ?_ _)); exact BK174.out) hb); have n2_ := Aside0.mk (blk_below (g := gb175) (o := .cells #[.string t168, .int .i64 t169] 38 (0, 0)) (by (with_reducible repeat (first | refine blk_drewN ?_ _ | refine blk_drew ?_ | refine blk_alloc ?_ _)); refine blk_far ?_ NB175_176.out _; (with_reducible repeat (first | refine blk_drewN ?_ _ | refine blk_drew ?_ | refine blk_alloc ?_ _)); refine blk_far ?_ NB175_176.out _; (with_reducible repeat (first | refine blk_drewN ?_ _ | refine blk_drew ?_ | refine blk_alloc ?_ _)); refine blk_put (cs := #[.string t168, .int .i64 0]) ?_ 1 _ rfl; (with_reducible repeat (first | refine blk_drewN ?_ _ | refine blk_drew ?_ | refine blk_alloc ?_ _)); refine blk_put (cs := #[.string (⟨#[]⟩ : ByteArray), .int .i64 0]) ?_ 0 _ rfl; (with_reducible repeat (first | refine blk_drewN ?_ _ | refine blk_drew ?_ | refine blk_alloc ?_ _)); refine blk_far ?_ NB175_174.out _; (with_reducible repeat (first | refine blk_drewN ?_ _ | refine blk_drew ?_ | refine blk_alloc ?_ _)); refine blk_far ?_ NB175_174.out _; (with_reducible repeat (first | refine blk_drewN ?_ _ | refine blk_drew ?_ | refine blk_alloc ?_ _)); exact BK175.out) hb); have n3_ := Aside0.mk (blk_below (g := gb176) (o := .cells #[.string t171, .int .i64 t172] 38 (0, 0)) (by (with_reducible repeat (first | refine blk_drewN ?_ _ | refine blk_drew ?_ | refine blk_alloc ?_ _)); refine blk_put (cs := #[.string t171, .int .i64 0]) ?_ 1 _ rfl; (with_reducible repeat (first | refine blk_drewN ?_ _ | refine blk_drew ?_ | refine blk_alloc ?_ _)); refine blk_put (cs := #[.string (⟨#[]⟩ : ByteArray), .int .i64 0]) ?_ 0 _ rfl; (with_reducible repeat (first | refine blk_drewN ?_ _ | refine blk_drew ?_ | refine blk_alloc ?_ _)); refine blk_far ?_ NB176_175.out _; (with_reducible repeat (first | refine blk_drewN ?_ _ | refine blk_drew ?_ | refine blk_alloc ?_ _)); refine blk_far ?_ NB176_175.out _; (with_reducible repeat (first | refine blk_drewN ?_ _ | refine blk_drew ?_ | refine blk_alloc ?_ _)); refine blk_far ?_ NB176_174.out _; (with_reducible repeat (first | refine blk_drewN ?_ _ | refine blk_drew ?_ | refine blk_alloc ?_ _)); refine blk_far ?_ NB176_174.out _; (with_reducible repeat (first | refine blk_drewN ?_ _ | refine blk_drew ?_ | refine blk_alloc ?_ _)); exact BK176.out) hb); have n4_ := Aside0.mk (below_step (by repeat (first | (with_reducible first | exact HB.out | apply below_alloc | apply pw_below_drewN | apply below_drew1 | refine below_set ?_ (IsS52.ge HI164.out) | refine below_set ?_ GE174.out | refine below_set ?_ GE175.out | refine below_set ?_ GE176.out) | exact HB.out)) hb); clear HI164; clear BK174; clear BK175; clear BK176; clear HB; have HI164 := n0_; have BK174 := n1_; have BK175 := n2_; have BK176 := n3_; have HB := n4_; clear n0_ n1_ n2_ n3_ n4_; (try clear hb); (try clear hb2); (try clear hk); (try clear hi); have hcz76_0 : w75.cell? ⟨gb175, 0, none⟩ = some (.string t168) := (blk_cell BK175.out 0).trans rfl; have hcz76_1 : w75.cell? ⟨gb175, 1, none⟩ = some (.int .i64 t169) := (blk_cell BK175.out 1).trans rfl; have hfz76_0 := blk_frozen BK175.out 0; have hfz76_1 := blk_frozen BK175.out 1; have hcz77_0 : w75.cell? ⟨gb174, 0, none⟩ = some (.string t165) := (blk_cell BK174.out 0).trans rfl; have hcz77_1 : w75.cell? ⟨gb174, 1, none⟩ = some (.int .i64 t166) := (blk_cell BK174.out 1).trans rfl; have hfz77_0 := blk_frozen BK174.out 0; have hfz77_1 := blk_frozen BK174.out 1) | (go_at_call 17; (with_reducible refine (amount_Less.calls k t168 t169 t165 t166 false _ A25.out).mono ?_); rintro e w78 ⟨rfl, hb⟩; have n0_ := Aside0.mk (IsS52.below (by repeat (first | (with_reducible first | exact HI164.out | apply IsS52.alloc | apply IsS52.drewN | apply IsS52.drew | apply IsS52.set_1 | refine IsS52.far ?_ NB164_174.out _ | refine IsS52.far ?_ NB164_175.out _ | refine IsS52.far ?_ NB164_176.out _) | exact HI164.out)) hb); have n1_ := Aside0.mk (blk_below (g := gb174) (o := .cells #[.string t165, .int .i64 t166] 38 (0, 0)) (by (with_reducible repeat (first | refine blk_drewN ?_ _ | refine blk_drew ?_ | refine blk_alloc ?_ _)); exact BK174.out) hb); have n2_ := Aside0.mk (blk_below (g := gb175) (o := .cells #[.string t168, .int .i64 t169] 38 (0, 0)) (by (with_reducible repeat (first | refine blk_drewN ?_ _ | refine blk_drew ?_ | refine blk_alloc ?_ _)); exact BK175.out) hb); have n3_ := Aside0.mk (blk_below (g := gb176) (o := .cells #[.string t171, .int .i64 t172] 38 (0, 0)) (by (with_reducible repeat (first | refine blk_drewN ?_ _ | refine blk_drew ?_ | refine blk_alloc ?_ _)); exact BK176.out) hb); have n4_ := Aside0.mk (below_step (by repeat (first | (with_reducible first | exact HB.out | apply below_alloc | apply pw_below_drewN | apply below_drew1 | refine below_set ?_ (IsS52.ge HI164.out) | refine below_set ?_ GE174.out | refine below_set ?_ GE175.out | refine below_set ?_ GE176.out) | exact HB.out)) hb); clear HI164; clear BK174; clear BK175; clear BK176; clear HB; have HI164 := n0_; have BK174 := n1_; have BK175 := n2_; have BK176 := n3_; have HB := n4_; clear n0_ n1_ n2_ n3_ n4_; (try clear hb); (try clear hb2); (try clear hk); (try clear hi); have hcz79_0 : w78.cell? ⟨gb174, 0, none⟩ = some (.string t165) := (blk_cell BK174.out 0).trans rfl; have hcz79_1 : w78.cell? ⟨gb174, 1, none⟩ = some (.int .i64 t166) := (blk_cell BK174.out 1).trans rfl; have hfz79_0 := blk_frozen BK174.out 0; have hfz79_1 := blk_frozen BK174.out 1; have hcz80_0 : w78.cell? ⟨gb175, 0, none⟩ = some (.string t168) := (blk_cell BK175.out 0).trans rfl; have hcz80_1 : w78.cell? ⟨gb175, 1, none⟩ = some (.int .i64 t169) := (blk_cell BK175.out 1).trans rfl; have hfz80_0 := blk_frozen BK175.out 0; have hfz80_1 := blk_frozen BK175.out 1) | (go_at_call 17; (with_reducible refine (amount_Less.calls k t165 t166 t168 t169 true _ A38.out).mono ?_); rintro e w81 ⟨rfl, hb⟩; have n0_ := Aside0.mk (IsS52.below (by repeat (first | (with_reducible first | exact HI164.out | apply IsS52.alloc | apply IsS52.drewN | apply IsS52.drew | apply IsS52.set_1 | refine IsS52.far ?_ NB164_174.out _ | refine IsS52.far ?_ NB164_175.out _ | refine IsS52.far ?_ NB164_176.out _) | exact HI164.out)) hb); have n1_ := Aside0.mk (blk_below (g := gb174) (o := .cells #[.string t165, .int .i64 t166] 38 (0, 0)) (by (with_reducible repeat (first | refine blk_drewN ?_ _ | refine blk_drew ?_ | refine blk_alloc ?_ _)); exact BK174.out) hb); have n2_ := Aside0.mk (blk_below (g := gb175) (o := .cells #[.string t168, .int .i64 t169] 38 (0, 0)) (by (with_reducible repeat (first | refine blk_drewN ?_ _ | refine blk_drew ?_ | refine blk_alloc ?_ _)); exact BK175.out) hb); have n3_ := Aside0.mk (blk_below (g := gb176) (o := .cells #[.string t171, .int .i64 t172] 38 (0, 0)) (by (with_reducible repeat (first | refine blk_drewN ?_ _ | refine blk_drew ?_ | refine blk_alloc ?_ _)); exact BK176.out) hb); have n4_ := Aside0.mk (below_step (by repeat (first | (with_reducible first | exact HB.out | apply below_alloc | apply pw_below_drewN | apply below_drew1 | refine below_set ?_ (IsS52.ge HI164.out) | refine below_set ?_ GE174.out | refine below_set ?_ GE175.out | refine below_set ?_ GE176.out) | exact HB.out)) hb); clear HI164; clear BK174; clear BK175; clear BK176; clear HB; have HI164 := n0_; have BK174 := n1_; have BK175 := n2_; have BK176 := n3_; have HB := n4_; clear n0_ n1_ n2_ n3_ n4_; (try clear hb); (try clear hb2); (try clear hk); (try clear hi); have hcz82_0 : w81.cell? ⟨gb175, 0, none⟩ = some (.string t168) := (blk_cell BK175.out 0).trans rfl; have hcz82_1 : w81.cell? ⟨gb175, 1, none⟩ = some (.int .i64 t169) := (blk_cell BK175.out 1).trans rfl; have hfz82_0 := blk_frozen BK175.out 0; have hfz82_1 := blk_frozen BK175.out 1; have hnb83 := NB176_164.out; have hnc83 := NB164_176.out; have hcz84_0 : w81.cell? ⟨gb176, 0, none⟩ = some (.string t171) := (blk_cell BK176.out 0).trans rfl; have hcz84_1 : w81.cell? ⟨gb176, 1, none⟩ = some (.int .i64 t172) := (blk_cell BK176.out 1).trans rfl; have hfz84_0 := blk_frozen BK176.out 0; have hfz84_1 := blk_frozen BK176.out 1) | (go_at_call 17; (with_reducible refine (amount_Less.calls k t168 t169 t171 t172 true _ A39.out).mono ?_); rintro e w85 ⟨rfl, hb⟩; have n0_ := Aside0.mk (IsS52.below (by repeat (first | (with_reducible first | exact HI164.out | apply IsS52.alloc | apply IsS52.drewN | apply IsS52.drew | apply IsS52.set_1 | refine IsS52.far ?_ NB164_174.out _ | refine IsS52.far ?_ NB164_175.out _ | refine IsS52.far ?_ NB164_176.out _) | exact HI164.out)) hb); have n1_ := Aside0.mk (blk_below (g := gb174) (o := .cells #[.string t165, .int .i64 t166] 38 (0, 0)) (by (with_reducible repeat (first | refine blk_drewN ?_ _ | refine blk_drew ?_ | refine blk_alloc ?_ _)); exact BK174.out) hb); have n2_ := Aside0.mk (blk_below (g := gb175) (o := .cells #[.string t168, .int .i64 t169] 38 (0, 0)) (by (with_reducible repeat (first | refine blk_drewN ?_ _ | refine blk_drew ?_ | refine blk_alloc ?_ _)); exact BK175.out) hb); have n3_ := Aside0.mk (blk_below (g := gb176) (o := .cells #[.string t171, .int .i64 t172] 38 (0, 0)) (by (with_reducible repeat (first | refine blk_drewN ?_ _ | refine blk_drew ?_ | refine blk_alloc ?_ _)); exact BK176.out) hb); have n4_ := Aside0.mk (below_step (by repeat (first | (with_reducible first | exact HB.out | apply below_alloc | apply pw_below_drewN | apply below_drew1 | refine below_set ?_ (IsS52.ge HI164.out) | refine below_set ?_ GE174.out | refine below_set ?_ GE175.out | refine below_set ?_ GE176.out) | exact HB.out)) hb); clear HI164; clear BK174; clear BK175; clear BK176; clear HB; have HI164 := n0_; have BK174 := n1_; have BK175 := n2_; have BK176 := n3_; have HB := n4_; clear n0_ n1_ n2_ n3_ n4_; (try clear hb); (try clear hb2); (try clear hk); (try clear hi); have hcz86_0 : w85.cell? ⟨gb174, 0, none⟩ = some (.string t165) := (blk_cell BK174.out 0).trans rfl; have hcz86_1 : w85.cell? ⟨gb174, 1, none⟩ = some (.int .i64 t166) := (blk_cell BK174.out 1).trans rfl; have hfz86_0 := blk_frozen BK174.out 0; have hfz86_1 := blk_frozen BK174.out 1; have hcz87_0 : w85.cell? ⟨gb176, 0, none⟩ = some (.string t171) := (blk_cell BK176.out 0).trans rfl; have hcz87_1 : w85.cell? ⟨gb176, 1, none⟩ = some (.int .i64 t172) := (blk_cell BK176.out 1).trans rfl; have hfz87_0 := blk_frozen BK176.out 0; have hfz87_1 := blk_frozen BK176.out 1) | (go_at_call 17; (with_reducible refine (amount_Less.calls k t165 t166 t171 t172 false _ A41.out).mono ?_); rintro e w88 ⟨rfl, hb⟩; have n0_ := Aside0.mk (IsS52.below (by repeat (first | (with_reducible first | exact HI164.out | apply IsS52.alloc | apply IsS52.drewN | apply IsS52.drew | apply IsS52.set_1 | refine IsS52.far ?_ NB164_174.out _ | refine IsS52.far ?_ NB164_175.out _ | refine IsS52.far ?_ NB164_176.out _) | exact HI164.out)) hb); have n1_ := Aside0.mk (blk_below (g := gb174) (o := .cells #[.string t165, .int .i64 t166] 38 (0, 0)) (by (with_reducible repeat (first | refine blk_drewN ?_ _ | refine blk_drew ?_ | refine blk_alloc ?_ _)); exact BK174.out) hb); have n2_ := Aside0.mk (blk_below (g := gb175) (o := .cells #[.string t168, .int .i64 t169] 38 (0, 0)) (by (with_reducible repeat (first | refine blk_drewN ?_ _ | refine blk_drew ?_ | refine blk_alloc ?_ _)); exact BK175.out) hb); have n3_ := Aside0.mk (blk_below (g := gb176) (o := .cells #[.string t171, .int .i64 t172] 38 (0, 0)) (by (with_reducible repeat (first | refine blk_drewN ?_ _ | refine blk_drew ?_ | refine blk_alloc ?_ _)); exact BK176.out) hb); have n4_ := Aside0.mk (below_step (by repeat (first | (with_reducible first | exact HB.out | apply below_alloc | apply pw_below_drewN | apply below_drew1 | refine below_set ?_ (IsS52.ge HI164.out) | refine below_set ?_ GE174.out | refine below_set ?_ GE175.out | refine below_set ?_ GE176.out) | exact HB.out)) hb); clear HI164; clear BK174; clear BK175; clear BK176; clear HB; have HI164 := n0_; have BK174 := n1_; have BK175 := n2_; have BK176 := n3_; have HB := n4_; clear n0_ n1_ n2_ n3_ n4_; (try clear hb); (try clear hb2); (try clear hk); (try clear hi)))
            go_meet
            case rel => exact ⟨_, (true), (by first | rfl | (simp; done) | (simp [*]; done)), H', ⟨by first | omega | exact Nat.le_refl _⟩, ⟨by (with_reducible repeat (first | refine blk_drewN ?_ _ | refine blk_drew ?_ | refine blk_alloc ?_ _)); exact BK174.out⟩, ⟨by (with_reducible repeat (first | refine blk_drewN ?_ _ | refine blk_drew ?_ | refine blk_alloc ?_ _)); exact BK175.out⟩, ⟨by (with_reducible repeat (first | refine blk_drewN ?_ _ | refine blk_drew ?_ | refine blk_alloc ?_ _)); exact BK176.out⟩, ⟨by repeat (first | (with_reducible first | exact HB.out | apply below_alloc | apply pw_below_drewN | apply below_drew1 | refine below_set ?_ (IsS52.ge HI164.out) | refine below_set ?_ GE174.out | refine below_set ?_ GE175.out | refine below_set ?_ GE176.out) | exact HB.out)⟩⟩
        · replace c40 := Bool.eq_false_iff.mpr c40
          subst c40
          have H1 : ((amount_Less.f k t165 t166 t168 t169).bind fun t184 => (if t184 = true then (trustquorumlaw35_AmountAssets.j0 k false t165 t166) else ((amount_Less.f k t168 t169 t165 t166).bind fun t185 => (if t185 = true then (trustquorumlaw35_AmountAssets.j0 k false t165 t166) else (trustquorumlaw35_AmountAssets.j0 k (!(t165.toList == t168.toList) || (!(t166 == t169))) t165 t166))))) = some r := by rw [if_neg (show ¬ (false = true) by decide)] at H; exact H
          clear H
          have H := H1
          clear H1
          replace H := Option.bind_eq_some_iff.mp H
          obtain ⟨t184, A890, H⟩ := H
          replace H : (if t184 = true then (trustquorumlaw35_AmountAssets.j0 k false t165 t166) else ((amount_Less.f k t168 t169 t165 t166).bind fun t185 => (if t185 = true then (trustquorumlaw35_AmountAssets.j0 k false t165 t166) else (trustquorumlaw35_AmountAssets.j0 k (!(t165.toList == t168.toList) || (!(t166 == t169))) t165 t166)))) = some r := H
          have A89 := Aside0.mk A890
          clear A890
          obtain rfl : true = t184 := Option.some.inj (A23.out.symm.trans A89.out)
          have H1 : (trustquorumlaw35_AmountAssets.j0 k false t165 t166) = some r := by rw [if_pos rfl] at H; exact H
          clear H
          have H := H1
          clear H1
          have H' := Aside0.mk H
          clear H
          have hnb90 := NB174_175.out
          have hnc90 := NB175_174.out
          have hnb91 := NB174_176.out
          have hnc91 := NB176_174.out
          have hnb92 := NB174_164.out
          have hnc92 := NB164_174.out
          have hcz93_0 : w13.cell? ⟨gb174, 0, none⟩ = some (.string (⟨#[]⟩ : ByteArray)) := (blk_cell BK174.out 0).trans rfl
          have hcz93_1 : w13.cell? ⟨gb174, 1, none⟩ = some (.int .i64 0) := (blk_cell BK174.out 1).trans rfl
          have hfz93_0 := blk_frozen BK174.out 0
          have hfz93_1 := blk_frozen BK174.out 1
          have hnb94 := NB175_176.out
          have hnc94 := NB176_175.out
          have hnb95 := NB175_164.out
          have hnc95 := NB164_175.out
          have hcz96_0 : w13.cell? ⟨gb175, 0, none⟩ = some (.string (⟨#[]⟩ : ByteArray)) := (blk_cell BK175.out 0).trans rfl
          have hcz96_1 : w13.cell? ⟨gb175, 1, none⟩ = some (.int .i64 0) := (blk_cell BK175.out 1).trans rfl
          have hfz96_0 := blk_frozen BK175.out 0
          have hfz96_1 := blk_frozen BK175.out 1
          go_wp2_with (first | ((with_reducible refine gate_callee (f := 17) rfl ?_); refine goesL_ (some 17) rfl rfl Try.func17 (by kernel_rfl) rfl #[.agg #[.string t165, .int .i64 t166], .agg #[.string t168, .int .i64 t169]] rfl (by (try simp only [List.map_toArray, List.map_cons, List.map_nil]); first | done | rfl | (simp only [List.length_drop, List.length_take]; rfl)) ?_; (with_reducible refine (amount_Less.calls k t165 t166 t168 t169 true _ A23.out).mono ?_); rintro e w97 ⟨rfl, hb⟩; refine ⟨_, rfl, ?_⟩; have n0_ := Aside0.mk (IsS52.below (show IsS52 w ((((((w13.setCell ⟨gb174, 0, none⟩ (.string t165)).setCell ⟨gb174, 1, none⟩ (.int .i64 t166)).setCell ⟨gb175, 0, none⟩ (.string t168)).setCell ⟨gb175, 1, none⟩ (.int .i64 t169)).setCell ⟨gb176, 0, none⟩ (.string t171)).setCell ⟨gb176, 1, none⟩ (.int .i64 t172)) g164 t162 t173 from by repeat (first | (with_reducible first | exact HI164.out | apply IsS52.alloc | apply IsS52.drewN | apply IsS52.drew | apply IsS52.set_1 | refine IsS52.far ?_ NB164_174.out _ | refine IsS52.far ?_ NB164_175.out _ | refine IsS52.far ?_ NB164_176.out _) | exact HI164.out)) hb); have n1_ := Aside0.mk (blk_below (g := gb174) (o := .cells #[.string t165, .int .i64 t166] 38 (0, 0)) (by (with_reducible repeat (first | refine blk_drewN ?_ _ | refine blk_drew ?_ | refine blk_alloc ?_ _)); refine blk_far ?_ NB174_176.out _; (with_reducible repeat (first | refine blk_drewN ?_ _ | refine blk_drew ?_ | refine blk_alloc ?_ _)); refine blk_far ?_ NB174_176.out _; (with_reducible repeat (first | refine blk_drewN ?_ _ | refine blk_drew ?_ | refine blk_alloc ?_ _)); refine blk_far ?_ NB174_175.out _; (with_reducible repeat (first | refine blk_drewN ?_ _ | refine blk_drew ?_ | refine blk_alloc ?_ _)); refine blk_far ?_ NB174_175.out _; (with_reducible repeat (first | refine blk_drewN ?_ _ | refine blk_drew ?_ | refine blk_alloc ?_ _)); refine blk_put (cs := #[.string t165, .int .i64 0]) ?_ 1 _ rfl; (with_reducible repeat (first | refine blk_drewN ?_ _ | refine blk_drew ?_ | refine blk_alloc ?_ _)); refine blk_put (cs := #[.string (⟨#[]⟩ : ByteArray), .int .i64 0]) ?_ 0 _ rfl; (with_reducible repeat (first | refine blk_drewN ?_ _ | refine blk_drew ?_ | refine blk_alloc ?_ _)); exact BK174.out) hb); have n2_ := Aside0.mk (blk_below (g := gb175) (o := .cells #[.string t168, .int .i64 t169] 38 (0, 0)) (by (with_reducible repeat (first | refine blk_drewN ?_ _ | refine blk_drew ?_ | refine blk_alloc ?_ _)); refine blk_far ?_ NB175_176.out _; (with_reducible repeat (first | refine blk_drewN ?_ _ | refine blk_drew ?_ | refine blk_alloc ?_ _)); refine blk_far ?_ NB175_176.out _; (with_reducible repeat (first | refine blk_drewN ?_ _ | refine blk_drew ?_ | refine blk_alloc ?_ _)); refine blk_put (cs := #[.string t168, .int .i64 0]) ?_ 1 _ rfl; (with_reducible repeat (first | refine blk_drewN ?_ _ | refine blk_drew ?_ | refine blk_alloc ?_ _)); refine blk_put (cs := #[.string (⟨#[]⟩ : ByteArray), .int .i64 0]) ?_ 0 _ rfl; (with_reducible repeat (first | refine blk_drewN ?_ _ | refine blk_drew ?_ | refine blk_alloc ?_ _)); refine blk_far ?_ NB175_174.out _; (with_reducible repeat (first | refine blk_drewN ?_ _ | refine blk_drew ?_ | refine blk_alloc ?_ _)); refine blk_far ?_ NB175_174.out _; (with_reducible repeat (first | refine blk_drewN ?_ _ | refine blk_drew ?_ | refine blk_alloc ?_ _)); exact BK175.out) hb); have n3_ := Aside0.mk (blk_below (g := gb176) (o := .cells #[.string t171, .int .i64 t172] 38 (0, 0)) (by (with_reducible repeat (first | refine blk_drewN ?_ _ | refine blk_drew ?_ | refine blk_alloc ?_ _)); refine blk_put (cs := #[.string t171, .int .i64 0]) ?_ 1 _ rfl; (with_reducible repeat (first | refine blk_drewN ?_ _ | refine blk_drew ?_ | refine blk_alloc ?_ _)); refine blk_put (cs := #[.string (⟨#[]⟩ : ByteArray), .int .i64 0]) ?_ 0 _ rfl; (with_reducible repeat (first | refine blk_drewN ?_ _ | refine blk_drew ?_ | refine blk_alloc ?_ _)); refine blk_far ?_ NB176_175.out _; (with_reducible repeat (first | refine blk_drewN ?_ _ | refine blk_drew ?_ | refine blk_alloc ?_ _)); refine blk_far ?_ NB176_175.out _; (with_reducible repeat (first | refine blk_drewN ?_ _ | refine blk_drew ?_ | refine blk_alloc ?_ _)); refine blk_far ?_ NB176_174.out _; (with_reducible repeat (first | refine blk_drewN ?_ _ | refine blk_drew ?_ | refine blk_alloc ?_ _)); refine blk_far ?_ NB176_174.out _; (with_reducible repeat (first | refine blk_drewN ?_ _ | refine blk_drew ?_ | refine blk_alloc ?_ _)); exact BK176.out) hb); have n4_ := Aside0.mk (below_step (by repeat (first | (with_reducible first | exact HB.out | apply below_alloc | apply pw_below_drewN | apply below_drew1 | refine below_set ?_ (IsS52.ge HI164.out) | refine below_set ?_ GE174.out | refine below_set ?_ GE175.out | refine below_set ?_ GE176.out) | exact HB.out)) hb); clear HI164; clear BK174; clear BK175; clear BK176; clear HB; have HI164 := n0_; have BK174 := n1_; have BK175 := n2_; have BK176 := n3_; have HB := n4_; clear n0_ n1_ n2_ n3_ n4_; (try clear hb); (try clear hb2); (try clear hk); (try clear hi); have hcz98_0 : w97.cell? ⟨gb175, 0, none⟩ = some (.string t168) := (blk_cell BK175.out 0).trans rfl; have hcz98_1 : w97.cell? ⟨gb175, 1, none⟩ = some (.int .i64 t169) := (blk_cell BK175.out 1).trans rfl; have hfz98_0 := blk_frozen BK175.out 0; have hfz98_1 := blk_frozen BK175.out 1; have hcz99_0 : w97.cell? ⟨gb174, 0, none⟩ = some (.string t165) := (blk_cell BK174.out 0).trans rfl; have hcz99_1 : w97.cell? ⟨gb174, 1, none⟩ = some (.int .i64 t166) := (blk_cell BK174.out 1).trans rfl; have hfz99_0 := blk_frozen BK174.out 0; have hfz99_1 := blk_frozen BK174.out 1) | (go_at_call 17; (with_reducible refine (amount_Less.calls k t168 t169 t165 t166 false _ A25.out).mono ?_); rintro e w100 ⟨rfl, hb⟩; have n0_ := Aside0.mk (IsS52.below (by repeat (first | (with_reducible first | exact HI164.out | apply IsS52.alloc | apply IsS52.drewN | apply IsS52.drew | apply IsS52.set_1 | refine IsS52.far ?_ NB164_174.out _ | refine IsS52.far ?_ NB164_175.out _ | refine IsS52.far ?_ NB164_176.out _) | exact HI164.out)) hb); have n1_ := Aside0.mk (blk_below (g := gb174) (o := .cells #[.string t165, .int .i64 t166] 38 (0, 0)) (by (with_reducible repeat (first | refine blk_drewN ?_ _ | refine blk_drew ?_ | refine blk_alloc ?_ _)); exact BK174.out) hb); have n2_ := Aside0.mk (blk_below (g := gb175) (o := .cells #[.string t168, .int .i64 t169] 38 (0, 0)) (by (with_reducible repeat (first | refine blk_drewN ?_ _ | refine blk_drew ?_ | refine blk_alloc ?_ _)); exact BK175.out) hb); have n3_ := Aside0.mk (blk_below (g := gb176) (o := .cells #[.string t171, .int .i64 t172] 38 (0, 0)) (by (with_reducible repeat (first | refine blk_drewN ?_ _ | refine blk_drew ?_ | refine blk_alloc ?_ _)); exact BK176.out) hb); have n4_ := Aside0.mk (below_step (by repeat (first | (with_reducible first | exact HB.out | apply below_alloc | apply pw_below_drewN | apply below_drew1 | refine below_set ?_ (IsS52.ge HI164.out) | refine below_set ?_ GE174.out | refine below_set ?_ GE175.out | refine below_set ?_ GE176.out) | exact HB.out)) hb); clear HI164; clear BK174; clear BK175; clear BK176; clear HB; have HI164 := n0_; have BK174 := n1_; have BK175 := n2_; have BK176 := n3_; have HB := n4_; clear n0_ n1_ n2_ n3_ n4_; (try clear hb); (try clear hb2); (try clear hk); (try clear hi); have hcz101_0 : w100.cell? ⟨gb174, 0, none⟩ = some (.string t165) := (blk_cell BK174.out 0).trans rfl; have hcz101_1 : w100.cell? ⟨gb174, 1, none⟩ = some (.int .i64 t166) := (blk_cell BK174.out 1).trans rfl; have hfz101_0 := blk_frozen BK174.out 0; have hfz101_1 := blk_frozen BK174.out 1; have hcz102_0 : w100.cell? ⟨gb175, 0, none⟩ = some (.string t168) := (blk_cell BK175.out 0).trans rfl; have hcz102_1 : w100.cell? ⟨gb175, 1, none⟩ = some (.int .i64 t169) := (blk_cell BK175.out 1).trans rfl; have hfz102_0 := blk_frozen BK175.out 0; have hfz102_1 := blk_frozen BK175.out 1) | (go_at_call 17; (with_reducible refine (amount_Less.calls k t165 t166 t168 t169 true _ A38.out).mono ?_); rintro e w103 ⟨rfl, hb⟩; have n0_ := Aside0.mk (IsS52.below (by repeat (first | (with_reducible first | exact HI164.out | apply IsS52.alloc | apply IsS52.drewN | apply IsS52.drew | apply IsS52.set_1 | refine IsS52.far ?_ NB164_174.out _ | refine IsS52.far ?_ NB164_175.out _ | refine IsS52.far ?_ NB164_176.out _) | exact HI164.out)) hb); have n1_ := Aside0.mk (blk_below (g := gb174) (o := .cells #[.string t165, .int .i64 t166] 38 (0, 0)) (by (with_reducible repeat (first | refine blk_drewN ?_ _ | refine blk_drew ?_ | refine blk_alloc ?_ _)); exact BK174.out) hb); have n2_ := Aside0.mk (blk_below (g := gb175) (o := .cells #[.string t168, .int .i64 t169] 38 (0, 0)) (by (with_reducible repeat (first | refine blk_drewN ?_ _ | refine blk_drew ?_ | refine blk_alloc ?_ _)); exact BK175.out) hb); have n3_ := Aside0.mk (blk_below (g := gb176) (o := .cells #[.string t171, .int .i64 t172] 38 (0, 0)) (by (with_reducible repeat (first | refine blk_drewN ?_ _ | refine blk_drew ?_ | refine blk_alloc ?_ _)); exact BK176.out) hb); have n4_ := Aside0.mk (below_step (by repeat (first | (with_reducible first | exact HB.out | apply below_alloc | apply pw_below_drewN | apply below_drew1 | refine below_set ?_ (IsS52.ge HI164.out) | refine below_set ?_ GE174.out | refine below_set ?_ GE175.out | refine below_set ?_ GE176.out) | exact HB.out)) hb); clear HI164; clear BK174; clear BK175; clear BK176; clear HB; have HI164 := n0_; have BK174 := n1_; have BK175 := n2_; have BK176 := n3_; have HB := n4_; clear n0_ n1_ n2_ n3_ n4_; (try clear hb); (try clear hb2); (try clear hk); (try clear hi); have hcz104_0 : w103.cell? ⟨gb175, 0, none⟩ = some (.string t168) := (blk_cell BK175.out 0).trans rfl; have hcz104_1 : w103.cell? ⟨gb175, 1, none⟩ = some (.int .i64 t169) := (blk_cell BK175.out 1).trans rfl; have hfz104_0 := blk_frozen BK175.out 0; have hfz104_1 := blk_frozen BK175.out 1; have hnb105 := NB176_164.out; have hnc105 := NB164_176.out; have hcz106_0 : w103.cell? ⟨gb176, 0, none⟩ = some (.string t171) := (blk_cell BK176.out 0).trans rfl; have hcz106_1 : w103.cell? ⟨gb176, 1, none⟩ = some (.int .i64 t172) := (blk_cell BK176.out 1).trans rfl; have hfz106_0 := blk_frozen BK176.out 0; have hfz106_1 := blk_frozen BK176.out 1) | (go_at_call 17; (with_reducible refine (amount_Less.calls k t168 t169 t171 t172 false _ A39.out).mono ?_); rintro e w107 ⟨rfl, hb⟩; have n0_ := Aside0.mk (IsS52.below (by repeat (first | (with_reducible first | exact HI164.out | apply IsS52.alloc | apply IsS52.drewN | apply IsS52.drew | apply IsS52.set_1 | refine IsS52.far ?_ NB164_174.out _ | refine IsS52.far ?_ NB164_175.out _ | refine IsS52.far ?_ NB164_176.out _) | exact HI164.out)) hb); have n1_ := Aside0.mk (blk_below (g := gb174) (o := .cells #[.string t165, .int .i64 t166] 38 (0, 0)) (by (with_reducible repeat (first | refine blk_drewN ?_ _ | refine blk_drew ?_ | refine blk_alloc ?_ _)); exact BK174.out) hb); have n2_ := Aside0.mk (blk_below (g := gb175) (o := .cells #[.string t168, .int .i64 t169] 38 (0, 0)) (by (with_reducible repeat (first | refine blk_drewN ?_ _ | refine blk_drew ?_ | refine blk_alloc ?_ _)); exact BK175.out) hb); have n3_ := Aside0.mk (blk_below (g := gb176) (o := .cells #[.string t171, .int .i64 t172] 38 (0, 0)) (by (with_reducible repeat (first | refine blk_drewN ?_ _ | refine blk_drew ?_ | refine blk_alloc ?_ _)); exact BK176.out) hb); have n4_ := Aside0.mk (below_step (by repeat (first | (with_reducible first | exact HB.out | apply below_alloc | apply pw_below_drewN | apply below_drew1 | refine below_set ?_ (IsS52.ge HI164.out) | refine below_set ?_ GE174.out | refine below_set ?_ GE175.out | refine below_set ?_ GE176.out) | exact HB.out)) hb); clear HI164; clear BK174; clear BK175; clear BK176; clear HB; have HI164 := n0_; have BK174 := n1_; have BK175 := n2_; have BK176 := n3_; have HB := n4_; clear n0_ n1_ n2_ n3_ n4_; (try clear hb); (try clear hb2); (try clear hk); (try clear hi); have hcz108_0 : w107.cell? ⟨gb174, 0, none⟩ = some (.string t165) := (blk_cell BK174.out 0).trans rfl; have hcz108_1 : w107.cell? ⟨gb174, 1, none⟩ = some (.int .i64 t166) := (blk_cell BK174.out 1).trans rfl; have hfz108_0 := blk_frozen BK174.out 0; have hfz108_1 := blk_frozen BK174.out 1; have hcz109_0 : w107.cell? ⟨gb175, 0, none⟩ = some (.string t168) := (blk_cell BK175.out 0).trans rfl; have hcz109_1 : w107.cell? ⟨gb175, 1, none⟩ = some (.int .i64 t169) := (blk_cell BK175.out 1).trans rfl; have hfz109_0 := blk_frozen BK175.out 0; have hfz109_1 := blk_frozen BK175.out 1) | (go_at_call 17; (with_reducible refine (amount_Less.calls k t165 t166 t168 t169 true _ A89.out).mono ?_); rintro e w110 ⟨rfl, hb⟩; have n0_ := Aside0.mk (IsS52.below (by repeat (first | (with_reducible first | exact HI164.out | apply IsS52.alloc | apply IsS52.drewN | apply IsS52.drew | apply IsS52.set_1 | refine IsS52.far ?_ NB164_174.out _ | refine IsS52.far ?_ NB164_175.out _ | refine IsS52.far ?_ NB164_176.out _) | exact HI164.out)) hb); have n1_ := Aside0.mk (blk_below (g := gb174) (o := .cells #[.string t165, .int .i64 t166] 38 (0, 0)) (by (with_reducible repeat (first | refine blk_drewN ?_ _ | refine blk_drew ?_ | refine blk_alloc ?_ _)); exact BK174.out) hb); have n2_ := Aside0.mk (blk_below (g := gb175) (o := .cells #[.string t168, .int .i64 t169] 38 (0, 0)) (by (with_reducible repeat (first | refine blk_drewN ?_ _ | refine blk_drew ?_ | refine blk_alloc ?_ _)); exact BK175.out) hb); have n3_ := Aside0.mk (blk_below (g := gb176) (o := .cells #[.string t171, .int .i64 t172] 38 (0, 0)) (by (with_reducible repeat (first | refine blk_drewN ?_ _ | refine blk_drew ?_ | refine blk_alloc ?_ _)); exact BK176.out) hb); have n4_ := Aside0.mk (below_step (by repeat (first | (with_reducible first | exact HB.out | apply below_alloc | apply pw_below_drewN | apply below_drew1 | refine below_set ?_ (IsS52.ge HI164.out) | refine below_set ?_ GE174.out | refine below_set ?_ GE175.out | refine below_set ?_ GE176.out) | exact HB.out)) hb); clear HI164; clear BK174; clear BK175; clear BK176; clear HB; have HI164 := n0_; have BK174 := n1_; have BK175 := n2_; have BK176 := n3_; have HB := n4_; clear n0_ n1_ n2_ n3_ n4_; (try clear hb); (try clear hb2); (try clear hk); (try clear hi)))
          go_meet
          case rel => exact ⟨_, (false), (by first | rfl | (simp; done) | (simp [*]; done)), H', ⟨by first | omega | exact Nat.le_refl _⟩, ⟨by (with_reducible repeat (first | refine blk_drewN ?_ _ | refine blk_drew ?_ | refine blk_alloc ?_ _)); exact BK174.out⟩, ⟨by (with_reducible repeat (first | refine blk_drewN ?_ _ | refine blk_drew ?_ | refine blk_alloc ?_ _)); exact BK175.out⟩, ⟨by (with_reducible repeat (first | refine blk_drewN ?_ _ | refine blk_drew ?_ | refine blk_alloc ?_ _)); exact BK176.out⟩, ⟨by repeat (first | (with_reducible first | exact HB.out | apply below_alloc | apply pw_below_drewN | apply below_drew1 | refine below_set ?_ (IsS52.ge HI164.out) | refine below_set ?_ GE174.out | refine below_set ?_ GE175.out | refine below_set ?_ GE176.out) | exact HB.out)⟩⟩
    · replace c24 := Bool.eq_false_iff.mpr c24
      subst c24
      have H1 : ((amount_Less.f k t165 t166 t168 t169).bind fun t188 => (if t188 = true then ((amount_Less.f k t168 t169 t171 t172).bind fun t189 => (if t189 = true then ((amount_Less.f k t165 t166 t171 t172).bind fun t190 => (if t190 = true then ((amount_Less.f k t165 t166 t168 t169).bind fun t191 => (if t191 = true then (trustquorumlaw35_AmountAssets.j0 k false t165 t166) else ((amount_Less.f k t168 t169 t165 t166).bind fun t192 => (if t192 = true then (trustquorumlaw35_AmountAssets.j0 k false t165 t166) else (trustquorumlaw35_AmountAssets.j0 k (!(t165.toList == t168.toList) || (!(t166 == t169))) t165 t166))))) else (trustquorumlaw35_AmountAssets.j0 k true t165 t166))) else ((amount_Less.f k t165 t166 t168 t169).bind fun t193 => (if t193 = true then (trustquorumlaw35_AmountAssets.j0 k false t165 t166) else ((amount_Less.f k t168 t169 t165 t166).bind fun t194 => (if t194 = true then (trustquorumlaw35_AmountAssets.j0 k false t165 t166) else (trustquorumlaw35_AmountAssets.j0 k (!(t165.toList == t168.toList) || (!(t166 == t169))) t165 t166))))))) else ((amount_Less.f k t165 t166 t168 t169).bind fun t195 => (if t195 = true then (trustquorumlaw35_AmountAssets.j0 k false t165 t166) else ((amount_Less.f k t168 t169 t165 t166).bind fun t196 => (if t196 = true then (trustquorumlaw35_AmountAssets.j0 k false t165 t166) else (trustquorumlaw35_AmountAssets.j0 k (!(t165.toList == t168.toList) || (!(t166 == t169))) t165 t166))))))) = some r := by rw [if_neg (show ¬ (false = true) by decide)] at H; exact H
      clear H
      have H := H1
      clear H1
      replace H := Option.bind_eq_some_iff.mp H
      obtain ⟨t188, A1110, H⟩ := H
      replace H : (if t188 = true then ((amount_Less.f k t168 t169 t171 t172).bind fun t189 => (if t189 = true then ((amount_Less.f k t165 t166 t171 t172).bind fun t190 => (if t190 = true then ((amount_Less.f k t165 t166 t168 t169).bind fun t191 => (if t191 = true then (trustquorumlaw35_AmountAssets.j0 k false t165 t166) else ((amount_Less.f k t168 t169 t165 t166).bind fun t192 => (if t192 = true then (trustquorumlaw35_AmountAssets.j0 k false t165 t166) else (trustquorumlaw35_AmountAssets.j0 k (!(t165.toList == t168.toList) || (!(t166 == t169))) t165 t166))))) else (trustquorumlaw35_AmountAssets.j0 k true t165 t166))) else ((amount_Less.f k t165 t166 t168 t169).bind fun t193 => (if t193 = true then (trustquorumlaw35_AmountAssets.j0 k false t165 t166) else ((amount_Less.f k t168 t169 t165 t166).bind fun t194 => (if t194 = true then (trustquorumlaw35_AmountAssets.j0 k false t165 t166) else (trustquorumlaw35_AmountAssets.j0 k (!(t165.toList == t168.toList) || (!(t166 == t169))) t165 t166))))))) else ((amount_Less.f k t165 t166 t168 t169).bind fun t195 => (if t195 = true then (trustquorumlaw35_AmountAssets.j0 k false t165 t166) else ((amount_Less.f k t168 t169 t165 t166).bind fun t196 => (if t196 = true then (trustquorumlaw35_AmountAssets.j0 k false t165 t166) else (trustquorumlaw35_AmountAssets.j0 k (!(t165.toList == t168.toList) || (!(t166 == t169))) t165 t166)))))) = some r := H
      have A111 := Aside0.mk A1110
      clear A1110
      obtain rfl : false = t188 := Option.some.inj (A23.out.symm.trans A111.out)
      have H1 : ((amount_Less.f k t165 t166 t168 t169).bind fun t195 => (if t195 = true then (trustquorumlaw35_AmountAssets.j0 k false t165 t166) else ((amount_Less.f k t168 t169 t165 t166).bind fun t196 => (if t196 = true then (trustquorumlaw35_AmountAssets.j0 k false t165 t166) else (trustquorumlaw35_AmountAssets.j0 k (!(t165.toList == t168.toList) || (!(t166 == t169))) t165 t166))))) = some r := by rw [if_neg (show ¬ (false = true) by decide)] at H; exact H
      clear H
      have H := H1
      clear H1
      replace H := Option.bind_eq_some_iff.mp H
      obtain ⟨t195, A1120, H⟩ := H
      replace H : (if t195 = true then (trustquorumlaw35_AmountAssets.j0 k false t165 t166) else ((amount_Less.f k t168 t169 t165 t166).bind fun t196 => (if t196 = true then (trustquorumlaw35_AmountAssets.j0 k false t165 t166) else (trustquorumlaw35_AmountAssets.j0 k (!(t165.toList == t168.toList) || (!(t166 == t169))) t165 t166)))) = some r := H
      have A112 := Aside0.mk A1120
      clear A1120
      obtain rfl : false = t195 := Option.some.inj (A23.out.symm.trans A112.out)
      have H1 : ((amount_Less.f k t168 t169 t165 t166).bind fun t196 => (if t196 = true then (trustquorumlaw35_AmountAssets.j0 k false t165 t166) else (trustquorumlaw35_AmountAssets.j0 k (!(t165.toList == t168.toList) || (!(t166 == t169))) t165 t166))) = some r := by rw [if_neg (show ¬ (false = true) by decide)] at H; exact H
      clear H
      have H := H1
      clear H1
      replace H := Option.bind_eq_some_iff.mp H
      obtain ⟨t196, A1130, H⟩ := H
      replace H : (if t196 = true then (trustquorumlaw35_AmountAssets.j0 k false t165 t166) else (trustquorumlaw35_AmountAssets.j0 k (!(t165.toList == t168.toList) || (!(t166 == t169))) t165 t166)) = some r := H
      have A113 := Aside0.mk A1130
      clear A1130
      by_cases c114 : t196 = true
      · subst c114
        have H1 : (trustquorumlaw35_AmountAssets.j0 k false t165 t166) = some r := by rw [if_pos rfl] at H; exact H
        clear H
        have H := H1
        clear H1
        have H' := Aside0.mk H
        clear H
        have hnb115 := NB174_175.out
        have hnc115 := NB175_174.out
        have hnb116 := NB174_176.out
        have hnc116 := NB176_174.out
        have hnb117 := NB174_164.out
        have hnc117 := NB164_174.out
        have hcz118_0 : w13.cell? ⟨gb174, 0, none⟩ = some (.string (⟨#[]⟩ : ByteArray)) := (blk_cell BK174.out 0).trans rfl
        have hcz118_1 : w13.cell? ⟨gb174, 1, none⟩ = some (.int .i64 0) := (blk_cell BK174.out 1).trans rfl
        have hfz118_0 := blk_frozen BK174.out 0
        have hfz118_1 := blk_frozen BK174.out 1
        have hnb119 := NB175_176.out
        have hnc119 := NB176_175.out
        have hnb120 := NB175_164.out
        have hnc120 := NB164_175.out
        have hcz121_0 : w13.cell? ⟨gb175, 0, none⟩ = some (.string (⟨#[]⟩ : ByteArray)) := (blk_cell BK175.out 0).trans rfl
        have hcz121_1 : w13.cell? ⟨gb175, 1, none⟩ = some (.int .i64 0) := (blk_cell BK175.out 1).trans rfl
        have hfz121_0 := blk_frozen BK175.out 0
        have hfz121_1 := blk_frozen BK175.out 1
        go_wp2_with (first | ((with_reducible refine gate_callee (f := 17) rfl ?_); refine goesL_ (some 17) rfl rfl Try.func17 (by kernel_rfl) rfl #[.agg #[.string t165, .int .i64 t166], .agg #[.string t168, .int .i64 t169]] rfl (by (try simp only [List.map_toArray, List.map_cons, List.map_nil]); first | done | rfl | (simp only [List.length_drop, List.length_take]; rfl)) ?_; (with_reducible refine (amount_Less.calls k t165 t166 t168 t169 false _ A23.out).mono ?_); rintro e w122 ⟨rfl, hb⟩; refine ⟨_, rfl, ?_⟩; have n0_ := Aside0.mk (IsS52.below (show IsS52 w ((((((w13.setCell ⟨gb174, 0, none⟩ (.string t165)).setCell ⟨gb174, 1, none⟩ (.int .i64 t166)).setCell ⟨gb175, 0, none⟩ (.string t168)).setCell ⟨gb175, 1, none⟩ (.int .i64 t169)).setCell ⟨gb176, 0, none⟩ (.string t171)).setCell ⟨gb176, 1, none⟩ (.int .i64 t172)) g164 t162 t173 from by repeat (first | (with_reducible first | exact HI164.out | apply IsS52.alloc | apply IsS52.drewN | apply IsS52.drew | apply IsS52.set_1 | refine IsS52.far ?_ NB164_174.out _ | refine IsS52.far ?_ NB164_175.out _ | refine IsS52.far ?_ NB164_176.out _) | exact HI164.out)) hb); have n1_ := Aside0.mk (blk_below (g := gb174) (o := .cells #[.string t165, .int .i64 t166] 38 (0, 0)) (by (with_reducible repeat (first | refine blk_drewN ?_ _ | refine blk_drew ?_ | refine blk_alloc ?_ _)); refine blk_far ?_ NB174_176.out _; (with_reducible repeat (first | refine blk_drewN ?_ _ | refine blk_drew ?_ | refine blk_alloc ?_ _)); refine blk_far ?_ NB174_176.out _; (with_reducible repeat (first | refine blk_drewN ?_ _ | refine blk_drew ?_ | refine blk_alloc ?_ _)); refine blk_far ?_ NB174_175.out _; (with_reducible repeat (first | refine blk_drewN ?_ _ | refine blk_drew ?_ | refine blk_alloc ?_ _)); refine blk_far ?_ NB174_175.out _; (with_reducible repeat (first | refine blk_drewN ?_ _ | refine blk_drew ?_ | refine blk_alloc ?_ _)); refine blk_put (cs := #[.string t165, .int .i64 0]) ?_ 1 _ rfl; (with_reducible repeat (first | refine blk_drewN ?_ _ | refine blk_drew ?_ | refine blk_alloc ?_ _)); refine blk_put (cs := #[.string (⟨#[]⟩ : ByteArray), .int .i64 0]) ?_ 0 _ rfl; (with_reducible repeat (first | refine blk_drewN ?_ _ | refine blk_drew ?_ | refine blk_alloc ?_ _)); exact BK174.out) hb); have n2_ := Aside0.mk (blk_below (g := gb175) (o := .cells #[.string t168, .int .i64 t169] 38 (0, 0)) (by (with_reducible repeat (first | refine blk_drewN ?_ _ | refine blk_drew ?_ | refine blk_alloc ?_ _)); refine blk_far ?_ NB175_176.out _; (with_reducible repeat (first | refine blk_drewN ?_ _ | refine blk_drew ?_ | refine blk_alloc ?_ _)); refine blk_far ?_ NB175_176.out _; (with_reducible repeat (first | refine blk_drewN ?_ _ | refine blk_drew ?_ | refine blk_alloc ?_ _)); refine blk_put (cs := #[.string t168, .int .i64 0]) ?_ 1 _ rfl; (with_reducible repeat (first | refine blk_drewN ?_ _ | refine blk_drew ?_ | refine blk_alloc ?_ _)); refine blk_put (cs := #[.string (⟨#[]⟩ : ByteArray), .int .i64 0]) ?_ 0 _ rfl; (with_reducible repeat (first | refine blk_drewN ?_ _ | refine blk_drew ?_ | refine blk_alloc ?_ _)); refine blk_far ?_ NB175_174.out _; (with_reducible repeat (first | refine blk_drewN ?_ _ | refine blk_drew ?_ | refine blk_alloc ?_ _)); refine blk_far ?_ NB175_174.out _; (with_reducible repeat (first | refine blk_drewN ?_ _ | refine blk_drew ?_ | refine blk_alloc ?_ _)); exact BK175.out) hb); have n3_ := Aside0.mk (blk_below (g := gb176) (o := .cells #[.string t171, .int .i64 t172] 38 (0, 0)) (by (with_reducible repeat (first | refine blk_drewN ?_ _ | refine blk_drew ?_ | refine blk_alloc ?_ _)); refine blk_put (cs := #[.string t171, .int .i64 0]) ?_ 1 _ rfl; (with_reducible repeat (first | refine blk_drewN ?_ _ | refine blk_drew ?_ | refine blk_alloc ?_ _)); refine blk_put (cs := #[.string (⟨#[]⟩ : ByteArray), .int .i64 0]) ?_ 0 _ rfl; (with_reducible repeat (first | refine blk_drewN ?_ _ | refine blk_drew ?_ | refine blk_alloc ?_ _)); refine blk_far ?_ NB176_175.out _; (with_reducible repeat (first | refine blk_drewN ?_ _ | refine blk_drew ?_ | refine blk_alloc ?_ _)); refine blk_far ?_ NB176_175.out _; (with_reducible repeat (first | refine blk_drewN ?_ _ | refine blk_drew ?_ | refine blk_alloc ?_ _)); refine blk_far ?_ NB176_174.out _; (with_reducible repeat (first | refine blk_drewN ?_ _ | refine blk_drew ?_ | refine blk_alloc ?_ _)); refine blk_far ?_ NB176_174.out _; (with_reducible repeat (first | refine blk_drewN ?_ _ | refine blk_drew ?_ | refine blk_alloc ?_ _)); exact BK176.out) hb); have n4_ := Aside0.mk (below_step (by repeat (first | (with_reducible first | exact HB.out | apply below_alloc | apply pw_below_drewN | apply below_drew1 | refine below_set ?_ (IsS52.ge HI164.out) | refine below_set ?_ GE174.out | refine below_set ?_ GE175.out | refine below_set ?_ GE176.out) | exact HB.out)) hb); clear HI164; clear BK174; clear BK175; clear BK176; clear HB; have HI164 := n0_; have BK174 := n1_; have BK175 := n2_; have BK176 := n3_; have HB := n4_; clear n0_ n1_ n2_ n3_ n4_; (try clear hb); (try clear hb2); (try clear hk); (try clear hi); have hcz123_0 : w122.cell? ⟨gb174, 0, none⟩ = some (.string t165) := (blk_cell BK174.out 0).trans rfl; have hcz123_1 : w122.cell? ⟨gb174, 1, none⟩ = some (.int .i64 t166) := (blk_cell BK174.out 1).trans rfl; have hfz123_0 := blk_frozen BK174.out 0; have hfz123_1 := blk_frozen BK174.out 1; have hcz124_0 : w122.cell? ⟨gb175, 0, none⟩ = some (.string t168) := (blk_cell BK175.out 0).trans rfl; have hcz124_1 : w122.cell? ⟨gb175, 1, none⟩ = some (.int .i64 t169) := (blk_cell BK175.out 1).trans rfl; have hfz124_0 := blk_frozen BK175.out 0; have hfz124_1 := blk_frozen BK175.out 1) | (go_at_call 17; (with_reducible refine (amount_Less.calls k t165 t166 t168 t169 false _ A111.out).mono ?_); rintro e w125 ⟨rfl, hb⟩; have n0_ := Aside0.mk (IsS52.below (by repeat (first | (with_reducible first | exact HI164.out | apply IsS52.alloc | apply IsS52.drewN | apply IsS52.drew | apply IsS52.set_1 | refine IsS52.far ?_ NB164_174.out _ | refine IsS52.far ?_ NB164_175.out _ | refine IsS52.far ?_ NB164_176.out _) | exact HI164.out)) hb); have n1_ := Aside0.mk (blk_below (g := gb174) (o := .cells #[.string t165, .int .i64 t166] 38 (0, 0)) (by (with_reducible repeat (first | refine blk_drewN ?_ _ | refine blk_drew ?_ | refine blk_alloc ?_ _)); exact BK174.out) hb); have n2_ := Aside0.mk (blk_below (g := gb175) (o := .cells #[.string t168, .int .i64 t169] 38 (0, 0)) (by (with_reducible repeat (first | refine blk_drewN ?_ _ | refine blk_drew ?_ | refine blk_alloc ?_ _)); exact BK175.out) hb); have n3_ := Aside0.mk (blk_below (g := gb176) (o := .cells #[.string t171, .int .i64 t172] 38 (0, 0)) (by (with_reducible repeat (first | refine blk_drewN ?_ _ | refine blk_drew ?_ | refine blk_alloc ?_ _)); exact BK176.out) hb); have n4_ := Aside0.mk (below_step (by repeat (first | (with_reducible first | exact HB.out | apply below_alloc | apply pw_below_drewN | apply below_drew1 | refine below_set ?_ (IsS52.ge HI164.out) | refine below_set ?_ GE174.out | refine below_set ?_ GE175.out | refine below_set ?_ GE176.out) | exact HB.out)) hb); clear HI164; clear BK174; clear BK175; clear BK176; clear HB; have HI164 := n0_; have BK174 := n1_; have BK175 := n2_; have BK176 := n3_; have HB := n4_; clear n0_ n1_ n2_ n3_ n4_; (try clear hb); (try clear hb2); (try clear hk); (try clear hi); have hcz126_0 : w125.cell? ⟨gb174, 0, none⟩ = some (.string t165) := (blk_cell BK174.out 0).trans rfl; have hcz126_1 : w125.cell? ⟨gb174, 1, none⟩ = some (.int .i64 t166) := (blk_cell BK174.out 1).trans rfl; have hfz126_0 := blk_frozen BK174.out 0; have hfz126_1 := blk_frozen BK174.out 1; have hcz127_0 : w125.cell? ⟨gb175, 0, none⟩ = some (.string t168) := (blk_cell BK175.out 0).trans rfl; have hcz127_1 : w125.cell? ⟨gb175, 1, none⟩ = some (.int .i64 t169) := (blk_cell BK175.out 1).trans rfl; have hfz127_0 := blk_frozen BK175.out 0; have hfz127_1 := blk_frozen BK175.out 1) | (go_at_call 17; (with_reducible refine (amount_Less.calls k t165 t166 t168 t169 false _ A112.out).mono ?_); rintro e w128 ⟨rfl, hb⟩; have n0_ := Aside0.mk (IsS52.below (by repeat (first | (with_reducible first | exact HI164.out | apply IsS52.alloc | apply IsS52.drewN | apply IsS52.drew | apply IsS52.set_1 | refine IsS52.far ?_ NB164_174.out _ | refine IsS52.far ?_ NB164_175.out _ | refine IsS52.far ?_ NB164_176.out _) | exact HI164.out)) hb); have n1_ := Aside0.mk (blk_below (g := gb174) (o := .cells #[.string t165, .int .i64 t166] 38 (0, 0)) (by (with_reducible repeat (first | refine blk_drewN ?_ _ | refine blk_drew ?_ | refine blk_alloc ?_ _)); exact BK174.out) hb); have n2_ := Aside0.mk (blk_below (g := gb175) (o := .cells #[.string t168, .int .i64 t169] 38 (0, 0)) (by (with_reducible repeat (first | refine blk_drewN ?_ _ | refine blk_drew ?_ | refine blk_alloc ?_ _)); exact BK175.out) hb); have n3_ := Aside0.mk (blk_below (g := gb176) (o := .cells #[.string t171, .int .i64 t172] 38 (0, 0)) (by (with_reducible repeat (first | refine blk_drewN ?_ _ | refine blk_drew ?_ | refine blk_alloc ?_ _)); exact BK176.out) hb); have n4_ := Aside0.mk (below_step (by repeat (first | (with_reducible first | exact HB.out | apply below_alloc | apply pw_below_drewN | apply below_drew1 | refine below_set ?_ (IsS52.ge HI164.out) | refine below_set ?_ GE174.out | refine below_set ?_ GE175.out | refine below_set ?_ GE176.out) | exact HB.out)) hb); clear HI164; clear BK174; clear BK175; clear BK176; clear HB; have HI164 := n0_; have BK174 := n1_; have BK175 := n2_; have BK176 := n3_; have HB := n4_; clear n0_ n1_ n2_ n3_ n4_; (try clear hb); (try clear hb2); (try clear hk); (try clear hi); have hcz129_0 : w128.cell? ⟨gb175, 0, none⟩ = some (.string t168) := (blk_cell BK175.out 0).trans rfl; have hcz129_1 : w128.cell? ⟨gb175, 1, none⟩ = some (.int .i64 t169) := (blk_cell BK175.out 1).trans rfl; have hfz129_0 := blk_frozen BK175.out 0; have hfz129_1 := blk_frozen BK175.out 1; have hcz130_0 : w128.cell? ⟨gb174, 0, none⟩ = some (.string t165) := (blk_cell BK174.out 0).trans rfl; have hcz130_1 : w128.cell? ⟨gb174, 1, none⟩ = some (.int .i64 t166) := (blk_cell BK174.out 1).trans rfl; have hfz130_0 := blk_frozen BK174.out 0; have hfz130_1 := blk_frozen BK174.out 1) | (go_at_call 17; (with_reducible refine (amount_Less.calls k t168 t169 t165 t166 true _ A113.out).mono ?_); rintro e w131 ⟨rfl, hb⟩; have n0_ := Aside0.mk (IsS52.below (by repeat (first | (with_reducible first | exact HI164.out | apply IsS52.alloc | apply IsS52.drewN | apply IsS52.drew | apply IsS52.set_1 | refine IsS52.far ?_ NB164_174.out _ | refine IsS52.far ?_ NB164_175.out _ | refine IsS52.far ?_ NB164_176.out _) | exact HI164.out)) hb); have n1_ := Aside0.mk (blk_below (g := gb174) (o := .cells #[.string t165, .int .i64 t166] 38 (0, 0)) (by (with_reducible repeat (first | refine blk_drewN ?_ _ | refine blk_drew ?_ | refine blk_alloc ?_ _)); exact BK174.out) hb); have n2_ := Aside0.mk (blk_below (g := gb175) (o := .cells #[.string t168, .int .i64 t169] 38 (0, 0)) (by (with_reducible repeat (first | refine blk_drewN ?_ _ | refine blk_drew ?_ | refine blk_alloc ?_ _)); exact BK175.out) hb); have n3_ := Aside0.mk (blk_below (g := gb176) (o := .cells #[.string t171, .int .i64 t172] 38 (0, 0)) (by (with_reducible repeat (first | refine blk_drewN ?_ _ | refine blk_drew ?_ | refine blk_alloc ?_ _)); exact BK176.out) hb); have n4_ := Aside0.mk (below_step (by repeat (first | (with_reducible first | exact HB.out | apply below_alloc | apply pw_below_drewN | apply below_drew1 | refine below_set ?_ (IsS52.ge HI164.out) | refine below_set ?_ GE174.out | refine below_set ?_ GE175.out | refine below_set ?_ GE176.out) | exact HB.out)) hb); clear HI164; clear BK174; clear BK175; clear BK176; clear HB; have HI164 := n0_; have BK174 := n1_; have BK175 := n2_; have BK176 := n3_; have HB := n4_; clear n0_ n1_ n2_ n3_ n4_; (try clear hb); (try clear hb2); (try clear hk); (try clear hi)))
        go_meet
        case rel => exact ⟨_, (false), (by first | rfl | (simp; done) | (simp [*]; done)), H', ⟨by first | omega | exact Nat.le_refl _⟩, ⟨by (with_reducible repeat (first | refine blk_drewN ?_ _ | refine blk_drew ?_ | refine blk_alloc ?_ _)); exact BK174.out⟩, ⟨by (with_reducible repeat (first | refine blk_drewN ?_ _ | refine blk_drew ?_ | refine blk_alloc ?_ _)); exact BK175.out⟩, ⟨by (with_reducible repeat (first | refine blk_drewN ?_ _ | refine blk_drew ?_ | refine blk_alloc ?_ _)); exact BK176.out⟩, ⟨by repeat (first | (with_reducible first | exact HB.out | apply below_alloc | apply pw_below_drewN | apply below_drew1 | refine below_set ?_ (IsS52.ge HI164.out) | refine below_set ?_ GE174.out | refine below_set ?_ GE175.out | refine below_set ?_ GE176.out) | exact HB.out)⟩⟩
      · replace c114 := Bool.eq_false_iff.mpr c114
        subst c114
        have H1 : (trustquorumlaw35_AmountAssets.j0 k (!(t165.toList == t168.toList) || (!(t166 == t169))) t165 t166) = some r := by rw [if_neg (show ¬ (false = true) by decide)] at H; exact H
        clear H
        have H := H1
        clear H1
        have H' := Aside0.mk H
        clear H
        have hnb132 := NB174_175.out
        have hnc132 := NB175_174.out
        have hnb133 := NB174_176.out
        have hnc133 := NB176_174.out
        have hnb134 := NB174_164.out
        have hnc134 := NB164_174.out
        have hcz135_0 : w13.cell? ⟨gb174, 0, none⟩ = some (.string (⟨#[]⟩ : ByteArray)) := (blk_cell BK174.out 0).trans rfl
        have hcz135_1 : w13.cell? ⟨gb174, 1, none⟩ = some (.int .i64 0) := (blk_cell BK174.out 1).trans rfl
        have hfz135_0 := blk_frozen BK174.out 0
        have hfz135_1 := blk_frozen BK174.out 1
        have hnb136 := NB175_176.out
        have hnc136 := NB176_175.out
        have hnb137 := NB175_164.out
        have hnc137 := NB164_175.out
        have hcz138_0 : w13.cell? ⟨gb175, 0, none⟩ = some (.string (⟨#[]⟩ : ByteArray)) := (blk_cell BK175.out 0).trans rfl
        have hcz138_1 : w13.cell? ⟨gb175, 1, none⟩ = some (.int .i64 0) := (blk_cell BK175.out 1).trans rfl
        have hfz138_0 := blk_frozen BK175.out 0
        have hfz138_1 := blk_frozen BK175.out 1
        go_wp2_with (first | ((with_reducible refine gate_callee (f := 17) rfl ?_); refine goesL_ (some 17) rfl rfl Try.func17 (by kernel_rfl) rfl #[.agg #[.string t165, .int .i64 t166], .agg #[.string t168, .int .i64 t169]] rfl (by (try simp only [List.map_toArray, List.map_cons, List.map_nil]); first | done | rfl | (simp only [List.length_drop, List.length_take]; rfl)) ?_; (with_reducible refine (amount_Less.calls k t165 t166 t168 t169 false _ A23.out).mono ?_); rintro e w139 ⟨rfl, hb⟩; refine ⟨_, rfl, ?_⟩; have n0_ := Aside0.mk (IsS52.below (show IsS52 w ((((((w13.setCell ⟨gb174, 0, none⟩ (.string t165)).setCell ⟨gb174, 1, none⟩ (.int .i64 t166)).setCell ⟨gb175, 0, none⟩ (.string t168)).setCell ⟨gb175, 1, none⟩ (.int .i64 t169)).setCell ⟨gb176, 0, none⟩ (.string t171)).setCell ⟨gb176, 1, none⟩ (.int .i64 t172)) g164 t162 t173 from by repeat (first | (with_reducible first | exact HI164.out | apply IsS52.alloc | apply IsS52.drewN | apply IsS52.drew | apply IsS52.set_1 | refine IsS52.far ?_ NB164_174.out _ | refine IsS52.far ?_ NB164_175.out _ | refine IsS52.far ?_ NB164_176.out _) | exact HI164.out)) hb); have n1_ := Aside0.mk (blk_below (g := gb174) (o := .cells #[.string t165, .int .i64 t166] 38 (0, 0)) (by (with_reducible repeat (first | refine blk_drewN ?_ _ | refine blk_drew ?_ | refine blk_alloc ?_ _)); refine blk_far ?_ NB174_176.out _; (with_reducible repeat (first | refine blk_drewN ?_ _ | refine blk_drew ?_ | refine blk_alloc ?_ _)); refine blk_far ?_ NB174_176.out _; (with_reducible repeat (first | refine blk_drewN ?_ _ | refine blk_drew ?_ | refine blk_alloc ?_ _)); refine blk_far ?_ NB174_175.out _; (with_reducible repeat (first | refine blk_drewN ?_ _ | refine blk_drew ?_ | refine blk_alloc ?_ _)); refine blk_far ?_ NB174_175.out _; (with_reducible repeat (first | refine blk_drewN ?_ _ | refine blk_drew ?_ | refine blk_alloc ?_ _)); refine blk_put (cs := #[.string t165, .int .i64 0]) ?_ 1 _ rfl; (with_reducible repeat (first | refine blk_drewN ?_ _ | refine blk_drew ?_ | refine blk_alloc ?_ _)); refine blk_put (cs := #[.string (⟨#[]⟩ : ByteArray), .int .i64 0]) ?_ 0 _ rfl; (with_reducible repeat (first | refine blk_drewN ?_ _ | refine blk_drew ?_ | refine blk_alloc ?_ _)); exact BK174.out) hb); have n2_ := Aside0.mk (blk_below (g := gb175) (o := .cells #[.string t168, .int .i64 t169] 38 (0, 0)) (by (with_reducible repeat (first | refine blk_drewN ?_ _ | refine blk_drew ?_ | refine blk_alloc ?_ _)); refine blk_far ?_ NB175_176.out _; (with_reducible repeat (first | refine blk_drewN ?_ _ | refine blk_drew ?_ | refine blk_alloc ?_ _)); refine blk_far ?_ NB175_176.out _; (with_reducible repeat (first | refine blk_drewN ?_ _ | refine blk_drew ?_ | refine blk_alloc ?_ _)); refine blk_put (cs := #[.string t168, .int .i64 0]) ?_ 1 _ rfl; (with_reducible repeat (first | refine blk_drewN ?_ _ | refine blk_drew ?_ | refine blk_alloc ?_ _)); refine blk_put (cs := #[.string (⟨#[]⟩ : ByteArray), .int .i64 0]) ?_ 0 _ rfl; (with_reducible repeat (first | refine blk_drewN ?_ _ | refine blk_drew ?_ | refine blk_alloc ?_ _)); refine blk_far ?_ NB175_174.out _; (with_reducible repeat (first | refine blk_drewN ?_ _ | refine blk_drew ?_ | refine blk_alloc ?_ _)); refine blk_far ?_ NB175_174.out _; (with_reducible repeat (first | refine blk_drewN ?_ _ | refine blk_drew ?_ | refine blk_alloc ?_ _)); exact BK175.out) hb); have n3_ := Aside0.mk (blk_below (g := gb176) (o := .cells #[.string t171, .int .i64 t172] 38 (0, 0)) (by (with_reducible repeat (first | refine blk_drewN ?_ _ | refine blk_drew ?_ | refine blk_alloc ?_ _)); refine blk_put (cs := #[.string t171, .int .i64 0]) ?_ 1 _ rfl; (with_reducible repeat (first | refine blk_drewN ?_ _ | refine blk_drew ?_ | refine blk_alloc ?_ _)); refine blk_put (cs := #[.string (⟨#[]⟩ : ByteArray), .int .i64 0]) ?_ 0 _ rfl; (with_reducible repeat (first | refine blk_drewN ?_ _ | refine blk_drew ?_ | refine blk_alloc ?_ _)); refine blk_far ?_ NB176_175.out _; (with_reducible repeat (first | refine blk_drewN ?_ _ | refine blk_drew ?_ | refine blk_alloc ?_ _)); refine blk_far ?_ NB176_175.out _; (with_reducible repeat (first | refine blk_drewN ?_ _ | refine blk_drew ?_ | refine blk_alloc ?_ _)); refine blk_far ?_ NB176_174.out _; (with_reducible repeat (first | refine blk_drewN ?_ _ | refine blk_drew ?_ | refine blk_alloc ?_ _)); refine blk_far ?_ NB176_174.out _; (with_reducible repeat (first | refine blk_drewN ?_ _ | refine blk_drew ?_ | refine blk_alloc ?_ _)); exact BK176.out) hb); have n4_ := Aside0.mk (below_step (by repeat (first | (with_reducible first | exact HB.out | apply below_alloc | apply pw_below_drewN | apply below_drew1 | refine below_set ?_ (IsS52.ge HI164.out) | refine below_set ?_ GE174.out | refine below_set ?_ GE175.out | refine below_set ?_ GE176.out) | exact HB.out)) hb); clear HI164; clear BK174; clear BK175; clear BK176; clear HB; have HI164 := n0_; have BK174 := n1_; have BK175 := n2_; have BK176 := n3_; have HB := n4_; clear n0_ n1_ n2_ n3_ n4_; (try clear hb); (try clear hb2); (try clear hk); (try clear hi); have hcz140_0 : w139.cell? ⟨gb174, 0, none⟩ = some (.string t165) := (blk_cell BK174.out 0).trans rfl; have hcz140_1 : w139.cell? ⟨gb174, 1, none⟩ = some (.int .i64 t166) := (blk_cell BK174.out 1).trans rfl; have hfz140_0 := blk_frozen BK174.out 0; have hfz140_1 := blk_frozen BK174.out 1; have hcz141_0 : w139.cell? ⟨gb175, 0, none⟩ = some (.string t168) := (blk_cell BK175.out 0).trans rfl; have hcz141_1 : w139.cell? ⟨gb175, 1, none⟩ = some (.int .i64 t169) := (blk_cell BK175.out 1).trans rfl; have hfz141_0 := blk_frozen BK175.out 0; have hfz141_1 := blk_frozen BK175.out 1) | (go_at_call 17; (with_reducible refine (amount_Less.calls k t165 t166 t168 t169 false _ A111.out).mono ?_); rintro e w142 ⟨rfl, hb⟩; have n0_ := Aside0.mk (IsS52.below (by repeat (first | (with_reducible first | exact HI164.out | apply IsS52.alloc | apply IsS52.drewN | apply IsS52.drew | apply IsS52.set_1 | refine IsS52.far ?_ NB164_174.out _ | refine IsS52.far ?_ NB164_175.out _ | refine IsS52.far ?_ NB164_176.out _) | exact HI164.out)) hb); have n1_ := Aside0.mk (blk_below (g := gb174) (o := .cells #[.string t165, .int .i64 t166] 38 (0, 0)) (by (with_reducible repeat (first | refine blk_drewN ?_ _ | refine blk_drew ?_ | refine blk_alloc ?_ _)); exact BK174.out) hb); have n2_ := Aside0.mk (blk_below (g := gb175) (o := .cells #[.string t168, .int .i64 t169] 38 (0, 0)) (by (with_reducible repeat (first | refine blk_drewN ?_ _ | refine blk_drew ?_ | refine blk_alloc ?_ _)); exact BK175.out) hb); have n3_ := Aside0.mk (blk_below (g := gb176) (o := .cells #[.string t171, .int .i64 t172] 38 (0, 0)) (by (with_reducible repeat (first | refine blk_drewN ?_ _ | refine blk_drew ?_ | refine blk_alloc ?_ _)); exact BK176.out) hb); have n4_ := Aside0.mk (below_step (by repeat (first | (with_reducible first | exact HB.out | apply below_alloc | apply pw_below_drewN | apply below_drew1 | refine below_set ?_ (IsS52.ge HI164.out) | refine below_set ?_ GE174.out | refine below_set ?_ GE175.out | refine below_set ?_ GE176.out) | exact HB.out)) hb); clear HI164; clear BK174; clear BK175; clear BK176; clear HB; have HI164 := n0_; have BK174 := n1_; have BK175 := n2_; have BK176 := n3_; have HB := n4_; clear n0_ n1_ n2_ n3_ n4_; (try clear hb); (try clear hb2); (try clear hk); (try clear hi); have hcz143_0 : w142.cell? ⟨gb174, 0, none⟩ = some (.string t165) := (blk_cell BK174.out 0).trans rfl; have hcz143_1 : w142.cell? ⟨gb174, 1, none⟩ = some (.int .i64 t166) := (blk_cell BK174.out 1).trans rfl; have hfz143_0 := blk_frozen BK174.out 0; have hfz143_1 := blk_frozen BK174.out 1; have hcz144_0 : w142.cell? ⟨gb175, 0, none⟩ = some (.string t168) := (blk_cell BK175.out 0).trans rfl; have hcz144_1 : w142.cell? ⟨gb175, 1, none⟩ = some (.int .i64 t169) := (blk_cell BK175.out 1).trans rfl; have hfz144_0 := blk_frozen BK175.out 0; have hfz144_1 := blk_frozen BK175.out 1) | (go_at_call 17; (with_reducible refine (amount_Less.calls k t165 t166 t168 t169 false _ A112.out).mono ?_); rintro e w145 ⟨rfl, hb⟩; have n0_ := Aside0.mk (IsS52.below (by repeat (first | (with_reducible first | exact HI164.out | apply IsS52.alloc | apply IsS52.drewN | apply IsS52.drew | apply IsS52.set_1 | refine IsS52.far ?_ NB164_174.out _ | refine IsS52.far ?_ NB164_175.out _ | refine IsS52.far ?_ NB164_176.out _) | exact HI164.out)) hb); have n1_ := Aside0.mk (blk_below (g := gb174) (o := .cells #[.string t165, .int .i64 t166] 38 (0, 0)) (by (with_reducible repeat (first | refine blk_drewN ?_ _ | refine blk_drew ?_ | refine blk_alloc ?_ _)); exact BK174.out) hb); have n2_ := Aside0.mk (blk_below (g := gb175) (o := .cells #[.string t168, .int .i64 t169] 38 (0, 0)) (by (with_reducible repeat (first | refine blk_drewN ?_ _ | refine blk_drew ?_ | refine blk_alloc ?_ _)); exact BK175.out) hb); have n3_ := Aside0.mk (blk_below (g := gb176) (o := .cells #[.string t171, .int .i64 t172] 38 (0, 0)) (by (with_reducible repeat (first | refine blk_drewN ?_ _ | refine blk_drew ?_ | refine blk_alloc ?_ _)); exact BK176.out) hb); have n4_ := Aside0.mk (below_step (by repeat (first | (with_reducible first | exact HB.out | apply below_alloc | apply pw_below_drewN | apply below_drew1 | refine below_set ?_ (IsS52.ge HI164.out) | refine below_set ?_ GE174.out | refine below_set ?_ GE175.out | refine below_set ?_ GE176.out) | exact HB.out)) hb); clear HI164; clear BK174; clear BK175; clear BK176; clear HB; have HI164 := n0_; have BK174 := n1_; have BK175 := n2_; have BK176 := n3_; have HB := n4_; clear n0_ n1_ n2_ n3_ n4_; (try clear hb); (try clear hb2); (try clear hk); (try clear hi); have hcz146_0 : w145.cell? ⟨gb175, 0, none⟩ = some (.string t168) := (blk_cell BK175.out 0).trans rfl; have hcz146_1 : w145.cell? ⟨gb175, 1, none⟩ = some (.int .i64 t169) := (blk_cell BK175.out 1).trans rfl; have hfz146_0 := blk_frozen BK175.out 0; have hfz146_1 := blk_frozen BK175.out 1; have hcz147_0 : w145.cell? ⟨gb174, 0, none⟩ = some (.string t165) := (blk_cell BK174.out 0).trans rfl; have hcz147_1 : w145.cell? ⟨gb174, 1, none⟩ = some (.int .i64 t166) := (blk_cell BK174.out 1).trans rfl; have hfz147_0 := blk_frozen BK174.out 0; have hfz147_1 := blk_frozen BK174.out 1) | (go_at_call 17; (with_reducible refine (amount_Less.calls k t168 t169 t165 t166 false _ A113.out).mono ?_); rintro e w148 ⟨rfl, hb⟩; have n0_ := Aside0.mk (IsS52.below (by repeat (first | (with_reducible first | exact HI164.out | apply IsS52.alloc | apply IsS52.drewN | apply IsS52.drew | apply IsS52.set_1 | refine IsS52.far ?_ NB164_174.out _ | refine IsS52.far ?_ NB164_175.out _ | refine IsS52.far ?_ NB164_176.out _) | exact HI164.out)) hb); have n1_ := Aside0.mk (blk_below (g := gb174) (o := .cells #[.string t165, .int .i64 t166] 38 (0, 0)) (by (with_reducible repeat (first | refine blk_drewN ?_ _ | refine blk_drew ?_ | refine blk_alloc ?_ _)); exact BK174.out) hb); have n2_ := Aside0.mk (blk_below (g := gb175) (o := .cells #[.string t168, .int .i64 t169] 38 (0, 0)) (by (with_reducible repeat (first | refine blk_drewN ?_ _ | refine blk_drew ?_ | refine blk_alloc ?_ _)); exact BK175.out) hb); have n3_ := Aside0.mk (blk_below (g := gb176) (o := .cells #[.string t171, .int .i64 t172] 38 (0, 0)) (by (with_reducible repeat (first | refine blk_drewN ?_ _ | refine blk_drew ?_ | refine blk_alloc ?_ _)); exact BK176.out) hb); have n4_ := Aside0.mk (below_step (by repeat (first | (with_reducible first | exact HB.out | apply below_alloc | apply pw_below_drewN | apply below_drew1 | refine below_set ?_ (IsS52.ge HI164.out) | refine below_set ?_ GE174.out | refine below_set ?_ GE175.out | refine below_set ?_ GE176.out) | exact HB.out)) hb); clear HI164; clear BK174; clear BK175; clear BK176; clear HB; have HI164 := n0_; have BK174 := n1_; have BK175 := n2_; have BK176 := n3_; have HB := n4_; clear n0_ n1_ n2_ n3_ n4_; (try clear hb); (try clear hb2); (try clear hk); (try clear hi); have hcz149_0 : w148.cell? ⟨gb174, 0, none⟩ = some (.string t165) := (blk_cell BK174.out 0).trans rfl; have hcz149_1 : w148.cell? ⟨gb174, 1, none⟩ = some (.int .i64 t166) := (blk_cell BK174.out 1).trans rfl; have hfz149_0 := blk_frozen BK174.out 0; have hfz149_1 := blk_frozen BK174.out 1; have hcz150_0 : w148.cell? ⟨gb175, 0, none⟩ = some (.string t168) := (blk_cell BK175.out 0).trans rfl; have hcz150_1 : w148.cell? ⟨gb175, 1, none⟩ = some (.int .i64 t169) := (blk_cell BK175.out 1).trans rfl; have hfz150_0 := blk_frozen BK175.out 0; have hfz150_1 := blk_frozen BK175.out 1))
        go_meet
        case rel => exact ⟨_, ((!(t165.toList == t168.toList) || (!(t166 == t169)))), (by first | rfl | (simp; done) | (simp [*]; done)), H', ⟨by first | omega | exact Nat.le_refl _⟩, ⟨by (with_reducible repeat (first | refine blk_drewN ?_ _ | refine blk_drew ?_ | refine blk_alloc ?_ _)); exact BK174.out⟩, ⟨by (with_reducible repeat (first | refine blk_drewN ?_ _ | refine blk_drew ?_ | refine blk_alloc ?_ _)); exact BK175.out⟩, ⟨by (with_reducible repeat (first | refine blk_drewN ?_ _ | refine blk_drew ?_ | refine blk_alloc ?_ _)); exact BK176.out⟩, ⟨by repeat (first | (with_reducible first | exact HB.out | apply below_alloc | apply pw_below_drewN | apply below_drew1 | refine below_set ?_ (IsS52.ge HI164.out) | refine below_set ?_ GE174.out | refine below_set ?_ GE175.out | refine below_set ?_ GE176.out) | exact HB.out)⟩⟩
  case rest =>
    clear HC6
    try clear c1
    try clear c2
    try clear p2
    try clear c3
    try clear c4
    try clear c5
    try clear c6
    try clear c7
    try clear c8
    try clear c9
    try clear c10
    try clear c11
    try clear c12
    try clear c13
    try clear c14
    try clear c15
    try clear c16
    try clear c17
    try clear c18
    try clear c19
    try clear c21
    try clear c24
    try clear c26
    try clear c27
    try clear c28
    try clear c29
    try clear c31
    try clear c32
    try clear c40
    try clear c42
    try clear c44
    try clear c45
    try clear c46
    try clear c48
    try clear c49
    try clear c59
    try clear c68
    try clear c69
    try clear c70
    try clear c72
    try clear c73
    try clear c83
    try clear c90
    try clear c91
    try clear c92
    try clear c94
    try clear c95
    try clear c105
    try clear c114
    try clear c115
    try clear c116
    try clear c117
    try clear c119
    try clear c120
    try clear c132
    try clear c133
    try clear c134
    try clear c136
    try clear c137
    try clear hcz101_0
    try clear hcz101_1
    try clear hcz102_0
    try clear hcz102_1
    try clear hcz104_0
    try clear hcz104_1
    try clear hcz106_0
    try clear hcz106_1
    try clear hcz108_0
    try clear hcz108_1
    try clear hcz109_0
    try clear hcz109_1
    try clear hcz118_0
    try clear hcz118_1
    try clear hcz121_0
    try clear hcz121_1
    try clear hcz123_0
    try clear hcz123_1
    try clear hcz124_0
    try clear hcz124_1
    try clear hcz126_0
    try clear hcz126_1
    try clear hcz127_0
    try clear hcz127_1
    try clear hcz129_0
    try clear hcz129_1
    try clear hcz130_0
    try clear hcz130_1
    try clear hcz135_0
    try clear hcz135_1
    try clear hcz138_0
    try clear hcz138_1
    try clear hcz140_0
    try clear hcz140_1
    try clear hcz141_0
    try clear hcz141_1
    try clear hcz143_0
    try clear hcz143_1
    try clear hcz144_0
    try clear hcz144_1
    try clear hcz146_0
    try clear hcz146_1
    try clear hcz147_0
    try clear hcz147_1
    try clear hcz149_0
    try clear hcz149_1
    try clear hcz150_0
    try clear hcz150_1
    try clear hcz17_0
    try clear hcz17_1
    try clear hcz20_0
    try clear hcz20_1
    try clear hcz22_0
    try clear hcz22_1
    try clear hcz30_0
    try clear hcz30_1
    try clear hcz33_0
    try clear hcz33_1
    try clear hcz35_0
    try clear hcz35_1
    try clear hcz36_0
    try clear hcz36_1
    try clear hcz47_0
    try clear hcz47_1
    try clear hcz50_0
    try clear hcz50_1
    try clear hcz52_0
    try clear hcz52_1
    try clear hcz53_0
    try clear hcz53_1
    try clear hcz55_0
    try clear hcz55_1
    try clear hcz56_0
    try clear hcz56_1
    try clear hcz58_0
    try clear hcz58_1
    try clear hcz60_0
    try clear hcz60_1
    try clear hcz62_0
    try clear hcz62_1
    try clear hcz63_0
    try clear hcz63_1
    try clear hcz65_0
    try clear hcz65_1
    try clear hcz66_0
    try clear hcz66_1
    try clear hcz71_0
    try clear hcz71_1
    try clear hcz74_0
    try clear hcz74_1
    try clear hcz76_0
    try clear hcz76_1
    try clear hcz77_0
    try clear hcz77_1
    try clear hcz79_0
    try clear hcz79_1
    try clear hcz80_0
    try clear hcz80_1
    try clear hcz82_0
    try clear hcz82_1
    try clear hcz84_0
    try clear hcz84_1
    try clear hcz86_0
    try clear hcz86_1
    try clear hcz87_0
    try clear hcz87_1
    try clear hcz93_0
    try clear hcz93_1
    try clear hcz96_0
    try clear hcz96_1
    try clear hcz98_0
    try clear hcz98_1
    try clear hcz99_0
    try clear hcz99_1
    try clear hfz101_0
    try clear hfz101_1
    try clear hfz102_0
    try clear hfz102_1
    try clear hfz104_0
    try clear hfz104_1
    try clear hfz106_0
    try clear hfz106_1
    try clear hfz108_0
    try clear hfz108_1
    try clear hfz109_0
    try clear hfz109_1
    try clear hfz118_0
    try clear hfz118_1
    try clear hfz121_0
    try clear hfz121_1
    try clear hfz123_0
    try clear hfz123_1
    try clear hfz124_0
    try clear hfz124_1
    try clear hfz126_0
    try clear hfz126_1
    try clear hfz127_0
    try clear hfz127_1
    try clear hfz129_0
    try clear hfz129_1
    try clear hfz130_0
    try clear hfz130_1
    try clear hfz135_0
    try clear hfz135_1
    try clear hfz138_0
    try clear hfz138_1
    try clear hfz140_0
    try clear hfz140_1
    try clear hfz141_0
    try clear hfz141_1
    try clear hfz143_0
    try clear hfz143_1
    try clear hfz144_0
    try clear hfz144_1
    try clear hfz146_0
    try clear hfz146_1
    try clear hfz147_0
    try clear hfz147_1
    try clear hfz149_0
    try clear hfz149_1
    try clear hfz150_0
    try clear hfz150_1
    try clear hfz17_0
    try clear hfz17_1
    try clear hfz20_0
    try clear hfz20_1
    try clear hfz22_0
    try clear hfz22_1
    try clear hfz30_0
    try clear hfz30_1
    try clear hfz33_0
    try clear hfz33_1
    try clear hfz35_0
    try clear hfz35_1
    try clear hfz36_0
    try clear hfz36_1
    try clear hfz47_0
    try clear hfz47_1
    try clear hfz50_0
    try clear hfz50_1
    try clear hfz52_0
    try clear hfz52_1
    try clear hfz53_0
    try clear hfz53_1
    try clear hfz55_0
    try clear hfz55_1
    try clear hfz56_0
    try clear hfz56_1
    try clear hfz58_0
    try clear hfz58_1
    try clear hfz60_0
    try clear hfz60_1
    try clear hfz62_0
    try clear hfz62_1
    try clear hfz63_0
    try clear hfz63_1
    try clear hfz65_0
    try clear hfz65_1
    try clear hfz66_0
    try clear hfz66_1
    try clear hfz71_0
    try clear hfz71_1
    try clear hfz74_0
    try clear hfz74_1
    try clear hfz76_0
    try clear hfz76_1
    try clear hfz77_0
    try clear hfz77_1
    try clear hfz79_0
    try clear hfz79_1
    try clear hfz80_0
    try clear hfz80_1
    try clear hfz82_0
    try clear hfz82_1
    try clear hfz84_0
    try clear hfz84_1
    try clear hfz86_0
    try clear hfz86_1
    try clear hfz87_0
    try clear hfz87_1
    try clear hfz93_0
    try clear hfz93_1
    try clear hfz96_0
    try clear hfz96_1
    try clear hfz98_0
    try clear hfz98_1
    try clear hfz99_0
    try clear hfz99_1
    obtain ⟨kq, x55_5, rfl, HA, HJ5, BK174, BK175, BK176, HB⟩ := hcut
    cases kq with
    | zero => exact absurd HA.out (by simp [trustquorumlaw35_AmountAssets.j0])
    | succ kj5 =>
      have H := HA.out
      clear HA
      simp only [trustquorumlaw35_AmountAssets.j0] at H
      by_cases c151 : x55_5 = true
      · subst c151
        have H1 : (some false) = some r := by rw [if_pos rfl] at H; exact H
        clear H
        have H := H1
        clear H1
        exact absurd ((Option.some.inj H).trans HRT.out) (by decide)
      · replace c151 := Bool.eq_false_iff.mpr c151
        subst c151
        have H1 : ((amount_Asset.f t165 t166).bind fun t197 => (if t197 = true then ((amount_Less.f kj5 t165 t166 (⟨#[]⟩ : ByteArray) 0).bind fun t198 => (if t198 = true then (some false) else ((amount_Native.f t165 t166).bind fun t199 => (if (t199 == (t165.toList == ([] : List UInt8) && (t166 == 0))) = true then ((amount_Asset.f (⟨#[88, 65, 85]⟩ : ByteArray) 9).bind fun t200 => (if t200 = true then ((amount_Asset.f (⟨#[88, 65, 85]⟩ : ByteArray) 0).bind fun t201 => (if t201 = true then (some false) else ((trustquorumlaw35_sane.f kj5).bind fun t202 => (some t202)))) else (some false))) else (some false))))) else (some false))) = some r := by rw [if_neg (show ¬ (false = true) by decide)] at H; exact H
        clear H
        have H := H1
        clear H1
        replace H := Option.bind_eq_some_iff.mp H
        obtain ⟨t197, A1520, H⟩ := H
        replace H : (if t197 = true then ((amount_Less.f kj5 t165 t166 (⟨#[]⟩ : ByteArray) 0).bind fun t198 => (if t198 = true then (some false) else ((amount_Native.f t165 t166).bind fun t199 => (if (t199 == (t165.toList == ([] : List UInt8) && (t166 == 0))) = true then ((amount_Asset.f (⟨#[88, 65, 85]⟩ : ByteArray) 9).bind fun t200 => (if t200 = true then ((amount_Asset.f (⟨#[88, 65, 85]⟩ : ByteArray) 0).bind fun t201 => (if t201 = true then (some false) else ((trustquorumlaw35_sane.f kj5).bind fun t202 => (some t202)))) else (some false))) else (some false))))) else (some false)) = some r := H
        have A152 := Aside0.mk A1520
        clear A1520
        by_cases c153 : t197 = true
        · subst c153
          have H1 : ((amount_Less.f kj5 t165 t166 (⟨#[]⟩ : ByteArray) 0).bind fun t198 => (if t198 = true then (some false) else ((amount_Native.f t165 t166).bind fun t199 => (if (t199 == (t165.toList == ([] : List UInt8) && (t166 == 0))) = true then ((amount_Asset.f (⟨#[88, 65, 85]⟩ : ByteArray) 9).bind fun t200 => (if t200 = true then ((amount_Asset.f (⟨#[88, 65, 85]⟩ : ByteArray) 0).bind fun t201 => (if t201 = true then (some false) else ((trustquorumlaw35_sane.f kj5).bind fun t202 => (some t202)))) else (some false))) else (some false))))) = some r := by rw [if_pos rfl] at H; exact H
          clear H
          have H := H1
          clear H1
          replace H := Option.bind_eq_some_iff.mp H
          obtain ⟨t198, A1540, H⟩ := H
          replace H : (if t198 = true then (some false) else ((amount_Native.f t165 t166).bind fun t199 => (if (t199 == (t165.toList == ([] : List UInt8) && (t166 == 0))) = true then ((amount_Asset.f (⟨#[88, 65, 85]⟩ : ByteArray) 9).bind fun t200 => (if t200 = true then ((amount_Asset.f (⟨#[88, 65, 85]⟩ : ByteArray) 0).bind fun t201 => (if t201 = true then (some false) else ((trustquorumlaw35_sane.f kj5).bind fun t202 => (some t202)))) else (some false))) else (some false)))) = some r := H
          have A154 := Aside0.mk A1540
          clear A1540
          by_cases c155 : t198 = true
          · subst c155
            have H1 : (some false) = some r := by rw [if_pos rfl] at H; exact H
            clear H
            have H := H1
            clear H1
            exact absurd ((Option.some.inj H).trans HRT.out) (by decide)
          · replace c155 := Bool.eq_false_iff.mpr c155
            subst c155
            have H1 : ((amount_Native.f t165 t166).bind fun t199 => (if (t199 == (t165.toList == ([] : List UInt8) && (t166 == 0))) = true then ((amount_Asset.f (⟨#[88, 65, 85]⟩ : ByteArray) 9).bind fun t200 => (if t200 = true then ((amount_Asset.f (⟨#[88, 65, 85]⟩ : ByteArray) 0).bind fun t201 => (if t201 = true then (some false) else ((trustquorumlaw35_sane.f kj5).bind fun t202 => (some t202)))) else (some false))) else (some false))) = some r := by rw [if_neg (show ¬ (false = true) by decide)] at H; exact H
            clear H
            have H := H1
            clear H1
            replace H := Option.bind_eq_some_iff.mp H
            obtain ⟨t199, A1560, H⟩ := H
            replace H : (if (t199 == (t165.toList == ([] : List UInt8) && (t166 == 0))) = true then ((amount_Asset.f (⟨#[88, 65, 85]⟩ : ByteArray) 9).bind fun t200 => (if t200 = true then ((amount_Asset.f (⟨#[88, 65, 85]⟩ : ByteArray) 0).bind fun t201 => (if t201 = true then (some false) else ((trustquorumlaw35_sane.f kj5).bind fun t202 => (some t202)))) else (some false))) else (some false)) = some r := H
            have A156 := Aside0.mk A1560
            clear A1560
            by_cases c157 : (t199 == (t165.toList == ([] : List UInt8) && (t166 == 0))) = true
            · rw [if_pos c157] at H
              have c157b0 : (t199 == (t165.toList == ([] : List UInt8) && (t166 == 0))) = true := c157
              (try (have c157b1 : decide (t199 = (t165.toList == ([] : List UInt8) && (t166 == 0))) = true := by simpa using c157))
              (try (have c157b2 : (t199 == (t165.toList == ([] : List UInt8) && (t166 == 0))) = true := by simpa using c157))
              clear c157
              replace H := Option.bind_eq_some_iff.mp H
              obtain ⟨t200, A1580, H⟩ := H
              replace H : (if t200 = true then ((amount_Asset.f (⟨#[88, 65, 85]⟩ : ByteArray) 0).bind fun t201 => (if t201 = true then (some false) else ((trustquorumlaw35_sane.f kj5).bind fun t202 => (some t202)))) else (some false)) = some r := H
              have A158 := Aside0.mk A1580
              clear A1580
              by_cases c159 : t200 = true
              · subst c159
                have H1 : ((amount_Asset.f (⟨#[88, 65, 85]⟩ : ByteArray) 0).bind fun t201 => (if t201 = true then (some false) else ((trustquorumlaw35_sane.f kj5).bind fun t202 => (some t202)))) = some r := by rw [if_pos rfl] at H; exact H
                clear H
                have H := H1
                clear H1
                replace H := Option.bind_eq_some_iff.mp H
                obtain ⟨t201, A1600, H⟩ := H
                replace H : (if t201 = true then (some false) else ((trustquorumlaw35_sane.f kj5).bind fun t202 => (some t202))) = some r := H
                have A160 := Aside0.mk A1600
                clear A1600
                by_cases c161 : t201 = true
                · subst c161
                  have H1 : (some false) = some r := by rw [if_pos rfl] at H; exact H
                  clear H
                  have H := H1
                  clear H1
                  exact absurd ((Option.some.inj H).trans HRT.out) (by decide)
                · replace c161 := Bool.eq_false_iff.mpr c161
                  subst c161
                  have H1 : ((trustquorumlaw35_sane.f kj5).bind fun t202 => (some t202)) = some r := by rw [if_neg (show ¬ (false = true) by decide)] at H; exact H
                  clear H
                  have H := H1
                  clear H1
                  replace H := Option.bind_eq_some_iff.mp H
                  obtain ⟨t202, A1620, H⟩ := H
                  replace H : (some t202) = some r := H
                  have A162 := Aside0.mk A1620
                  clear A1620
                  obtain rfl := Option.some.inj H
                  try go_wp2
                  have n0_ := Aside0.mk (blk_drew BK174.out)
                  have n1_ := Aside0.mk (blk_drew BK175.out)
                  have n2_ := Aside0.mk (blk_drew BK176.out)
                  have n3_ := Aside0.mk (below_drew1 HB.out)
                  clear BK174
                  clear BK175
                  clear BK176
                  clear HB
                  have BK174 := n0_
                  have BK175 := n1_
                  have BK176 := n2_
                  have HB := n3_
                  clear n0_ n1_ n2_ n3_
                  refine start_ (n := 29) (S := fun w' => w'.cell? ⟨gb174, 0, none⟩ = some (.string t165) ∧ w'.cell? ⟨gb174, 1, none⟩ = some (.int .i64 t166)) (ds := []) #[false, false, false, false, false, false, false, false, false, false, false, false, false, false, false, false, false, false, false, false, false, false, false, false, false, false, false, false, false] (by kernel_rfl) rfl rfl ⟨(blk_cell BK174.out 0).trans rfl, (blk_cell BK174.out 1).trans rfl⟩ (fun hHeld => ?_); refine with_tabW trustquorumlaw35_AmountAssets.tab5 trustquorumlaw35_AmountAssets.bits5 (fun HT_ HW_ => ?_)
                  generalize wc.drew = w163 at BK174 BK175 BK176 HB hHeld ⊢
                  refine take_ (i := 0) (N := some 56) (v := ?_) (a' := ?_) #[true, false, false, false, false, false, false, false, false, false, false, false, false, false, false, false, false, false, false, false, false, false, false, false, false, false, false, false, false] rfl rfl (take_ofW HT_.out HW_.out (by kernel_rfl)) (fun _ _ _ h => h) (Or.inl ⟨by rfl, ?_⟩) hHeld ?_ ?_
                  rotate_left
                  · rintro w' ⟨s0, s1⟩
                    go_simp
                    with_reducible rfl
                  rotate_left
                  · simp only [Act.put, List.setIfInBounds_toArray, List.set_cons_zero, List.set_cons_succ, i64_w, i32_w]
                    rfl
                  refine one_ (i := 1) (N := some 57) #[true, true, false, false, false, false, false, false, false, false, false, false, false, false, false, false, false, false, false, false, false, false, false, false, false, false, false, false, false] rfl rfl (one_of HT_.out (by kernel_rfl)) (by decide) (fun K hK => ?_)
                  refine goes_ Try.func18 (by kernel_rfl) rfl #[.agg #[.string t165, .int .i64 t166]] (by rfl) rfl rfl (by (try simp only [List.map_toArray, List.map_cons, List.map_nil]); first | done | rfl | (simp only [List.length_drop, List.length_take]; rfl)) ?_
                  with_reducible refine (amount_Asset.calls t165 t166 true _ A152.out).mono ?_
                  rintro e w164 ⟨rfl, hb⟩
                  refine ⟨_, rfl, ?_⟩
                  have n0_ := Aside0.mk (blk_below (g := gb174) (o := .cells #[.string t165, .int .i64 t166] 38 (0, 0)) (by (with_reducible repeat (first | refine blk_drewN ?_ _ | refine blk_drew ?_ | refine blk_alloc ?_ _)); exact BK174.out) hb)
                  have n1_ := Aside0.mk (blk_below (g := gb175) (o := .cells #[.string t168, .int .i64 t169] 38 (0, 0)) (by (with_reducible repeat (first | refine blk_drewN ?_ _ | refine blk_drew ?_ | refine blk_alloc ?_ _)); exact BK175.out) hb)
                  have n2_ := Aside0.mk (blk_below (g := gb176) (o := .cells #[.string t171, .int .i64 t172] 38 (0, 0)) (by (with_reducible repeat (first | refine blk_drewN ?_ _ | refine blk_drew ?_ | refine blk_alloc ?_ _)); exact BK176.out) hb)
                  have n3_ := Aside0.mk (below_step (by repeat (first | (with_reducible first | exact HB.out | apply below_alloc | apply pw_below_drewN | apply below_drew1 | refine below_set ?_ GE174.out | refine below_set ?_ GE175.out | refine below_set ?_ GE176.out) | exact HB.out)) hb)
                  clear BK174
                  clear BK175
                  clear BK176
                  clear HB
                  have BK174 := n0_
                  have BK175 := n1_
                  have BK176 := n2_
                  have HB := n3_
                  clear n0_ n1_ n2_ n3_
                  (try clear hb)
                  (try clear hb2)
                  (try clear hk)
                  (try clear hi)
                  refine hK.out _ _ ⟨(blk_cell BK174.out 0).trans rfl, (blk_cell BK174.out 1).trans rfl⟩ (fun hHeld => ?_)
                  clear hK K
                  refine norm_ (a' := ?_) ?_ ?_
                  rotate_left
                  · show Act.put _ (some 57) _ = _
                    simp only [Act.put, List.setIfInBounds_toArray, List.set_cons_zero, List.set_cons_succ, i64_w, i32_w]
                    rfl
                  refine pure_ (i := 2) (N := some 58) (v := ?_) (a' := ?_) #[true, true, true, false, false, false, false, false, false, false, false, false, false, false, false, false, false, false, false, false, false, false, false, false, false, false, false, false, false] rfl rfl (any_of HT_.out (by kernel_rfl)) (fun _ _ _ h => h) (Or.inl ⟨by rfl, ?_⟩) ?_ ?_
                  rotate_left
                  · intro w'
                    go_simp
                    with_reducible rfl
                  rotate_left
                  · simp only [Act.put, List.setIfInBounds_toArray, List.set_cons_zero, List.set_cons_succ, i64_w, i32_w]
                    rfl
                  refine pure_ (i := 4) (N := some 60) (v := ?_) (a' := ?_) #[true, true, true, false, true, false, false, false, false, false, false, false, false, false, false, false, false, false, false, false, false, false, false, false, false, false, false, false, false] rfl rfl (any_of HT_.out (by kernel_rfl)) (fun _ _ _ h => h) (Or.inl ⟨by rfl, ?_⟩) ?_ ?_
                  rotate_left
                  · intro w'
                    go_simp
                    with_reducible rfl
                  rotate_left
                  · simp only [Act.put, List.setIfInBounds_toArray, List.set_cons_zero, List.set_cons_succ, i64_w, i32_w]
                    rfl
                  refine take_ (i := 3) (N := some 59) (v := ?_) (a' := ?_) #[true, true, true, true, true, false, false, false, false, false, false, false, false, false, false, false, false, false, false, false, false, false, false, false, false, false, false, false, false] rfl rfl (take_ofW HT_.out HW_.out (by kernel_rfl)) (fun _ _ _ h => h) (Or.inl ⟨by rfl, ?_⟩) hHeld ?_ ?_
                  rotate_left
                  · rintro w' ⟨s0, s1⟩
                    go_simp
                    with_reducible rfl
                  rotate_left
                  · simp only [Act.put, List.setIfInBounds_toArray, List.set_cons_zero, List.set_cons_succ, i64_w, i32_w]
                    rfl
                  refine one_ (i := 5) (N := some 61) #[true, true, true, true, true, true, false, false, false, false, false, false, false, false, false, false, false, false, false, false, false, false, false, false, false, false, false, false, false] rfl rfl (one_of HT_.out (by kernel_rfl)) (by decide) (fun K hK => ?_)
                  refine goes_ Try.func17 (by kernel_rfl) rfl #[.agg #[.string t165, .int .i64 t166], .agg #[.string (⟨#[]⟩ : ByteArray), .int .i64 0]] (by rfl) rfl rfl (by (try simp only [List.map_toArray, List.map_cons, List.map_nil]); first | done | rfl | (simp only [List.length_drop, List.length_take]; rfl)) ?_
                  with_reducible refine (amount_Less.calls kj5 t165 t166 (⟨#[]⟩ : ByteArray) 0 false _ A154.out).mono ?_
                  rintro e w165 ⟨rfl, hb⟩
                  refine ⟨_, rfl, ?_⟩
                  have n0_ := Aside0.mk (blk_below (g := gb174) (o := .cells #[.string t165, .int .i64 t166] 38 (0, 0)) (by (with_reducible repeat (first | refine blk_drewN ?_ _ | refine blk_drew ?_ | refine blk_alloc ?_ _)); exact BK174.out) hb)
                  have n1_ := Aside0.mk (blk_below (g := gb175) (o := .cells #[.string t168, .int .i64 t169] 38 (0, 0)) (by (with_reducible repeat (first | refine blk_drewN ?_ _ | refine blk_drew ?_ | refine blk_alloc ?_ _)); exact BK175.out) hb)
                  have n2_ := Aside0.mk (blk_below (g := gb176) (o := .cells #[.string t171, .int .i64 t172] 38 (0, 0)) (by (with_reducible repeat (first | refine blk_drewN ?_ _ | refine blk_drew ?_ | refine blk_alloc ?_ _)); exact BK176.out) hb)
                  have n3_ := Aside0.mk (below_step (by repeat (first | (with_reducible first | exact HB.out | apply below_alloc | apply pw_below_drewN | apply below_drew1 | refine below_set ?_ GE174.out | refine below_set ?_ GE175.out | refine below_set ?_ GE176.out) | exact HB.out)) hb)
                  clear BK174
                  clear BK175
                  clear BK176
                  clear HB
                  have BK174 := n0_
                  have BK175 := n1_
                  have BK176 := n2_
                  have HB := n3_
                  clear n0_ n1_ n2_ n3_
                  (try clear hb)
                  (try clear hb2)
                  (try clear hk)
                  (try clear hi)
                  refine hK.out _ _ ⟨(blk_cell BK174.out 0).trans rfl, (blk_cell BK174.out 1).trans rfl⟩ (fun hHeld => ?_)
                  clear hK K
                  refine norm_ (a' := ?_) ?_ ?_
                  rotate_left
                  · show Act.put _ (some 61) _ = _
                    simp only [Act.put, List.setIfInBounds_toArray, List.set_cons_zero, List.set_cons_succ, i64_w, i32_w]
                    rfl
                  refine pure_ (i := 6) (N := some 62) (v := ?_) (a' := ?_) #[true, true, true, true, true, true, true, false, false, false, false, false, false, false, false, false, false, false, false, false, false, false, false, false, false, false, false, false, false] rfl rfl (any_of HT_.out (by kernel_rfl)) (fun _ _ _ h => h) (Or.inl ⟨by rfl, ?_⟩) ?_ ?_
                  rotate_left
                  · intro w'
                    go_simp
                    with_reducible rfl
                  rotate_left
                  · simp only [Act.put, List.setIfInBounds_toArray, List.set_cons_zero, List.set_cons_succ, i64_w, i32_w]
                    rfl
                  refine pure_ (i := 7) (N := some 63) (v := ?_) (a' := ?_) #[true, true, true, true, true, true, true, true, false, false, false, false, false, false, false, false, false, false, false, false, false, false, false, false, false, false, false, false, false] rfl rfl (any_of HT_.out (by kernel_rfl)) (fun _ _ _ h => h) (Or.inl ⟨by rfl, ?_⟩) ?_ ?_
                  rotate_left
                  · intro w'
                    go_simp
                    with_reducible rfl
                  rotate_left
                  · simp only [Act.put, List.setIfInBounds_toArray, List.set_cons_zero, List.set_cons_succ, i64_w, i32_w]
                    rfl
                  refine pure_ (i := 8) (N := some 64) (v := ?_) (a' := ?_) #[true, true, true, true, true, true, true, true, true, false, false, false, false, false, false, false, false, false, false, false, false, false, false, false, false, false, false, false, false] rfl rfl (any_of HT_.out (by kernel_rfl)) (fun _ _ _ h => h) (Or.inl ⟨by rfl, ?_⟩) ?_ ?_
                  rotate_left
                  · intro w'
                    go_simp
                    with_reducible rfl
                  rotate_left
                  · simp only [Act.put, List.setIfInBounds_toArray, List.set_cons_zero, List.set_cons_succ, i64_w, i32_w]
                    rfl
                  refine pure_ (i := 12) (N := some 68) (v := ?_) (a' := ?_) #[true, true, true, true, true, true, true, true, true, false, false, false, true, false, false, false, false, false, false, false, false, false, false, false, false, false, false, false, false] rfl rfl (any_of HT_.out (by kernel_rfl)) (fun _ _ _ h => h) (Or.inl ⟨by rfl, ?_⟩) ?_ ?_
                  rotate_left
                  · intro w'
                    go_simp
                    with_reducible rfl
                  rotate_left
                  · simp only [Act.put, List.setIfInBounds_toArray, List.set_cons_zero, List.set_cons_succ, i64_w, i32_w]
                    rfl
                  refine take_ (i := 9) (N := some 65) (v := ?_) (a' := ?_) #[true, true, true, true, true, true, true, true, true, true, false, false, true, false, false, false, false, false, false, false, false, false, false, false, false, false, false, false, false] rfl rfl (take_ofW HT_.out HW_.out (by kernel_rfl)) (fun _ _ _ h => h) (Or.inl ⟨by rfl, ?_⟩) hHeld ?_ ?_
                  rotate_left
                  · rintro w' ⟨s0, s1⟩
                    go_simp
                    with_reducible rfl
                  rotate_left
                  · simp only [Act.put, List.setIfInBounds_toArray, List.set_cons_zero, List.set_cons_succ, i64_w, i32_w]
                    rfl
                  refine take_ (i := 11) (N := some 67) (v := ?_) (a' := ?_) #[true, true, true, true, true, true, true, true, true, true, false, true, true, false, false, false, false, false, false, false, false, false, false, false, false, false, false, false, false] rfl rfl (take_ofW HT_.out HW_.out (by kernel_rfl)) (fun _ _ _ h => h) (Or.inl ⟨by rfl, ?_⟩) hHeld ?_ ?_
                  rotate_left
                  · rintro w' ⟨s0, s1⟩
                    go_simp
                    with_reducible rfl
                  rotate_left
                  · simp only [Act.put, List.setIfInBounds_toArray, List.set_cons_zero, List.set_cons_succ, i64_w, i32_w]
                    rfl
                  refine pure_ (i := 13) (N := some 69) (v := ?_) (a' := ?_) #[true, true, true, true, true, true, true, true, true, true, false, true, true, true, false, false, false, false, false, false, false, false, false, false, false, false, false, false, false] rfl rfl (any_of HT_.out (by kernel_rfl)) (fun _ _ _ h => h) (Or.inl ⟨by rfl, ?_⟩) ?_ ?_
                  rotate_left
                  · intro w'
                    go_simp
                    with_reducible rfl
                  rotate_left
                  · simp only [Act.put, List.setIfInBounds_toArray, List.set_cons_zero, List.set_cons_succ, i64_w, i32_w]
                    rfl
                  refine one_ (i := 10) (N := some 66) #[true, true, true, true, true, true, true, true, true, true, true, true, true, true, false, false, false, false, false, false, false, false, false, false, false, false, false, false, false] rfl rfl (one_of HT_.out (by kernel_rfl)) (by decide) (fun K hK => ?_)
                  refine goes_ Try.func19 (by kernel_rfl) rfl #[.agg #[.string t165, .int .i64 t166]] (by rfl) rfl rfl (by (try simp only [List.map_toArray, List.map_cons, List.map_nil]); first | done | rfl | (simp only [List.length_drop, List.length_take]; rfl)) ?_
                  with_reducible refine (amount_Native.calls t165 t166 t199 _ A156.out).mono ?_
                  rintro e w166 ⟨rfl, hb⟩
                  refine ⟨_, rfl, ?_⟩
                  have n0_ := Aside0.mk (blk_below (g := gb174) (o := .cells #[.string t165, .int .i64 t166] 38 (0, 0)) (by (with_reducible repeat (first | refine blk_drewN ?_ _ | refine blk_drew ?_ | refine blk_alloc ?_ _)); exact BK174.out) hb)
                  have n1_ := Aside0.mk (blk_below (g := gb175) (o := .cells #[.string t168, .int .i64 t169] 38 (0, 0)) (by (with_reducible repeat (first | refine blk_drewN ?_ _ | refine blk_drew ?_ | refine blk_alloc ?_ _)); exact BK175.out) hb)
                  have n2_ := Aside0.mk (blk_below (g := gb176) (o := .cells #[.string t171, .int .i64 t172] 38 (0, 0)) (by (with_reducible repeat (first | refine blk_drewN ?_ _ | refine blk_drew ?_ | refine blk_alloc ?_ _)); exact BK176.out) hb)
                  have n3_ := Aside0.mk (below_step (by repeat (first | (with_reducible first | exact HB.out | apply below_alloc | apply pw_below_drewN | apply below_drew1 | refine below_set ?_ GE174.out | refine below_set ?_ GE175.out | refine below_set ?_ GE176.out) | exact HB.out)) hb)
                  clear BK174
                  clear BK175
                  clear BK176
                  clear HB
                  have BK174 := n0_
                  have BK175 := n1_
                  have BK176 := n2_
                  have HB := n3_
                  clear n0_ n1_ n2_ n3_
                  (try clear hb)
                  (try clear hb2)
                  (try clear hk)
                  (try clear hi)
                  refine hK.out _ _ ⟨(blk_cell BK174.out 0).trans rfl, (blk_cell BK174.out 1).trans rfl⟩ (fun hHeld => ?_)
                  clear hK K
                  refine norm_ (a' := ?_) ?_ ?_
                  rotate_left
                  · show Act.put _ (some 66) _ = _
                    simp only [Act.put, List.setIfInBounds_toArray, List.set_cons_zero, List.set_cons_succ, i64_w, i32_w]
                    rfl
                  refine pure_ (i := 14) (N := some 70) (v := ?_) (a' := ?_) #[true, true, true, true, true, true, true, true, true, true, true, true, true, true, true, false, false, false, false, false, false, false, false, false, false, false, false, false, false] rfl rfl (any_of HT_.out (by kernel_rfl)) (fun _ _ _ h => h) (Or.inl ⟨by rfl, ?_⟩) ?_ ?_
                  rotate_left
                  · intro w'
                    go_simp
                    with_reducible rfl
                  rotate_left
                  · simp only [Act.put, List.setIfInBounds_toArray, List.set_cons_zero, List.set_cons_succ, i64_w, i32_w]
                    rfl
                  refine pure_ (i := 15) (N := some 71) (v := ?_) (a' := ?_) #[true, true, true, true, true, true, true, true, true, true, true, true, true, true, true, true, false, false, false, false, false, false, false, false, false, false, false, false, false] rfl rfl (any_of HT_.out (by kernel_rfl)) (fun _ _ _ h => h) (Or.inl ⟨by rfl, ?_⟩) ?_ ?_
                  rotate_left
                  · intro w'
                    go_simp
                    with_reducible rfl
                  rotate_left
                  · simp only [Act.put, List.setIfInBounds_toArray, List.set_cons_zero, List.set_cons_succ, i64_w, i32_w]
                    rfl
                  refine pure_ (i := 16) (N := some 72) (v := ?_) (a' := ?_) #[true, true, true, true, true, true, true, true, true, true, true, true, true, true, true, true, true, false, false, false, false, false, false, false, false, false, false, false, false] rfl rfl (any_of HT_.out (by kernel_rfl)) (fun _ _ _ h => h) (Or.inl ⟨by rfl, ?_⟩) ?_ ?_
                  rotate_left
                  · intro w'
                    go_simp
                    with_reducible rfl
                  rotate_left
                  · simp only [Act.put, List.setIfInBounds_toArray, List.set_cons_zero, List.set_cons_succ, i64_w, i32_w]
                    rfl
                  have hq_ : (t199 == (t165.toList.isEmpty && t166 == 0)) = true := by have h_ := c157b0; rwa [show (t165.toList == ([] : List UInt8)) = t165.toList.isEmpty by cases t165.toList <;> rfl] at h_
                  rw [hq_]
                  refine pure_ (i := 17) (N := some 73) (v := ?_) (a' := ?_) #[true, true, true, true, true, true, true, true, true, true, true, true, true, true, true, true, true, true, false, false, false, false, false, false, false, false, false, false, false] rfl rfl (any_of HT_.out (by kernel_rfl)) (fun _ _ _ h => h) (Or.inl ⟨by rfl, ?_⟩) ?_ ?_
                  rotate_left
                  · intro w'
                    go_simp
                    with_reducible rfl
                  rotate_left
                  · simp only [Act.put, List.setIfInBounds_toArray, List.set_cons_zero, List.set_cons_succ, i64_w, i32_w]
                    rfl
                  refine one_ (i := 18) (N := some 74) #[true, true, true, true, true, true, true, true, true, true, true, true, true, true, true, true, true, true, true, false, false, false, false, false, false, false, false, false, false] rfl rfl (one_of HT_.out (by kernel_rfl)) (by decide) (fun K hK => ?_)
                  refine goes_ Try.func18 (by kernel_rfl) rfl #[.agg #[.string (⟨#[88, 65, 85]⟩ : ByteArray), .int .i64 9]] (by rfl) rfl rfl (by (try simp only [List.map_toArray, List.map_cons, List.map_nil]); first | done | rfl | (simp only [List.length_drop, List.length_take]; rfl)) ?_
                  with_reducible refine (amount_Asset.calls (⟨#[88, 65, 85]⟩ : ByteArray) 9 true _ A158.out).mono ?_
                  rintro e w167 ⟨rfl, hb⟩
                  refine ⟨_, rfl, ?_⟩
                  have n0_ := Aside0.mk (blk_below (g := gb174) (o := .cells #[.string t165, .int .i64 t166] 38 (0, 0)) (by (with_reducible repeat (first | refine blk_drewN ?_ _ | refine blk_drew ?_ | refine blk_alloc ?_ _)); exact BK174.out) hb)
                  have n1_ := Aside0.mk (blk_below (g := gb175) (o := .cells #[.string t168, .int .i64 t169] 38 (0, 0)) (by (with_reducible repeat (first | refine blk_drewN ?_ _ | refine blk_drew ?_ | refine blk_alloc ?_ _)); exact BK175.out) hb)
                  have n2_ := Aside0.mk (blk_below (g := gb176) (o := .cells #[.string t171, .int .i64 t172] 38 (0, 0)) (by (with_reducible repeat (first | refine blk_drewN ?_ _ | refine blk_drew ?_ | refine blk_alloc ?_ _)); exact BK176.out) hb)
                  have n3_ := Aside0.mk (below_step (by repeat (first | (with_reducible first | exact HB.out | apply below_alloc | apply pw_below_drewN | apply below_drew1 | refine below_set ?_ GE174.out | refine below_set ?_ GE175.out | refine below_set ?_ GE176.out) | exact HB.out)) hb)
                  clear BK174
                  clear BK175
                  clear BK176
                  clear HB
                  have BK174 := n0_
                  have BK175 := n1_
                  have BK176 := n2_
                  have HB := n3_
                  clear n0_ n1_ n2_ n3_
                  (try clear hb)
                  (try clear hb2)
                  (try clear hk)
                  (try clear hi)
                  refine hK.out _ _ ⟨(blk_cell BK174.out 0).trans rfl, (blk_cell BK174.out 1).trans rfl⟩ (fun hHeld => ?_)
                  clear hK K
                  refine norm_ (a' := ?_) ?_ ?_
                  rotate_left
                  · show Act.put _ (some 74) _ = _
                    simp only [Act.put, List.setIfInBounds_toArray, List.set_cons_zero, List.set_cons_succ, i64_w, i32_w]
                    rfl
                  refine pure_ (i := 19) (N := some 75) (v := ?_) (a' := ?_) #[true, true, true, true, true, true, true, true, true, true, true, true, true, true, true, true, true, true, true, true, false, false, false, false, false, false, false, false, false] rfl rfl (any_of HT_.out (by kernel_rfl)) (fun _ _ _ h => h) (Or.inl ⟨by rfl, ?_⟩) ?_ ?_
                  rotate_left
                  · intro w'
                    go_simp
                    with_reducible rfl
                  rotate_left
                  · simp only [Act.put, List.setIfInBounds_toArray, List.set_cons_zero, List.set_cons_succ, i64_w, i32_w]
                    rfl
                  refine pure_ (i := 20) (N := some 76) (v := ?_) (a' := ?_) #[true, true, true, true, true, true, true, true, true, true, true, true, true, true, true, true, true, true, true, true, true, false, false, false, false, false, false, false, false] rfl rfl (any_of HT_.out (by kernel_rfl)) (fun _ _ _ h => h) (Or.inl ⟨by rfl, ?_⟩) ?_ ?_
                  rotate_left
                  · intro w'
                    go_simp
                    with_reducible rfl
                  rotate_left
                  · simp only [Act.put, List.setIfInBounds_toArray, List.set_cons_zero, List.set_cons_succ, i64_w, i32_w]
                    rfl
                  refine pure_ (i := 21) (N := some 77) (v := ?_) (a' := ?_) #[true, true, true, true, true, true, true, true, true, true, true, true, true, true, true, true, true, true, true, true, true, true, false, false, false, false, false, false, false] rfl rfl (any_of HT_.out (by kernel_rfl)) (fun _ _ _ h => h) (Or.inl ⟨by rfl, ?_⟩) ?_ ?_
                  rotate_left
                  · intro w'
                    go_simp
                    with_reducible rfl
                  rotate_left
                  · simp only [Act.put, List.setIfInBounds_toArray, List.set_cons_zero, List.set_cons_succ, i64_w, i32_w]
                    rfl
                  refine one_ (i := 22) (N := some 78) #[true, true, true, true, true, true, true, true, true, true, true, true, true, true, true, true, true, true, true, true, true, true, true, false, false, false, false, false, false] rfl rfl (one_of HT_.out (by kernel_rfl)) (by decide) (fun K hK => ?_)
                  refine goes_ Try.func18 (by kernel_rfl) rfl #[.agg #[.string (⟨#[88, 65, 85]⟩ : ByteArray), .int .i64 0]] (by rfl) rfl rfl (by (try simp only [List.map_toArray, List.map_cons, List.map_nil]); first | done | rfl | (simp only [List.length_drop, List.length_take]; rfl)) ?_
                  with_reducible refine (amount_Asset.calls (⟨#[88, 65, 85]⟩ : ByteArray) 0 false _ A160.out).mono ?_
                  rintro e w168 ⟨rfl, hb⟩
                  refine ⟨_, rfl, ?_⟩
                  have n0_ := Aside0.mk (blk_below (g := gb174) (o := .cells #[.string t165, .int .i64 t166] 38 (0, 0)) (by (with_reducible repeat (first | refine blk_drewN ?_ _ | refine blk_drew ?_ | refine blk_alloc ?_ _)); exact BK174.out) hb)
                  have n1_ := Aside0.mk (blk_below (g := gb175) (o := .cells #[.string t168, .int .i64 t169] 38 (0, 0)) (by (with_reducible repeat (first | refine blk_drewN ?_ _ | refine blk_drew ?_ | refine blk_alloc ?_ _)); exact BK175.out) hb)
                  have n2_ := Aside0.mk (blk_below (g := gb176) (o := .cells #[.string t171, .int .i64 t172] 38 (0, 0)) (by (with_reducible repeat (first | refine blk_drewN ?_ _ | refine blk_drew ?_ | refine blk_alloc ?_ _)); exact BK176.out) hb)
                  have n3_ := Aside0.mk (below_step (by repeat (first | (with_reducible first | exact HB.out | apply below_alloc | apply pw_below_drewN | apply below_drew1 | refine below_set ?_ GE174.out | refine below_set ?_ GE175.out | refine below_set ?_ GE176.out) | exact HB.out)) hb)
                  clear BK174
                  clear BK175
                  clear BK176
                  clear HB
                  have BK174 := n0_
                  have BK175 := n1_
                  have BK176 := n2_
                  have HB := n3_
                  clear n0_ n1_ n2_ n3_
                  (try clear hb)
                  (try clear hb2)
                  (try clear hk)
                  (try clear hi)
                  refine hK.out _ _ ⟨(blk_cell BK174.out 0).trans rfl, (blk_cell BK174.out 1).trans rfl⟩ (fun hHeld => ?_)
                  clear hK K
                  refine norm_ (a' := ?_) ?_ ?_
                  rotate_left
                  · show Act.put _ (some 78) _ = _
                    simp only [Act.put, List.setIfInBounds_toArray, List.set_cons_zero, List.set_cons_succ, i64_w, i32_w]
                    rfl
                  refine pure_ (i := 23) (N := some 79) (v := ?_) (a' := ?_) #[true, true, true, true, true, true, true, true, true, true, true, true, true, true, true, true, true, true, true, true, true, true, true, true, false, false, false, false, false] rfl rfl (any_of HT_.out (by kernel_rfl)) (fun _ _ _ h => h) (Or.inl ⟨by rfl, ?_⟩) ?_ ?_
                  rotate_left
                  · intro w'
                    go_simp
                    with_reducible rfl
                  rotate_left
                  · simp only [Act.put, List.setIfInBounds_toArray, List.set_cons_zero, List.set_cons_succ, i64_w, i32_w]
                    rfl
                  refine pure_ (i := 24) (N := some 80) (v := ?_) (a' := ?_) #[true, true, true, true, true, true, true, true, true, true, true, true, true, true, true, true, true, true, true, true, true, true, true, true, true, false, false, false, false] rfl rfl (any_of HT_.out (by kernel_rfl)) (fun _ _ _ h => h) (Or.inl ⟨by rfl, ?_⟩) ?_ ?_
                  rotate_left
                  · intro w'
                    go_simp
                    with_reducible rfl
                  rotate_left
                  · simp only [Act.put, List.setIfInBounds_toArray, List.set_cons_zero, List.set_cons_succ, i64_w, i32_w]
                    rfl
                  refine pure_ (i := 25) (N := some 81) (v := ?_) (a' := ?_) #[true, true, true, true, true, true, true, true, true, true, true, true, true, true, true, true, true, true, true, true, true, true, true, true, true, true, false, false, false] rfl rfl (any_of HT_.out (by kernel_rfl)) (fun _ _ _ h => h) (Or.inl ⟨by rfl, ?_⟩) ?_ ?_
                  rotate_left
                  · intro w'
                    go_simp
                    with_reducible rfl
                  rotate_left
                  · simp only [Act.put, List.setIfInBounds_toArray, List.set_cons_zero, List.set_cons_succ, i64_w, i32_w]
                    rfl
                  refine one_ (i := 26) (N := some 82) #[true, true, true, true, true, true, true, true, true, true, true, true, true, true, true, true, true, true, true, true, true, true, true, true, true, true, true, false, false] rfl rfl (one_of HT_.out (by kernel_rfl)) (by decide) (fun K hK => ?_)
                  refine goes_ Try.func10 (by kernel_rfl) rfl #[] (by rfl) rfl rfl (by (try simp only [List.map_toArray, List.map_cons, List.map_nil]); first | done | rfl | (simp only [List.length_drop, List.length_take]; rfl)) ?_
                  with_reducible refine (trustquorumlaw35_sane.calls kj5  t202 _ A162.out).mono ?_
                  rintro e w169 ⟨rfl, hb⟩
                  refine ⟨_, rfl, ?_⟩
                  have n0_ := Aside0.mk (blk_below (g := gb174) (o := .cells #[.string t165, .int .i64 t166] 38 (0, 0)) (by (with_reducible repeat (first | refine blk_drewN ?_ _ | refine blk_drew ?_ | refine blk_alloc ?_ _)); exact BK174.out) hb)
                  have n1_ := Aside0.mk (blk_below (g := gb175) (o := .cells #[.string t168, .int .i64 t169] 38 (0, 0)) (by (with_reducible repeat (first | refine blk_drewN ?_ _ | refine blk_drew ?_ | refine blk_alloc ?_ _)); exact BK175.out) hb)
                  have n2_ := Aside0.mk (blk_below (g := gb176) (o := .cells #[.string t171, .int .i64 t172] 38 (0, 0)) (by (with_reducible repeat (first | refine blk_drewN ?_ _ | refine blk_drew ?_ | refine blk_alloc ?_ _)); exact BK176.out) hb)
                  have n3_ := Aside0.mk (below_step (by repeat (first | (with_reducible first | exact HB.out | apply below_alloc | apply pw_below_drewN | apply below_drew1 | refine below_set ?_ GE174.out | refine below_set ?_ GE175.out | refine below_set ?_ GE176.out) | exact HB.out)) hb)
                  clear BK174
                  clear BK175
                  clear BK176
                  clear HB
                  have BK174 := n0_
                  have BK175 := n1_
                  have BK176 := n2_
                  have HB := n3_
                  clear n0_ n1_ n2_ n3_
                  (try clear hb)
                  (try clear hb2)
                  (try clear hk)
                  (try clear hi)
                  refine hK.out _ _ ⟨(blk_cell BK174.out 0).trans rfl, (blk_cell BK174.out 1).trans rfl⟩ (fun hHeld => ?_)
                  clear hK K
                  refine norm_ (a' := ?_) ?_ ?_
                  rotate_left
                  · show Act.put _ (some 82) _ = _
                    simp only [Act.put, List.setIfInBounds_toArray, List.set_cons_zero, List.set_cons_succ, i64_w, i32_w]
                    rfl
                  refine pure_ (i := 27) (N := some 83) (v := ?_) (a' := ?_) #[true, true, true, true, true, true, true, true, true, true, true, true, true, true, true, true, true, true, true, true, true, true, true, true, true, true, true, true, false] rfl rfl (any_of HT_.out (by kernel_rfl)) (fun _ _ _ h => h) (Or.inl ⟨by rfl, ?_⟩) ?_ ?_
                  rotate_left
                  · intro w'
                    go_simp
                    with_reducible rfl
                  rotate_left
                  · simp only [Act.put, List.setIfInBounds_toArray, List.set_cons_zero, List.set_cons_succ, i64_w, i32_w]
                    rfl
                  refine pure_ (i := 28) (N := some 2) (v := ?_) (a' := ?_) #[true, true, true, true, true, true, true, true, true, true, true, true, true, true, true, true, true, true, true, true, true, true, true, true, true, true, true, true, true] rfl rfl (any_of HT_.out (by kernel_rfl)) (fun _ _ _ h => h) (Or.inl ⟨by rfl, ?_⟩) ?_ ?_
                  rotate_left
                  · intro w'
                    go_simp
                    with_reducible rfl
                  rotate_left
                  · simp only [Act.put, List.setIfInBounds_toArray, List.set_cons_zero, List.set_cons_succ, i64_w, i32_w]
                    rfl
                  refine done_ (done_of HT_.out (by kernel_rfl)) ?_
                  try go_wp2
                  go_ret
                  exact ⟨by first | rfl | (simp [errW_none, errW_some] <;> rfl) | (simp [*, errW_none, errW_some] <;> rfl), by repeat (first | (with_reducible first | exact HB.out | apply below_alloc | apply pw_below_drewN | apply below_drew1 | refine below_set ?_ GE174.out | refine below_set ?_ GE175.out | refine below_set ?_ GE176.out) | exact HB.out)⟩
              · replace c159 := Bool.eq_false_iff.mpr c159
                subst c159
                have H1 : (some false) = some r := by rw [if_neg (show ¬ (false = true) by decide)] at H; exact H
                clear H
                have H := H1
                clear H1
                exact absurd ((Option.some.inj H).trans HRT.out) (by decide)
            · rw [if_neg c157] at H
              have c157b0 : (t199 == (t165.toList == ([] : List UInt8) && (t166 == 0))) = false := by simpa using c157
              (try (have c157b1 : decide (t199 = (t165.toList == ([] : List UInt8) && (t166 == 0))) = false := by simpa using c157))
              (try (have c157b2 : (t199 == (t165.toList == ([] : List UInt8) && (t166 == 0))) = false := by simpa using c157))
              (try (have c157b3 : ¬ (t199 = (t165.toList == ([] : List UInt8) && (t166 == 0))) := by simpa using c157))
              clear c157
              exact absurd ((Option.some.inj H).trans HRT.out) (by decide)
        · replace c153 := Bool.eq_false_iff.mpr c153
          subst c153
          have H1 : (some false) = some r := by rw [if_neg (show ¬ (false = true) by decide)] at H; exact H
          clear H
          have H := H1
          clear H1
          exact absurd ((Option.some.inj H).trans HRT.out) (by decide)

/-- THE ONE PURE STATEMENT of trustquorumlaw35_AmountAssets: yours. -/
def trustquorumlaw35_AmountAssets.Pure : Prop := ∀ (l0 : List Int), l0.length ≤ maxLen → l0.length * 8 ≤ 140737488351232 → (∀ x ∈ l0, (Lit.int .i64 x).wf = true) → ∃ k, trustquorumlaw35_AmountAssets.f k l0 = some true
theorem trustquorumlaw35_AmountAssets.walk (P : trustquorumlaw35_AmountAssets.Pure) (a0 : Option Addr) (len0 cap0 : Nat) (z0 : List Int) (w : World) (w0 : (a0 = none ∧ len0 = 0 ∧ cap0 = 0 ∧ z0 = []) ∨ ∃ x, a0 = some x ∧ len0 ≤ cap0 ∧ cap0 ≤ maxLen ∧ z0.length = cap0 ∧ (∀ i, i < z0.length → w.cell? (x.add i) = some (.int .i64 (z0.getD i 0))) ∧ ∀ n ∈ z0, (Lit.int .i64 n).wf = true) (y0 : len0 * 8 ≤ 140737488351232) :
    Calls Try.prog 6 #[.slice a0 len0 cap0] w fun e w' => e = .returned (.bool true) ∧ Below w.heap.size w w' := by
  obtain ⟨l0, rfl, hr0, hm0, hw0, hc0⟩ := ReadsInt.ofRowC w0
  obtain ⟨k, h⟩ := P l0 hm0 y0 hw0
  refine (trustquorumlaw35_AmountAssets.calls k _ _ l0 true w (Kd.C_of_reads (d := (0 : Int)) (h1 := fun _ => rfl) hr0) hc0 ⟨rfl⟩ h).mono ?_
  rintro e w' ⟨rfl, hd⟩
  exact ⟨rfl, hd⟩

end Go.Proofs.Ytkiebhjbnnnikaa.QAmountAssets
