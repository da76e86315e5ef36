/- Lean functions that answer as the Go functions do which the law reaches, and proofs that the Go code comes to exactly these answers. Conditions: those that each theorem names. -/
import Derived.Test.YtkiebhjbnnnikaaQAmountExactx0
import Derived.Test.YtkiebhjbnnnikaaQAmountExactx2
import Derived.Test.YtkiebhjbnnnikaaQAmountExactx3
import Derived.Test.YtkiebhjbnnnikaaQAmountExactx4
import Derived.Test.YtkiebhjbnnnikaaQAmountExactx5
namespace Go.Proofs.Ytkiebhjbnnnikaa.QAmountExact
open Go.RowKit Go.Proofs.YtkiebhjbnnnikaaW.PrintWords Go.Proofs.YtkiebhjbnnnikaaW.PrintLast Go.Proofs.YtkiebhjbnnnikaaW.PrintMore
attribute [local go_sem] max2_int min2_int max_two min_two max_three min_three max_four min_four   -- for this text's walks alone
set_option linter.unusedVariables false
set_option linter.unusedSimpArgs false

/-! ### trustquorumlaw35_AmountExact: function 7 -/
mutual
def trustquorumlaw35_AmountExact.j0 : Nat → List Int → Int → Int → Int → Int → Bool → ByteArray → Int → ByteArray → Int → Option (Bool)
  | 0, _, _, _, _, _, _, _, _, _, _ => none
  | k + 1, x0, x1, x2, x3, x4, x41, x210000, x210001, x211000, x211001 => if x41 = true then ((trustquorumlaw35_sane.f k).bind fun t211 => (some t211)) else ((trustquorumplay_New.f x0).bind fun bt212 => ((trustquorumplay_Src_Odd.f bt212.1 bt212.2).bind fun bt215 => ((trustquorumplay_Src_Odd.f bt212.1 bt215.2).bind fun bt217 => ((trustquorumplay_Src_Range.f bt212.1 bt217.2 0 1000).bind fun bt219 => ((some (([x1, x2, x3, x4, bt215.1, bt217.1, bt219.1] : List Int) : List Int)).bind fun y221 => (trustquorumlaw35_AmountExact.l0 k y221 (y221.length : Int) 0 x210000 x210001 x211000 x211001 bt212.1 bt219.2))))))
def trustquorumlaw35_AmountExact.l0 : Nat → List Int → Int → Int → ByteArray → Int → ByteArray → Int → List Int → Int → Option (Bool)
  | 0, _, _, _, _, _, _, _, _, _ => none
  | k + 1, x16, x57, x58, x210000, x210001, x211000, x211001, x215000, x215001 => if x58 < x57 then (if 0 ≤ x58 then (if x58 < (x16.length : Int) then (if (x16.length : Int) = 0 then (none) else (if 0 ≤ (Int.tmod (wrap64 (x58 + 1)) (x16.length : Int)) then (if (Int.tmod (wrap64 (x58 + 1)) (x16.length : Int)) < (x16.length : Int) then (if 0 ≤ (Int.tmod (wrap64 (x58 + 2)) (x16.length : Int)) then (if (Int.tmod (wrap64 (x58 + 2)) (x16.length : Int)) < (x16.length : Int) then (if 0 ≤ (Int.tmod (wrap64 (x58 + 3)) (x16.length : Int)) then (if (Int.tmod (wrap64 (x58 + 3)) (x16.length : Int)) < (x16.length : Int) then ((amount_Add.f k (rd x16 x58) (rd x16 (Int.tmod (wrap64 (x58 + 1)) (x16.length : Int)))).bind fun bt228 => ((trustquorumref35_Add.f (rd x16 x58) (rd x16 (Int.tmod (wrap64 (x58 + 1)) (x16.length : Int)))).bind fun bt230 => ((amount_Valid.f (rd x16 x58)).bind fun t232 => ((trustquorumref35_Valid.f (rd x16 x58)).bind fun t233 => (if (t232 != t233) = true then (trustquorumlaw35_AmountExact.j2 k x16 (rd x16 x58) (rd x16 (Int.tmod (wrap64 (x58 + 1)) (x16.length : Int))) (rd x16 (Int.tmod (wrap64 (x58 + 2)) (x16.length : Int))) (rd x16 (Int.tmod (wrap64 (x58 + 3)) (x16.length : Int))) x57 x58 true x210000 x210001 x211000 x211001 x215000 x215001) else ((amount_Price.f (rd x16 x58) (rd x16 (Int.tmod (wrap64 (x58 + 1)) (x16.length : Int)))).bind fun t234 => ((trustquorumref35_Price.f (rd x16 x58) (rd x16 (Int.tmod (wrap64 (x58 + 1)) (x16.length : Int)))).bind fun t235 => (if (t234 != t235) = true then (trustquorumlaw35_AmountExact.j2 k x16 (rd x16 x58) (rd x16 (Int.tmod (wrap64 (x58 + 1)) (x16.length : Int))) (rd x16 (Int.tmod (wrap64 (x58 + 2)) (x16.length : Int))) (rd x16 (Int.tmod (wrap64 (x58 + 3)) (x16.length : Int))) x57 x58 true x210000 x210001 x211000 x211001 x215000 x215001) else (if bt228.1 = bt230.1 then (trustquorumlaw35_AmountExact.j2 k x16 (rd x16 x58) (rd x16 (Int.tmod (wrap64 (x58 + 1)) (x16.length : Int))) (rd x16 (Int.tmod (wrap64 (x58 + 2)) (x16.length : Int))) (rd x16 (Int.tmod (wrap64 (x58 + 3)) (x16.length : Int))) x57 x58 (bt228.2 != bt230.2) x210000 x210001 x211000 x211001 x215000 x215001) else (trustquorumlaw35_AmountExact.j2 k x16 (rd x16 x58) (rd x16 (Int.tmod (wrap64 (x58 + 1)) (x16.length : Int))) (rd x16 (Int.tmod (wrap64 (x58 + 2)) (x16.length : Int))) (rd x16 (Int.tmod (wrap64 (x58 + 3)) (x16.length : Int))) x57 x58 true x210000 x210001 x211000 x211001 x215000 x215001)))))))))) else (none)) else (none)) else (none)) else (none)) else (none)) else (none))) else (none)) else (none)) else ((trustquorumplay_Src_Asset.f x215000 x215001).bind fun bt254 => ((trustquorumplay_Src_OddAsset.f x215000 bt254.2.2).bind fun bt257 => (trustquorumlaw35_AmountExact.l1 k [(⟨x210000, x210001⟩ : S38), (⟨x211000, x211001⟩ : S38), (⟨bt254.1, bt254.2.1⟩ : S38), (⟨bt257.1, bt257.2.1⟩ : S38)] 0 x210000 x210001)))
def trustquorumlaw35_AmountExact.j2 : Nat → List Int → Int → Int → Int → Int → Int → Int → Bool → ByteArray → Int → ByteArray → Int → List Int → Int → Option (Bool)
  | 0, _, _, _, _, _, _, _, _, _, _, _, _, _, _ => none
  | k + 1, x16, x18, x19, x20, x21, x57, x58, x122, x210000, x210001, x211000, x211001, x215000, x215001 => if x122 = true then (some false) else ((amount_Sub.f k x18 x19).bind fun bt236 => ((trustquorumref35_Sub.f x18 x19).bind fun bt238 => ((amount_Reduce.f k x18 x19).bind fun bt240 => ((trustquorumref35_Reduce.f k x18 x19).bind fun bt242 => (if bt236.1 = bt238.1 then (if bt236.2 = bt238.2 then (if bt240.1 = bt242.1 then (if bt240.2 = bt242.2 then ((amount_Compare.f x18 x19 x20 x21).bind fun t244 => ((trustquorumref35_Compare.f k x18 x19 x20 x21).bind fun t245 => (trustquorumlaw35_AmountExact.j3 k x16 x18 x19 x20 x57 x58 (t244 != t245) x210000 x210001 x211000 x211001 x215000 x215001))) else (trustquorumlaw35_AmountExact.j3 k x16 x18 x19 x20 x57 x58 true x210000 x210001 x211000 x211001 x215000 x215001)) else (trustquorumlaw35_AmountExact.j3 k x16 x18 x19 x20 x57 x58 true x210000 x210001 x211000 x211001 x215000 x215001)) else (trustquorumlaw35_AmountExact.j3 k x16 x18 x19 x20 x57 x58 true x210000 x210001 x211000 x211001 x215000 x215001)) else (trustquorumlaw35_AmountExact.j3 k x16 x18 x19 x20 x57 x58 true x210000 x210001 x211000 x211001 x215000 x215001))))))
def trustquorumlaw35_AmountExact.j3 : Nat → List Int → Int → Int → Int → Int → Int → Bool → ByteArray → Int → ByteArray → Int → List Int → Int → Option (Bool)
  | 0, _, _, _, _, _, _, _, _, _, _, _, _, _ => none
  | k + 1, x16, x18, x19, x20, x57, x58, x177, x210000, x210001, x211000, x211001, x215000, x215001 => if x177 = true then (some false) else ((amount_Down.f k x18 x19 x20).bind fun bt246 => ((trustquorumref35_Down.f x18 x19 x20).bind fun bt248 => (if bt246.1 = bt248.1 then (trustquorumlaw35_AmountExact.j4 k x16 x18 x19 x20 x57 x58 (bt246.2 != bt248.2) x210000 x210001 x211000 x211001 x215000 x215001) else (trustquorumlaw35_AmountExact.j4 k x16 x18 x19 x20 x57 x58 true x210000 x210001 x211000 x211001 x215000 x215001))))
def trustquorumlaw35_AmountExact.j4 : Nat → List Int → Int → Int → Int → Int → Int → Bool → ByteArray → Int → ByteArray → Int → List Int → Int → Option (Bool)
  | 0, _, _, _, _, _, _, _, _, _, _, _, _, _ => none
  | k + 1, x16, x18, x19, x20, x57, x58, x199, x210000, x210001, x211000, x211001, x215000, x215001 => if x199 = true then (some false) else ((amount_Up.f k x18 x19 x20).bind fun bt250 => ((trustquorumref35_Up.f x18 x19 x20).bind fun bt252 => (if bt250.1 = bt252.1 then (if bt250.2 = bt252.2 then (trustquorumlaw35_AmountExact.l0 k x16 x57 (wrap64 (x58 + 1)) x210000 x210001 x211000 x211001 x215000 x215001) else (some false)) else (some false))))
def trustquorumlaw35_AmountExact.l1 : Nat → List S38 → Int → ByteArray → Int → Option (Bool)
  | 0, _, _, _, _ => none
  | k + 1, x229, x230, x210000, x210001 => if x230 < 4 then (if 0 ≤ x230 then ((amount_Asset.f ((rd_T38 x229 x230).f0) ((rd_T38 x229 x230).f1)).bind fun t262 => ((trustquorumref35_Asset.f k ((rd_T38 x229 x230).f0) ((rd_T38 x229 x230).f1)).bind fun t263 => (if (t262 != t263) = true then (some false) else ((amount_Native.f ((rd_T38 x229 x230).f0) ((rd_T38 x229 x230).f1)).bind fun t264 => ((trustquorumref35_Native.f ((rd_T38 x229 x230).f0) ((rd_T38 x229 x230).f1)).bind fun t265 => (if (t264 != t265) = true then (some false) else ((amount_Less.f k ((rd_T38 x229 x230).f0) ((rd_T38 x229 x230).f1) x210000 x210001).bind fun t266 => ((trustquorumref35_Less.f ((rd_T38 x229 x230).f0) ((rd_T38 x229 x230).f1) x210000 x210001).bind fun t267 => (if (t266 != t267) = true then (some false) else ((amount_Less.f k x210000 x210001 ((rd_T38 x229 x230).f0) ((rd_T38 x229 x230).f1)).bind fun t268 => ((trustquorumref35_Less.f x210000 x210001 ((rd_T38 x229 x230).f0) ((rd_T38 x229 x230).f1)).bind fun t269 => (if (t268 != t269) = true then (some false) else (trustquorumlaw35_AmountExact.l1 k x229 (wrap64 (x230 + 1)) x210000 x210001))))))))))))) else (none)) else ((trustquorumlaw35_sane.f k).bind fun t260 => (some t260))
end
def trustquorumlaw35_AmountExact.f (k : Nat) (l0 : List Int) (a1 : Int) (a2 : Int) (a3 : Int) (a4 : Int) (a5_0 : ByteArray) (a5_1 : Int) (a6_0 : ByteArray) (a6_1 : Int) : Option (Bool) := if (a5_0.size : Int) > 60 then (trustquorumlaw35_AmountExact.j0 k l0 a1 a2 a3 a4 true a5_0 a5_1 a6_0 a6_1) else (trustquorumlaw35_AmountExact.j0 k l0 a1 a2 a3 a4 (decide ((a6_0.size : Int) > 60)) a5_0 a5_1 a6_0 a6_1)
theorem trustquorumlaw35_AmountExact.mono_l : ∀ k, (∀ y0 y1 y2 y3 y4 y5 y6 y7 y8 y9, LeO (trustquorumlaw35_AmountExact.j0 k y0 y1 y2 y3 y4 y5 y6 y7 y8 y9) (trustquorumlaw35_AmountExact.j0 (k + 1) y0 y1 y2 y3 y4 y5 y6 y7 y8 y9)) ∧ (∀ y0 y1 y2 y3 y4 y5 y6 y7 y8, LeO (trustquorumlaw35_AmountExact.l0 k y0 y1 y2 y3 y4 y5 y6 y7 y8) (trustquorumlaw35_AmountExact.l0 (k + 1) y0 y1 y2 y3 y4 y5 y6 y7 y8)) ∧ (∀ y0 y1 y2 y3 y4 y5 y6 y7 y8 y9 y10 y11 y12 y13, LeO (trustquorumlaw35_AmountExact.j2 k y0 y1 y2 y3 y4 y5 y6 y7 y8 y9 y10 y11 y12 y13) (trustquorumlaw35_AmountExact.j2 (k + 1) y0 y1 y2 y3 y4 y5 y6 y7 y8 y9 y10 y11 y12 y13)) ∧ (∀ y0 y1 y2 y3 y4 y5 y6 y7 y8 y9 y10 y11 y12, LeO (trustquorumlaw35_AmountExact.j3 k y0 y1 y2 y3 y4 y5 y6 y7 y8 y9 y10 y11 y12) (trustquorumlaw35_AmountExact.j3 (k + 1) y0 y1 y2 y3 y4 y5 y6 y7 y8 y9 y10 y11 y12)) ∧ (∀ y0 y1 y2 y3 y4 y5 y6 y7 y8 y9 y10 y11 y12, LeO (trustquorumlaw35_AmountExact.j4 k y0 y1 y2 y3 y4 y5 y6 y7 y8 y9 y10 y11 y12) (trustquorumlaw35_AmountExact.j4 (k + 1) y0 y1 y2 y3 y4 y5 y6 y7 y8 y9 y10 y11 y12)) ∧ (∀ y0 y1 y2 y3, LeO (trustquorumlaw35_AmountExact.l1 k y0 y1 y2 y3) (trustquorumlaw35_AmountExact.l1 (k + 1) y0 y1 y2 y3))
  | 0 => ⟨fun _ _ _ _ _ _ _ _ _ _ r h => by simp [trustquorumlaw35_AmountExact.j0] at h, fun _ _ _ _ _ _ _ _ _ r h => by simp [trustquorumlaw35_AmountExact.l0] at h, fun _ _ _ _ _ _ _ _ _ _ _ _ _ _ r h => by simp [trustquorumlaw35_AmountExact.j2] at h, fun _ _ _ _ _ _ _ _ _ _ _ _ _ r h => by simp [trustquorumlaw35_AmountExact.j3] at h, fun _ _ _ _ _ _ _ _ _ _ _ _ _ r h => by simp [trustquorumlaw35_AmountExact.j4] at h, fun _ _ _ _ r h => by simp [trustquorumlaw35_AmountExact.l1] at h⟩
  | k + 1 => by
    obtain ⟨ih0, ih1, ih2, ih3, ih4, ih5⟩ := trustquorumlaw35_AmountExact.mono_l k
    refine ⟨?_, ?_, ?_, ?_, ?_, ?_⟩
    · intro y0 y1 y2 y3 y4 y5 y6 y7 y8 y9
      unfold trustquorumlaw35_AmountExact.j0
      repeat' first
      | (with_reducible exact ih0 _ _ _ _ _ _ _ _ _ _)
      | (with_reducible exact ih1 _ _ _ _ _ _ _ _ _)
      | (with_reducible exact ih2 _ _ _ _ _ _ _ _ _ _ _ _ _ _)
      | (with_reducible exact ih3 _ _ _ _ _ _ _ _ _ _ _ _ _)
      | (with_reducible exact ih4 _ _ _ _ _ _ _ _ _ _ _ _ _)
      | (with_reducible exact ih5 _ _ _ _)
      | (with_reducible exact amount_Add.mono _ _ _)
      | (with_reducible exact amount_Down.mono _ _ _ _)
      | (with_reducible exact amount_Less.mono _ _ _ _ _)
      | (with_reducible exact amount_Reduce.mono _ _ _)
      | (with_reducible exact amount_Sub.mono _ _ _)
      | (with_reducible exact amount_Up.mono _ _ _ _)
      | (with_reducible exact trustquorumlaw35_sane.mono _)
      | (with_reducible exact trustquorumref35_Asset.mono _ _ _)
      | (with_reducible exact trustquorumref35_Compare.mono _ _ _ _ _)
      | (with_reducible exact trustquorumref35_Reduce.mono _ _ _)
      | (with_reducible exact LeO.refl _)
      | (with_reducible exact LeO.none _)
      | (with_reducible refine LeO.ite ?_ ?_)
      | (with_reducible refine LeO.bind ?_ (fun _ => ?_))
      | exact ih0 _ _ _ _ _ _ _ _ _ _
      | exact ih1 _ _ _ _ _ _ _ _ _
      | exact ih2 _ _ _ _ _ _ _ _ _ _ _ _ _ _
      | exact ih3 _ _ _ _ _ _ _ _ _ _ _ _ _
      | exact ih4 _ _ _ _ _ _ _ _ _ _ _ _ _
      | exact ih5 _ _ _ _
      | exact amount_Add.mono _ _ _
      | exact amount_Down.mono _ _ _ _
      | exact amount_Less.mono _ _ _ _ _
      | exact amount_Reduce.mono _ _ _
      | exact amount_Sub.mono _ _ _
      | exact amount_Up.mono _ _ _ _
      | exact trustquorumlaw35_sane.mono _
      | exact trustquorumref35_Asset.mono _ _ _
      | exact trustquorumref35_Compare.mono _ _ _ _ _
      | exact trustquorumref35_Reduce.mono _ _ _
      | exact LeO.none _
      | refine LeO.ite ?_ ?_
      | refine LeO.bind ?_ (fun _ => ?_)
    · intro y0 y1 y2 y3 y4 y5 y6 y7 y8
      unfold trustquorumlaw35_AmountExact.l0
      repeat' first
      | (with_reducible exact ih0 _ _ _ _ _ _ _ _ _ _)
      | (with_reducible exact ih1 _ _ _ _ _ _ _ _ _)
      | (with_reducible exact ih2 _ _ _ _ _ _ _ _ _ _ _ _ _ _)
      | (with_reducible exact ih3 _ _ _ _ _ _ _ _ _ _ _ _ _)
      | (with_reducible exact ih4 _ _ _ _ _ _ _ _ _ _ _ _ _)
      | (with_reducible exact ih5 _ _ _ _)
      | (with_reducible exact amount_Add.mono _ _ _)
      | (with_reducible exact amount_Down.mono _ _ _ _)
      | (with_reducible exact amount_Less.mono _ _ _ _ _)
      | (with_reducible exact amount_Reduce.mono _ _ _)
      | (with_reducible exact amount_Sub.mono _ _ _)
      | (with_reducible exact amount_Up.mono _ _ _ _)
      | (with_reducible exact trustquorumlaw35_sane.mono _)
      | (with_reducible exact trustquorumref35_Asset.mono _ _ _)
      | (with_reducible exact trustquorumref35_Compare.mono _ _ _ _ _)
      | (with_reducible exact trustquorumref35_Reduce.mono _ _ _)
      | (with_reducible exact LeO.refl _)
      | (with_reducible exact LeO.none _)
      | (with_reducible refine LeO.ite ?_ ?_)
      | (with_reducible refine LeO.bind ?_ (fun _ => ?_))
      | exact ih0 _ _ _ _ _ _ _ _ _ _
      | exact ih1 _ _ _ _ _ _ _ _ _
      | exact ih2 _ _ _ _ _ _ _ _ _ _ _ _ _ _
      | exact ih3 _ _ _ _ _ _ _ _ _ _ _ _ _
      | exact ih4 _ _ _ _ _ _ _ _ _ _ _ _ _
      | exact ih5 _ _ _ _
      | exact amount_Add.mono _ _ _
      | exact amount_Down.mono _ _ _ _
      | exact amount_Less.mono _ _ _ _ _
      | exact amount_Reduce.mono _ _ _
      | exact amount_Sub.mono _ _ _
      | exact amount_Up.mono _ _ _ _
      | exact trustquorumlaw35_sane.mono _
      | exact trustquorumref35_Asset.mono _ _ _
      | exact trustquorumref35_Compare.mono _ _ _ _ _
      | exact trustquorumref35_Reduce.mono _ _ _
      | exact LeO.none _
      | refine LeO.ite ?_ ?_
      | refine LeO.bind ?_ (fun _ => ?_)
    · intro y0 y1 y2 y3 y4 y5 y6 y7 y8 y9 y10 y11 y12 y13
      unfold trustquorumlaw35_AmountExact.j2
      repeat' first
      | (with_reducible exact ih0 _ _ _ _ _ _ _ _ _ _)
      | (with_reducible exact ih1 _ _ _ _ _ _ _ _ _)
      | (with_reducible exact ih2 _ _ _ _ _ _ _ _ _ _ _ _ _ _)
      | (with_reducible exact ih3 _ _ _ _ _ _ _ _ _ _ _ _ _)
      | (with_reducible exact ih4 _ _ _ _ _ _ _ _ _ _ _ _ _)
      | (with_reducible exact ih5 _ _ _ _)
      | (with_reducible exact amount_Add.mono _ _ _)
      | (with_reducible exact amount_Down.mono _ _ _ _)
      | (with_reducible exact amount_Less.mono _ _ _ _ _)
      | (with_reducible exact amount_Reduce.mono _ _ _)
      | (with_reducible exact amount_Sub.mono _ _ _)
      | (with_reducible exact amount_Up.mono _ _ _ _)
      | (with_reducible exact trustquorumlaw35_sane.mono _)
      | (with_reducible exact trustquorumref35_Asset.mono _ _ _)
      | (with_reducible exact trustquorumref35_Compare.mono _ _ _ _ _)
      | (with_reducible exact trustquorumref35_Reduce.mono _ _ _)
      | (with_reducible exact LeO.refl _)
      | (with_reducible exact LeO.none _)
      | (with_reducible refine LeO.ite ?_ ?_)
      | (with_reducible refine LeO.bind ?_ (fun _ => ?_))
      | exact ih0 _ _ _ _ _ _ _ _ _ _
      | exact ih1 _ _ _ _ _ _ _ _ _
      | exact ih2 _ _ _ _ _ _ _ _ _ _ _ _ _ _
      | exact ih3 _ _ _ _ _ _ _ _ _ _ _ _ _
      | exact ih4 _ _ _ _ _ _ _ _ _ _ _ _ _
      | exact ih5 _ _ _ _
      | exact amount_Add.mono _ _ _
      | exact amount_Down.mono _ _ _ _
      | exact amount_Less.mono _ _ _ _ _
      | exact amount_Reduce.mono _ _ _
      | exact amount_Sub.mono _ _ _
      | exact amount_Up.mono _ _ _ _
      | exact trustquorumlaw35_sane.mono _
      | exact trustquorumref35_Asset.mono _ _ _
      | exact trustquorumref35_Compare.mono _ _ _ _ _
      | exact trustquorumref35_Reduce.mono _ _ _
      | exact LeO.none _
      | refine LeO.ite ?_ ?_
      | refine LeO.bind ?_ (fun _ => ?_)
    · intro y0 y1 y2 y3 y4 y5 y6 y7 y8 y9 y10 y11 y12
      unfold trustquorumlaw35_AmountExact.j3
      repeat' first
      | (with_reducible exact ih0 _ _ _ _ _ _ _ _ _ _)
      | (with_reducible exact ih1 _ _ _ _ _ _ _ _ _)
      | (with_reducible exact ih2 _ _ _ _ _ _ _ _ _ _ _ _ _ _)
      | (with_reducible exact ih3 _ _ _ _ _ _ _ _ _ _ _ _ _)
      | (with_reducible exact ih4 _ _ _ _ _ _ _ _ _ _ _ _ _)
      | (with_reducible exact ih5 _ _ _ _)
      | (with_reducible exact amount_Add.mono _ _ _)
      | (with_reducible exact amount_Down.mono _ _ _ _)
      | (with_reducible exact amount_Less.mono _ _ _ _ _)
      | (with_reducible exact amount_Reduce.mono _ _ _)
      | (with_reducible exact amount_Sub.mono _ _ _)
      | (with_reducible exact amount_Up.mono _ _ _ _)
      | (with_reducible exact trustquorumlaw35_sane.mono _)
      | (with_reducible exact trustquorumref35_Asset.mono _ _ _)
      | (with_reducible exact trustquorumref35_Compare.mono _ _ _ _ _)
      | (with_reducible exact trustquorumref35_Reduce.mono _ _ _)
      | (with_reducible exact LeO.refl _)
      | (with_reducible exact LeO.none _)
      | (with_reducible refine LeO.ite ?_ ?_)
      | (with_reducible refine LeO.bind ?_ (fun _ => ?_))
      | exact ih0 _ _ _ _ _ _ _ _ _ _
      | exact ih1 _ _ _ _ _ _ _ _ _
      | exact ih2 _ _ _ _ _ _ _ _ _ _ _ _ _ _
      | exact ih3 _ _ _ _ _ _ _ _ _ _ _ _ _
      | exact ih4 _ _ _ _ _ _ _ _ _ _ _ _ _
      | exact ih5 _ _ _ _
      | exact amount_Add.mono _ _ _
      | exact amount_Down.mono _ _ _ _
      | exact amount_Less.mono _ _ _ _ _
      | exact amount_Reduce.mono _ _ _
      | exact amount_Sub.mono _ _ _
      | exact amount_Up.mono _ _ _ _
      | exact trustquorumlaw35_sane.mono _
      | exact trustquorumref35_Asset.mono _ _ _
      | exact trustquorumref35_Compare.mono _ _ _ _ _
      | exact trustquorumref35_Reduce.mono _ _ _
      | exact LeO.none _
      | refine LeO.ite ?_ ?_
      | refine LeO.bind ?_ (fun _ => ?_)
    · intro y0 y1 y2 y3 y4 y5 y6 y7 y8 y9 y10 y11 y12
      unfold trustquorumlaw35_AmountExact.j4
      repeat' first
      | (with_reducible exact ih0 _ _ _ _ _ _ _ _ _ _)
      | (with_reducible exact ih1 _ _ _ _ _ _ _ _ _)
      | (with_reducible exact ih2 _ _ _ _ _ _ _ _ _ _ _ _ _ _)
      | (with_reducible exact ih3 _ _ _ _ _ _ _ _ _ _ _ _ _)
      | (with_reducible exact ih4 _ _ _ _ _ _ _ _ _ _ _ _ _)
      | (with_reducible exact ih5 _ _ _ _)
      | (with_reducible exact amount_Add.mono _ _ _)
      | (with_reducible exact amount_Down.mono _ _ _ _)
      | (with_reducible exact amount_Less.mono _ _ _ _ _)
      | (with_reducible exact amount_Reduce.mono _ _ _)
      | (with_reducible exact amount_Sub.mono _ _ _)
      | (with_reducible exact amount_Up.mono _ _ _ _)
      | (with_reducible exact trustquorumlaw35_sane.mono _)
      | (with_reducible exact trustquorumref35_Asset.mono _ _ _)
      | (with_reducible exact trustquorumref35_Compare.mono _ _ _ _ _)
      | (with_reducible exact trustquorumref35_Reduce.mono _ _ _)
      | (with_reducible exact LeO.refl _)
      | (with_reducible exact LeO.none _)
      | (with_reducible refine LeO.ite ?_ ?_)
      | (with_reducible refine LeO.bind ?_ (fun _ => ?_))
      | exact ih0 _ _ _ _ _ _ _ _ _ _
      | exact ih1 _ _ _ _ _ _ _ _ _
      | exact ih2 _ _ _ _ _ _ _ _ _ _ _ _ _ _
      | exact ih3 _ _ _ _ _ _ _ _ _ _ _ _ _
      | exact ih4 _ _ _ _ _ _ _ _ _ _ _ _ _
      | exact ih5 _ _ _ _
      | exact amount_Add.mono _ _ _
      | exact amount_Down.mono _ _ _ _
      | exact amount_Less.mono _ _ _ _ _
      | exact amount_Reduce.mono _ _ _
      | exact amount_Sub.mono _ _ _
      | exact amount_Up.mono _ _ _ _
      | exact trustquorumlaw35_sane.mono _
      | exact trustquorumref35_Asset.mono _ _ _
      | exact trustquorumref35_Compare.mono _ _ _ _ _
      | exact trustquorumref35_Reduce.mono _ _ _
      | exact LeO.none _
      | refine LeO.ite ?_ ?_
      | refine LeO.bind ?_ (fun _ => ?_)
    · intro y0 y1 y2 y3
      unfold trustquorumlaw35_AmountExact.l1
      repeat' first
      | (with_reducible exact ih0 _ _ _ _ _ _ _ _ _ _)
      | (with_reducible exact ih1 _ _ _ _ _ _ _ _ _)
      | (with_reducible exact ih2 _ _ _ _ _ _ _ _ _ _ _ _ _ _)
      | (with_reducible exact ih3 _ _ _ _ _ _ _ _ _ _ _ _ _)
      | (with_reducible exact ih4 _ _ _ _ _ _ _ _ _ _ _ _ _)
      | (with_reducible exact ih5 _ _ _ _)
      | (with_reducible exact amount_Add.mono _ _ _)
      | (with_reducible exact amount_Down.mono _ _ _ _)
      | (with_reducible exact amount_Less.mono _ _ _ _ _)
      | (with_reducible exact amount_Reduce.mono _ _ _)
      | (with_reducible exact amount_Sub.mono _ _ _)
      | (with_reducible exact amount_Up.mono _ _ _ _)
      | (with_reducible exact trustquorumlaw35_sane.mono _)
      | (with_reducible exact trustquorumref35_Asset.mono _ _ _)
      | (with_reducible exact trustquorumref35_Compare.mono _ _ _ _ _)
      | (with_reducible exact trustquorumref35_Reduce.mono _ _ _)
      | (with_reducible exact LeO.refl _)
      | (with_reducible exact LeO.none _)
      | (with_reducible refine LeO.ite ?_ ?_)
      | (with_reducible refine LeO.bind ?_ (fun _ => ?_))
      | exact ih0 _ _ _ _ _ _ _ _ _ _
      | exact ih1 _ _ _ _ _ _ _ _ _
      | exact ih2 _ _ _ _ _ _ _ _ _ _ _ _ _ _
      | exact ih3 _ _ _ _ _ _ _ _ _ _ _ _ _
      | exact ih4 _ _ _ _ _ _ _ _ _ _ _ _ _
      | exact ih5 _ _ _ _
      | exact amount_Add.mono _ _ _
      | exact amount_Down.mono _ _ _ _
      | exact amount_Less.mono _ _ _ _ _
      | exact amount_Reduce.mono _ _ _
      | exact amount_Sub.mono _ _ _
      | exact amount_Up.mono _ _ _ _
      | exact trustquorumlaw35_sane.mono _
      | exact trustquorumref35_Asset.mono _ _ _
      | exact trustquorumref35_Compare.mono _ _ _ _ _
      | exact trustquorumref35_Reduce.mono _ _ _
      | exact LeO.none _
      | refine LeO.ite ?_ ?_
      | refine LeO.bind ?_ (fun _ => ?_)
theorem trustquorumlaw35_AmountExact.mono : ∀ a0 a1 a2 a3 a4 a5 a6 a7 a8 k, LeO (trustquorumlaw35_AmountExact.f k a0 a1 a2 a3 a4 a5 a6 a7 a8) (trustquorumlaw35_AmountExact.f (k + 1) a0 a1 a2 a3 a4 a5 a6 a7 a8) := by
  intro a0 a1 a2 a3 a4 a5 a6 a7 a8 k
  obtain ⟨ih0, ih1, ih2, ih3, ih4, ih5⟩ := trustquorumlaw35_AmountExact.mono_l k
  unfold trustquorumlaw35_AmountExact.f
  repeat' first
      | (with_reducible exact ih0 _ _ _ _ _ _ _ _ _ _)
      | (with_reducible exact ih1 _ _ _ _ _ _ _ _ _)
      | (with_reducible exact ih2 _ _ _ _ _ _ _ _ _ _ _ _ _ _)
      | (with_reducible exact ih3 _ _ _ _ _ _ _ _ _ _ _ _ _)
      | (with_reducible exact ih4 _ _ _ _ _ _ _ _ _ _ _ _ _)
      | (with_reducible exact ih5 _ _ _ _)
      | (with_reducible exact amount_Add.mono _ _ _)
      | (with_reducible exact amount_Down.mono _ _ _ _)
      | (with_reducible exact amount_Less.mono _ _ _ _ _)
      | (with_reducible exact amount_Reduce.mono _ _ _)
      | (with_reducible exact amount_Sub.mono _ _ _)
      | (with_reducible exact amount_Up.mono _ _ _ _)
      | (with_reducible exact trustquorumlaw35_sane.mono _)
      | (with_reducible exact trustquorumref35_Asset.mono _ _ _)
      | (with_reducible exact trustquorumref35_Compare.mono _ _ _ _ _)
      | (with_reducible exact trustquorumref35_Reduce.mono _ _ _)
      | (with_reducible exact LeO.refl _)
      | (with_reducible exact LeO.none _)
      | (with_reducible refine LeO.ite ?_ ?_)
      | (with_reducible refine LeO.bind ?_ (fun _ => ?_))
      | exact ih0 _ _ _ _ _ _ _ _ _ _
      | exact ih1 _ _ _ _ _ _ _ _ _
      | exact ih2 _ _ _ _ _ _ _ _ _ _ _ _ _ _
      | exact ih3 _ _ _ _ _ _ _ _ _ _ _ _ _
      | exact ih4 _ _ _ _ _ _ _ _ _ _ _ _ _
      | exact ih5 _ _ _ _
      | exact amount_Add.mono _ _ _
      | exact amount_Down.mono _ _ _ _
      | exact amount_Less.mono _ _ _ _ _
      | exact amount_Reduce.mono _ _ _
      | exact amount_Sub.mono _ _ _
      | exact amount_Up.mono _ _ _ _
      | exact trustquorumlaw35_sane.mono _
      | exact trustquorumref35_Asset.mono _ _ _
      | exact trustquorumref35_Compare.mono _ _ _ _ _
      | exact trustquorumref35_Reduce.mono _ _ _
      | exact LeO.none _
      | refine LeO.ite ?_ ?_
      | refine LeO.bind ?_ (fun _ => ?_)
def trustquorumlaw35_AmountExact.T8 : Bool × List (List Nat × List Nat) := (true, [([], []), ([], []), ([1], [1]), ([], []), ([3], [3]), ([2, 4], [2, 4]), ([0, 5], [0, 5]), ([6], [6]), ([], []), ([], []), ([9], [9]), ([], []), ([11], [11]), ([10, 12], [10, 12]), ([8, 13], [8, 13]), ([14], [14]), ([], []), ([], []), ([17], [17]), ([], []), ([19], [19]), ([18, 20], [18, 20]), ([16, 21], [16, 21]), ([22], [22]), ([7, 0, 1, 2, 3, 4, 5, 6, 7], [7]), ([15, 24, 0, 1, 2, 3, 4, 5, 6, 7, 8, 9, 10, 11, 12, 13, 14, 15, 24], [15]), ([23, 25, 0, 1, 2, 3, 4, 5, 6, 7, 8, 9, 10, 11, 12, 13, 14, 15, 16, 17, 18, 19, 20, 21, 22, 23, 24, 25], [23])])
def trustquorumlaw35_AmountExact.B8 : List Nat := [0, 0, 2, 0, 8, 30, 63, 127, 0, 0, 512, 0, 2048, 7680, 16128, 32512, 0, 0, 131072, 0, 524288, 1966080, 4128768, 8323072, 255, 16842751, 67108863]
theorem trustquorumlaw35_AmountExact.tab8 : rtab .any (opsOf Try.f7 8) = trustquorumlaw35_AmountExact.T8 := by kernel_rfl
theorem trustquorumlaw35_AmountExact.bits8 : waitsOk trustquorumlaw35_AmountExact.T8.2 trustquorumlaw35_AmountExact.B8 = true := by kernel_rfl
def trustquorumlaw35_AmountExact.T28 : Bool × List (List Nat × List Nat) := (true, [([], []), ([], []), ([], []), ([2], [2]), ([], []), ([4, 3], [4]), ([0, 1, 3, 5], [0, 1, 3, 5]), ([], [])])
def trustquorumlaw35_AmountExact.B28 : List Nat := [0, 0, 0, 4, 0, 28, 63, 0]
theorem trustquorumlaw35_AmountExact.tab28 : rtab .any (opsOf Try.f7 28) = trustquorumlaw35_AmountExact.T28 := by kernel_rfl
theorem trustquorumlaw35_AmountExact.bits28 : waitsOk trustquorumlaw35_AmountExact.T28.2 trustquorumlaw35_AmountExact.B28 = true := by kernel_rfl
def trustquorumlaw35_AmountExact.T31 : Bool × List (List Nat × List Nat) := (true, [([], []), ([0], [0]), ([], []), ([2, 1], [2]), ([1, 3], [1, 3]), ([4, 3], [4]), ([5], [5]), ([6, 5, 5], [5, 6]), ([5], [5]), ([8, 7, 5], [5, 8]), ([7, 9, 5], [5, 7, 9]), ([5, 10], [5, 10]), ([11, 9], [11]), ([12], [12]), ([12], [12]), ([13, 14, 12, 12], [12, 13, 14]), ([12], [12]), ([12], [12]), ([16, 17, 15, 12], [12, 16, 17]), ([15, 18, 12], [12, 15, 18]), ([12, 19], [12, 19]), ([20, 18], [20]), ([21], [21]), ([21], [21]), ([22, 23, 21, 21], [21, 22, 23]), ([21], [21]), ([21], [21]), ([25, 26, 24, 21], [21, 25, 26]), ([24, 27, 21], [21, 24, 27]), ([21, 28], [21, 28])])
def trustquorumlaw35_AmountExact.B31 : List Nat := [0, 1, 0, 7, 15, 31, 63, 127, 63, 511, 1023, 2047, 4095, 8191, 8191, 32767, 8191, 8191, 262143, 524287, 1048575, 2097151, 4194303, 4194303, 16777215, 4194303, 4194303, 134217727, 268435455, 536870911]
theorem trustquorumlaw35_AmountExact.tab31 : rtab .any (opsOf Try.f7 31) = trustquorumlaw35_AmountExact.T31 := by kernel_rfl
theorem trustquorumlaw35_AmountExact.bits31 : waitsOk trustquorumlaw35_AmountExact.T31.2 trustquorumlaw35_AmountExact.B31 = true := by kernel_rfl
set_option maxHeartbeats 8000000 in
set_option maxRecDepth 100000 in
theorem trustquorumlaw35_AmountExact.calls (k : Nat) (A0 : Option Addr) (c0 : Nat) (l0 : List Int) (a1 : Int) (a2 : Int) (a3 : Int) (a4 : Int) (a5_0 : ByteArray) (a5_1 : Int) (a6_0 : ByteArray) (a6_1 : Int) (r : Bool) (w : World) (hr0 : Kd.C (Kd.int .i64) w A0 l0.length l0) (hc0 : l0.length ≤ c0) (HRT : Aside0 (r = true)) (h : trustquorumlaw35_AmountExact.f k l0 a1 a2 a3 a4 a5_0 a5_1 a6_0 a6_1 = some r) :
    Calls Try.prog 7 #[.slice A0 l0.length c0, .int .i64 a1, .int .i64 a2, .int .i64 a3, .int .i64 a4, .agg #[.string a5_0, .int .i64 a5_1], .agg #[.string a6_0, .int .i64 a6_1]] w fun e w' => e = .returned (.bool r) ∧ Below w.heap.size w w' := by
  have hu38 := Try.underlying38
  have hu47 := Try.underlying47
  have HR0 := Aside0.mk hr0
  have HC0 := Aside0.mk hc0
  clear hr0 hc0
  have HB := Aside0.mk (Below.refl w.heap.size w)
  have H : (if (a5_0.size : Int) > 60 then (trustquorumlaw35_AmountExact.j0 k l0 a1 a2 a3 a4 true a5_0 a5_1 a6_0 a6_1) else (trustquorumlaw35_AmountExact.j0 k l0 a1 a2 a3 a4 (decide ((a6_0.size : Int) > 60)) a5_0 a5_1 a6_0 a6_1)) = some r := h
  clear h
  have HC8 := Aside0.mk H
  clear H
  go_enter Try.func7, Try.ntmps7
  go_upto_region 1 with (first | ((with_reducible refine gate_dst (N := 12) rfl ?_); (try (refine gate_guard (by rfl) ?_; dsimp only)); refine box_event ?hg (N := 12) ?hd (cs := #[.string a5_0, .int .i64 a5_1]) (t := 38) ?hr ?_; (case hd => rfl); (case hg => rfl); (case hr => first | (go_simp; done) | (go_simp; rfl)); intro gb209 hg w9 hbox hb; have n0_ := Aside0.mk (below_step (by exact HB.out) hb); have n1_ := Aside0.mk (hbox); have n2_ := Aside0.mk ((by rw [hg]; exact (below_size (by exact HB.out)) : w.heap.size ≤ gb209)); have n3_ := Aside0.mk ((by rw [hg]; exact (below_size (by exact HB.out)) : w.heap.size ≤ gb209)); clear HB; have HB := n0_; have BK209 := n1_; have GW209 := n2_; have GE209 := n3_; clear n0_ n1_ n2_ n3_; clear hb hbox hg) | ((with_reducible refine gate_dst (N := 13) rfl ?_); (try (refine gate_guard (by rfl) ?_; dsimp only)); refine box_event ?hg (N := 13) ?hd (cs := #[.string a6_0, .int .i64 a6_1]) (t := 38) ?hr ?_; (case hd => rfl); (case hg => rfl); (case hr => first | (go_simp; done) | (go_simp; rfl)); intro gb210 hg w10 hbox hb; have n0_ := Aside0.mk (blk_below BK209.out hb); have n1_ := Aside0.mk (below_step (by exact HB.out) hb); have n2_ := Aside0.mk (hbox); have n3_ := Aside0.mk ((by rw [hg]; exact (below_size (by exact HB.out)) : w.heap.size ≤ gb210)); have n4_ := Aside0.mk ((by rw [hg]; exact (below_size (by exact HB.out)) : w.heap.size ≤ gb210)); have n5_ := Aside0.mk ((by rw [hg]; exact Nat.ne_of_lt (blk_lt BK209.out) : gb209 ≠ gb210)); have n6_ := Aside0.mk ((by rw [hg]; exact Nat.ne_of_gt (blk_lt BK209.out) : gb210 ≠ gb209)); clear BK209 HB; have BK209 := n0_; have HB := n1_; have BK210 := n2_; have GW210 := n3_; have GE210 := n4_; have NB209_210 := n5_; have NB210_209 := n6_; clear n0_ n1_ n2_ n3_ n4_ n5_ n6_; clear hb hbox hg))
  (try simp only [Act.put, List.setIfInBounds_toArray, List.set_cons_zero, List.set_cons_succ])
  go_cut [41] (fun v41 wc => ∃ (kq : Nat) (x41_7 : Bool), v41 = .bool x41_7 ∧ Aside0 (trustquorumlaw35_AmountExact.j0 kq l0 a1 a2 a3 a4 x41_7 a5_0 a5_1 a6_0 a6_1 = some r) ∧ Aside0 (kq ≤ k) ∧ Aside0 (wc.heap[gb209]? = some (.cells #[.string a5_0, .int .i64 a5_1] 38 (0, 0))) ∧ Aside0 (wc.heap[gb210]? = some (.cells #[.string a6_0, .int .i64 a6_1] 38 (0, 0))) ∧ Aside0 (Below w.heap.size w wc))
  case first =>
    have H := HC8.out
    clear HC8
    by_cases c11 : (a5_0.size : Int) > 60
    · rw [if_pos c11] at H
      have c11b0 : decide (60 < (a5_0.size : Int)) = true := decide_eq_true c11
      have c11b1 : decide (60 < a5_0.size) = true := decide_eq_true (by omega)
      clear c11
      (first | rw [c11b0] | (simp only [i64_w, i32_w]; rw [c11b0]) | skip)
      have H' := Aside0.mk H
      clear H
      have hnb12 := NB209_210.out
      have hnc12 := NB210_209.out
      obtain ⟨hcz13_0, hcz13_1, hfz13_0, hfz13_1⟩ := blkC2 BK209.out
      go_wp2
      go_meet
      case rel => exact ⟨_, (true), (by first | rfl | (simp; done) | (simp [*]; done) | (refine congrArg (Value.int .i64) ?_; unfold wrap64; omega)), H', ⟨by first | omega | exact Nat.le_refl _⟩, ⟨by exact BK209.out⟩, ⟨by exact BK210.out⟩, ⟨by exact HB.out⟩⟩
    · rw [if_neg c11] at H
      have c11b0 : decide (60 < (a5_0.size : Int)) = false := decide_eq_false c11
      have c11b1 : decide (60 < a5_0.size) = false := decide_eq_false (by omega)
      clear c11
      (first | rw [c11b0] | (simp only [i64_w, i32_w]; rw [c11b0]) | skip)
      have H' := Aside0.mk H
      clear H
      have hnb14 := NB209_210.out
      have hnc14 := NB210_209.out
      obtain ⟨hcz15_0, hcz15_1, hfz15_0, hfz15_1⟩ := blkC2 BK209.out
      obtain ⟨hcz16_0, hcz16_1, hfz16_0, hfz16_1⟩ := blkC2 BK210.out
      go_wp2
      go_meet
      case rel => exact ⟨_, (decide ((a6_0.size : Int) > 60)), (by first | rfl | (simp; done) | (simp [*]; done) | (refine congrArg (Value.int .i64) ?_; unfold wrap64; omega)), H', ⟨by first | omega | exact Nat.le_refl _⟩, ⟨by exact BK209.out⟩, ⟨by exact BK210.out⟩, ⟨by exact HB.out⟩⟩
  case rest =>
    clear HC8
    try clear c1
    try clear p2
    try clear p6
    try clear c7
    try clear c11
    try clear c11b0
    try clear c11b1
    try clear c12
    try clear c14
    try clear hcz13_0
    try clear hcz13_1
    try clear hcz15_0
    try clear hcz15_1
    try clear hcz16_0
    try clear hcz16_1
    try clear hfz13_0
    try clear hfz13_1
    try clear hfz15_0
    try clear hfz15_1
    try clear hfz16_0
    try clear hfz16_1
    obtain ⟨kq, x41_7, rfl, HA, HJ7, BK209, BK210, HB⟩ := hcut
    cases kq with
    | zero => exact absurd HA.out (by simp [trustquorumlaw35_AmountExact.j0])
    | succ kj7 =>
      have H := HA.out
      clear HA
      simp only [trustquorumlaw35_AmountExact.j0] at H
      by_cases c17 : x41_7 = true
      · subst c17
        have H1 : ((trustquorumlaw35_sane.f kj7).bind fun t211 => (some t211)) = some r := by rw [if_pos rfl] at H; exact H
        clear H
        have H := H1
        clear H1
        replace H := Option.bind_eq_some_iff.mp H
        obtain ⟨t211, A180, H⟩ := H
        replace H : (some t211) = some r := H
        have A18 := Aside0.mk A180
        clear A180
        obtain rfl := Option.some.inj H
        go_wp2_with (first | ((with_reducible refine gate_callee (f := 10) rfl ?_); refine goesL_ (some 42) rfl rfl Try.func10 (by kernel_rfl) rfl #[] rfl (by (try simp only [List.map_toArray, List.map_cons, List.map_nil]); first | done | rfl | (simp only [List.length_drop, List.length_take]; rfl)) ?_; (with_reducible refine (trustquorumlaw35_sane.calls kj7  t211 _ A18.out).mono ?_); rintro e w19 ⟨rfl, hb⟩; refine ⟨_, rfl, ?_⟩; have n0_ := Aside0.mk (blk_below BK209.out hb); have n1_ := Aside0.mk (blk_below BK210.out hb); have n2_ := Aside0.mk (below_step (by exact HB.out) hb); clear BK209 BK210 HB; have BK209 := n0_; have BK210 := n1_; have HB := n2_; clear n0_ n1_ n2_; (try clear hb); (try clear hb2); (try clear hk); (try clear hi); (try clear A18)))
        go_ret
        exact ⟨by first | rfl | (simp [errW_none, errW_some] <;> rfl) | (simp [*, errW_none, errW_some] <;> rfl), by exact HB.out⟩
      · replace c17 := Bool.eq_false_iff.mpr c17
        subst c17
        have H1 : ((trustquorumplay_New.f l0).bind fun bt212 => ((trustquorumplay_Src_Odd.f bt212.1 bt212.2).bind fun bt215 => ((trustquorumplay_Src_Odd.f bt212.1 bt215.2).bind fun bt217 => ((trustquorumplay_Src_Range.f bt212.1 bt217.2 0 1000).bind fun bt219 => ((some (([a1, a2, a3, a4, bt215.1, bt217.1, bt219.1] : List Int) : List Int)).bind fun y221 => (trustquorumlaw35_AmountExact.l0 kj7 y221 (y221.length : Int) 0 a5_0 a5_1 a6_0 a6_1 bt212.1 bt219.2)))))) = some r := by rw [if_neg (show ¬ (false = true) by decide)] at H; exact H
        clear H
        have H := H1
        clear H1
        replace H := Option.bind_eq_some_iff.mp H
        obtain ⟨⟨t212, t213⟩, A200, H⟩ := H
        replace H : ((trustquorumplay_Src_Odd.f t212 t213).bind fun bt215 => ((trustquorumplay_Src_Odd.f t212 bt215.2).bind fun bt217 => ((trustquorumplay_Src_Range.f t212 bt217.2 0 1000).bind fun bt219 => ((some (([a1, a2, a3, a4, bt215.1, bt217.1, bt219.1] : List Int) : List Int)).bind fun y221 => (trustquorumlaw35_AmountExact.l0 kj7 y221 (y221.length : Int) 0 a5_0 a5_1 a6_0 a6_1 t212 bt219.2))))) = some r := H
        have A20 := Aside0.mk A200
        clear A200
        replace H := Option.bind_eq_some_iff.mp H
        obtain ⟨⟨t215, t216⟩, A210, H⟩ := H
        replace H : ((trustquorumplay_Src_Odd.f t212 t216).bind fun bt217 => ((trustquorumplay_Src_Range.f t212 bt217.2 0 1000).bind fun bt219 => ((some (([a1, a2, a3, a4, t215, bt217.1, bt219.1] : List Int) : List Int)).bind fun y221 => (trustquorumlaw35_AmountExact.l0 kj7 y221 (y221.length : Int) 0 a5_0 a5_1 a6_0 a6_1 t212 bt219.2)))) = some r := H
        have A21 := Aside0.mk A210
        clear A210
        replace H := Option.bind_eq_some_iff.mp H
        obtain ⟨⟨t217, t218⟩, A220, H⟩ := H
        replace H : ((trustquorumplay_Src_Range.f t212 t218 0 1000).bind fun bt219 => ((some (([a1, a2, a3, a4, t215, t217, bt219.1] : List Int) : List Int)).bind fun y221 => (trustquorumlaw35_AmountExact.l0 kj7 y221 (y221.length : Int) 0 a5_0 a5_1 a6_0 a6_1 t212 bt219.2))) = some r := H
        have A22 := Aside0.mk A220
        clear A220
        replace H := Option.bind_eq_some_iff.mp H
        obtain ⟨⟨t219, t220⟩, A230, H⟩ := H
        replace H : ((some (([a1, a2, a3, a4, t215, t217, t219] : List Int) : List Int)).bind fun y221 => (trustquorumlaw35_AmountExact.l0 kj7 y221 (y221.length : Int) 0 a5_0 a5_1 a6_0 a6_1 t212 t220)) = some r := H
        have A23 := Aside0.mk A230
        clear A230
        obtain ⟨y221, hy221⟩ : ∃ y_ : List Int, y_ = (([a1, a2, a3, a4, t215, t217, t219] : List Int)) := ⟨_, rfl⟩
        replace H : (trustquorumlaw35_AmountExact.l0 kj7 y221 (y221.length : Int) 0 a5_0 a5_1 a6_0 a6_1 t212 t220) = some r := by first | (rw [hy221]; with_reducible exact H) | (have H2_ := (Option.bind_some _ _).symm.trans H; rw [hy221]; with_reducible exact H2_) | (have H2_ := (Option.bind_some _ _).symm.trans H; with_reducible exact H2_) | with_reducible exact H | (rw [hy221]; exact H) | exact H
        have Ny221 := Aside0.mk hy221
        clear hy221
        have H' := Aside0.mk H
        clear H
        go_wp2_with (first | ((with_reducible refine gate_callee (f := 15) rfl ?_); refine goesL_ (some 44) rfl rfl Try.func15 (by kernel_rfl) rfl #[.slice A0 l0.length c0] rfl (by (try simp only [List.map_toArray, List.map_cons, List.map_nil]); first | done | rfl | (simp only [List.length_drop, List.length_take]; rfl)) ?_; (with_reducible refine (trustquorumplay_New.calls _ _ l0 t212 t213 w _ ?side1 ?side2 ?side3 A20.out).mono ?_); (case side1 => exact HB.out); (case side2 => exact HR0.out); (case side3 => exact HC0.out); rintro e w24 ⟨g214, rfl, hi, hb, hb2⟩; refine ⟨_, rfl, ?_⟩; have n0_ := Aside0.mk (blk_below BK209.out hb2); have n1_ := Aside0.mk (blk_below BK210.out hb2); have n2_ := Aside0.mk (hb); have n3_ := Aside0.mk (hi); have n4_ := Aside0.mk (IsS52.ne_blk hi (blk_below BK209.out hb2) (by decide)); have n5_ := Aside0.mk (Ne.symm (IsS52.ne_blk hi (blk_below BK209.out hb2) (by decide))); have n6_ := Aside0.mk (IsS52.ne_blk hi (blk_below BK210.out hb2) (by decide)); have n7_ := Aside0.mk (Ne.symm (IsS52.ne_blk hi (blk_below BK210.out hb2) (by decide))); clear BK209 BK210 HB; have BK209 := n0_; have BK210 := n1_; have HB := n2_; have HI214 := n3_; have NB214_209 := n4_; have NB209_214 := n5_; have NB214_210 := n6_; have NB210_214 := n7_; clear n0_ n1_ n2_ n3_ n4_ n5_ n6_ n7_; (try clear hb); (try clear hb2); (try clear hk); (try clear hi)) | ((with_reducible refine gate_callee (f := 20) rfl ?_); refine goesL_ (some 50) rfl rfl Try.func20 (by kernel_rfl) rfl #[.pointer (some ⟨g214, 0, none⟩)] rfl (by (try simp only [List.map_toArray, List.map_cons, List.map_nil]); first | done | rfl | (simp only [List.length_drop, List.length_take]; rfl)) ?_; (with_reducible refine (trustquorumplay_Src_Odd.calls g214 t212 t213 t215 t216 w _ ?side1 ?side2 A21.out).mono ?_); (case side1 => exact HI214.out); (case side2 => exact HB.out); rintro e w25 ⟨rfl, hi, hb, hk⟩; refine ⟨_, rfl, ?_⟩; have n0_ := Aside0.mk (KeepBut.blk hk BK209.out NB209_214.out (by simp)); have n1_ := Aside0.mk (KeepBut.blk hk BK210.out NB210_214.out (by simp)); have n2_ := Aside0.mk (hb); have n3_ := Aside0.mk (hi); clear BK209 BK210 HB HI214; have BK209 := n0_; have BK210 := n1_; have HB := n2_; have HI214 := n3_; clear n0_ n1_ n2_ n3_; (try clear hb); (try clear hb2); (try clear hk); (try clear hi)) | ((with_reducible refine gate_callee (f := 20) rfl ?_); refine goesL_ (some 52) rfl rfl Try.func20 (by kernel_rfl) rfl #[.pointer (some ⟨g214, 0, none⟩)] rfl (by (try simp only [List.map_toArray, List.map_cons, List.map_nil]); first | done | rfl | (simp only [List.length_drop, List.length_take]; rfl)) ?_; (with_reducible refine (trustquorumplay_Src_Odd.calls g214 t212 t216 t217 t218 w _ ?side1 ?side2 A22.out).mono ?_); (case side1 => exact HI214.out); (case side2 => exact HB.out); rintro e w26 ⟨rfl, hi, hb, hk⟩; refine ⟨_, rfl, ?_⟩; have n0_ := Aside0.mk (KeepBut.blk hk BK209.out NB209_214.out (by simp)); have n1_ := Aside0.mk (KeepBut.blk hk BK210.out NB210_214.out (by simp)); have n2_ := Aside0.mk (hb); have n3_ := Aside0.mk (hi); clear BK209 BK210 HB HI214; have BK209 := n0_; have BK210 := n1_; have HB := n2_; have HI214 := n3_; clear n0_ n1_ n2_ n3_; (try clear hb); (try clear hb2); (try clear hk); (try clear hi)) | ((with_reducible refine gate_callee (f := 21) rfl ?_); refine goesL_ (some 54) rfl rfl Try.func21 (by kernel_rfl) rfl #[.pointer (some ⟨g214, 0, none⟩), .int .i64 0, .int .i64 1000] rfl (by (try simp only [List.map_toArray, List.map_cons, List.map_nil]); first | done | rfl | (simp only [List.length_drop, List.length_take]; rfl)) ?_; (with_reducible refine (trustquorumplay_Src_Range.calls g214 t212 t218 0 1000 t219 t220 w _ ?side1 ?side2 A23.out).mono ?_); (case side1 => exact HI214.out); (case side2 => exact HB.out); rintro e w27 ⟨rfl, hi, hb, hk⟩; refine ⟨_, rfl, ?_⟩; have n0_ := Aside0.mk (KeepBut.blk hk BK209.out NB209_214.out (by simp)); have n1_ := Aside0.mk (KeepBut.blk hk BK210.out NB210_214.out (by simp)); have n2_ := Aside0.mk (hb); have n3_ := Aside0.mk (hi); clear BK209 BK210 HB HI214; have BK209 := n0_; have BK210 := n1_; have HB := n2_; have HI214 := n3_; clear n0_ n1_ n2_ n3_; (try clear hb); (try clear hb2); (try clear hk); (try clear hi)) | ((with_reducible refine gate_dst (N := 55) rfl ?_); (try (refine gate_guard (by rfl) ?_; dsimp only)); refine Kd.R_lit (Kd.int .i64) _ 3 ?hg (N := 55) ?hd (xs := ([a1, a2, a3, a4, t215, t217, t219] : List Int)) (inner := [.int .i64 a1, .int .i64 a2, .int .i64 a3, .int .i64 a4, .int .i64 t215, .int .i64 t217, .int .i64 t219]) (ok := fun _ => True) (okp := fun _ => True) ?hr ?hp (fun _ hk => hk) trivial (Below.refl _ _) (Nat.le_refl _) (by simp) ?_; (case hd => rfl); (case hg => rfl); (case hr => first | (go_simp; done) | (go_simp; rfl)); (case hp => exact (Reps.one (show Kd.M (Kd.int .i64) _ _ _ a1 [.int .i64 a1] from rfl) (Reps.one (show Kd.M (Kd.int .i64) _ _ _ a2 [.int .i64 a2] from rfl) (Reps.one (show Kd.M (Kd.int .i64) _ _ _ a3 [.int .i64 a3] from rfl) (Reps.one (show Kd.M (Kd.int .i64) _ _ _ a4 [.int .i64 a4] from rfl) (Reps.one (show Kd.M (Kd.int .i64) _ _ _ t215 [.int .i64 t215] from rfl) (Reps.one (show Kd.M (Kd.int .i64) _ _ _ t217 [.int .i64 t217] from rfl) (Reps.one (show Kd.M (Kd.int .i64) _ _ _ t219 [.int .i64 t219] from rfl) (Reps.none _ _))))))))); intro v222 w28 ho29 hb hg_ hnew_; clear hg_ hnew_; (first | rw [← Ny221.out] at ho29 | (simp only [Int.reduceToNat] at ho29; rw [← Ny221.out] at ho29)); have n0_ := Aside0.mk (Kd.R_lower ho29 (below_size (by exact HB.out))); have n1_ := Aside0.mk (blk_below BK209.out hb); have n2_ := Aside0.mk (blk_below BK210.out hb); have n3_ := Aside0.mk (IsS52.below (by exact HI214.out) hb); have n4_ := Aside0.mk (below_step (by exact HB.out) hb); clear BK209 BK210 HI214 HB; have HO223 := n0_; have BK209 := n1_; have BK210 := n2_; have HI214 := n3_; have HB := n4_; clear n0_ n1_ n2_ n3_ n4_; clear hb ho29; obtain ⟨Ao30, co30, eo30⟩ := Kd.R_slice HO223.out; subst eo30))
        refine wp_loop_u (V := Value) (fun kq v_ w' => ∃ (x58_2 : Int), v_ = .int .i64 x58_2 ∧ Aside0 (trustquorumlaw35_AmountExact.l0 kq y221 (y221.length : Int) x58_2 a5_0 a5_1 a6_0 a6_1 t212 t220 = some r) ∧ Aside0 (kq ≤ kj7) ∧ Aside0 (Kd.R (Kd.int .i64) 3 w' w.heap.size (fun _ => True) (.slice Ao30 y221.length co30) y221) ∧ Aside0 (w'.heap[gb209]? = some (.cells #[.string a5_0, .int .i64 a5_1] 38 (0, 0))) ∧ Aside0 (w'.heap[gb210]? = some (.cells #[.string a6_0, .int .i64 a6_1] 38 (0, 0))) ∧ Aside0 (IsS52 w w' g214 t212 t220) ∧ Aside0 (Below w.heap.size w w')) (fun v_ => [none, none, none, none, none, none, none, none, none, none, none, none, none, none, some none, none, none, some none, some none, some none, some none, some none, some none, some none, some none, some none, some none, some none, some none, some none, none, none, none, none, none, none, none, none, none, none, none, none, none, none, none, none, none, none, none, none, none, none, none, none, none, none, none, none, some (some v_), some none, some none, some none, some none, some none, some none, some none, some none, some none, some none, some none, some none, some none, some none, some none, some none, some none, some none, some none, some none, some none, some none, some none, some none, some none, some none, some none, some none, some none, some none, some none, some none, some none, some none, some none, some none, some none, some none, some none, some none, some none, some none, some none, some none, some none, some none, some none, some none, some none, some none, some none, some none, some none, some none, some none, some none, some none, some none, some none, some none, some none, some none, some none, some none, some none, some none, some none, some none, some none, some none, some none, some none, some none, some none, some none, some none, some none, some none, some none, some none, some none, some none, some none, some none, some none, some none, some none, some none, some none, some none, some none, some none, some none, some none, some none, some none, some none, some none, some none, some none, some none, some none, some none, some none, some none, some none, some none, some none, some none, some none, some none, some none, some none, some none, some none, some none, some none, some none, some none, some none, some none, some none, some none, some none, some none, some none, some none, some none, some none, some none, some none, some none, some none, some none, some none, some none, some none, some none, some none, some none, some none, some none, some none, some none, some none, some none, some none, some none, some none, some none, some none, some none, some none, some none, some none, some none, some none, some none, some none, some none, some none, some none, some none, some none]) kj7 ?v0_32 ?atStart ?eq_31 ?round
        (case eq_31 => rfl)
        case atStart => exact ⟨(0), (by first | rfl | (simp; done) | (simp [*]; done) | (refine congrArg (Value.int .i64) ?_; unfold wrap64; omega)), H', ⟨Nat.le_refl _⟩, ⟨by exact HO223.out⟩, ⟨by exact BK209.out⟩, ⟨by exact BK210.out⟩, ⟨by exact HI214.out⟩, ⟨by exact HB.out⟩⟩
        case round =>
          intro gk wr u_ v_ hrel J_ K_ hJ_ hK_ tm_ htm_
          simp only [ovL, Nat.reduceAdd, Nat.zero_add] at htm_
          subst htm_
          clear H'
          try clear c1
          try clear c2
          try clear p2
          try clear p6
          try clear c7
          try clear c10
          try clear c11
          try clear c11b0
          try clear c11b1
          try clear c12
          try clear c14
          try clear c15
          try clear c17
          try clear c20
          try clear c21
          try clear hcz13_0
          try clear hcz13_1
          try clear hcz15_0
          try clear hcz15_1
          try clear hcz16_0
          try clear hcz16_1
          try clear hfz13_0
          try clear hfz13_1
          try clear hfz15_0
          try clear hfz15_1
          try clear hfz16_0
          try clear hfz16_1
          try clear p2
          try clear p6
          obtain ⟨x58_2, rfl, HA, HK2, HO_16, BK209, BK210, HI214, HB⟩ := hrel
          cases gk with
          | zero => exact absurd HA.out (by simp [trustquorumlaw35_AmountExact.l0])
          | succ k2 =>
            have H := HA.out
            clear HA
            simp only [trustquorumlaw35_AmountExact.l0] at H
            by_cases c33 : x58_2 < (y221.length : Int)
            · rw [if_pos c33] at H
              have c33b0 : decide (x58_2 < (y221.length : Int)) = true := decide_eq_true c33
              clear c33
              by_cases c34 : 0 ≤ x58_2
              · rw [if_pos c34] at H
                have c34b0 : decide (0 ≤ x58_2) = true := decide_eq_true c34
                clear c34
                by_cases c35 : x58_2 < (y221.length : Int)
                · rw [if_pos c35] at H
                  have c35b0 : decide (x58_2 < (y221.length : Int)) = true := decide_eq_true c35
                  clear c35
                  by_cases c36 : (y221.length : Int) = 0
                  · rw [if_pos c36] at H
                    exact absurd H (by simp)
                  · rw [if_neg c36] at H
                    have c36b0 : ((y221.length : Int) == 0) = false := beq_eq_false_iff_ne.mpr c36
                    have c36b1 : ((y221.length : Int) != 0) = true := bne_iff_ne.mpr c36
                    have c36b2 : ¬ (y221 = []) := fun h_ => c36 (by rw [h_]; rfl)
                    obtain ⟨ji37, hji37⟩ : ∃ j_ : Int, (Int.tmod (wrap64 (x58_2 + 1)) (y221.length : Int)) = j_ := ⟨_, rfl⟩
                    replace H : (if 0 ≤ (ji37) then (if (ji37) < (y221.length : Int) then (if 0 ≤ (Int.tmod (wrap64 (x58_2 + 2)) (y221.length : Int)) then (if (Int.tmod (wrap64 (x58_2 + 2)) (y221.length : Int)) < (y221.length : Int) then (if 0 ≤ (Int.tmod (wrap64 (x58_2 + 3)) (y221.length : Int)) then (if (Int.tmod (wrap64 (x58_2 + 3)) (y221.length : Int)) < (y221.length : Int) then ((amount_Add.f k2 (rd y221 x58_2) (rd y221 (ji37))).bind fun bt228 => ((trustquorumref35_Add.f (rd y221 x58_2) (rd y221 (ji37))).bind fun bt230 => ((amount_Valid.f (rd y221 x58_2)).bind fun t232 => ((trustquorumref35_Valid.f (rd y221 x58_2)).bind fun t233 => (if (t232 != t233) = true then (trustquorumlaw35_AmountExact.j2 k2 y221 (rd y221 x58_2) (rd y221 (ji37)) (rd y221 (Int.tmod (wrap64 (x58_2 + 2)) (y221.length : Int))) (rd y221 (Int.tmod (wrap64 (x58_2 + 3)) (y221.length : Int))) (y221.length : Int) x58_2 true a5_0 a5_1 a6_0 a6_1 t212 t220) else ((amount_Price.f (rd y221 x58_2) (rd y221 (ji37))).bind fun t234 => ((trustquorumref35_Price.f (rd y221 x58_2) (rd y221 (ji37))).bind fun t235 => (if (t234 != t235) = true then (trustquorumlaw35_AmountExact.j2 k2 y221 (rd y221 x58_2) (rd y221 (ji37)) (rd y221 (Int.tmod (wrap64 (x58_2 + 2)) (y221.length : Int))) (rd y221 (Int.tmod (wrap64 (x58_2 + 3)) (y221.length : Int))) (y221.length : Int) x58_2 true a5_0 a5_1 a6_0 a6_1 t212 t220) else (if bt228.1 = bt230.1 then (trustquorumlaw35_AmountExact.j2 k2 y221 (rd y221 x58_2) (rd y221 (ji37)) (rd y221 (Int.tmod (wrap64 (x58_2 + 2)) (y221.length : Int))) (rd y221 (Int.tmod (wrap64 (x58_2 + 3)) (y221.length : Int))) (y221.length : Int) x58_2 (bt228.2 != bt230.2) a5_0 a5_1 a6_0 a6_1 t212 t220) else (trustquorumlaw35_AmountExact.j2 k2 y221 (rd y221 x58_2) (rd y221 (ji37)) (rd y221 (Int.tmod (wrap64 (x58_2 + 2)) (y221.length : Int))) (rd y221 (Int.tmod (wrap64 (x58_2 + 3)) (y221.length : Int))) (y221.length : Int) x58_2 true a5_0 a5_1 a6_0 a6_1 t212 t220)))))))))) else (none)) else (none)) else (none)) else (none)) else (none)) else (none)) = some r := by first | (rw [hji37] at H; exact H) | (simp only [hji37] at H ⊢; exact H)
                    by_cases c38 : 0 ≤ (ji37)
                    · rw [if_pos c38] at H
                      have c38b0 : decide (0 ≤ (ji37)) = true := decide_eq_true c38
                      clear c38
                      by_cases c39 : (ji37) < (y221.length : Int)
                      · rw [if_pos c39] at H
                        have c39b0 : decide ((ji37) < (y221.length : Int)) = true := decide_eq_true c39
                        clear c39
                        obtain ⟨ji40, hji40⟩ : ∃ j_ : Int, (Int.tmod (wrap64 (x58_2 + 2)) (y221.length : Int)) = j_ := ⟨_, rfl⟩
                        replace H : (if 0 ≤ (ji40) then (if (ji40) < (y221.length : Int) then (if 0 ≤ (Int.tmod (wrap64 (x58_2 + 3)) (y221.length : Int)) then (if (Int.tmod (wrap64 (x58_2 + 3)) (y221.length : Int)) < (y221.length : Int) then ((amount_Add.f k2 (rd y221 x58_2) (rd y221 (ji37))).bind fun bt228 => ((trustquorumref35_Add.f (rd y221 x58_2) (rd y221 (ji37))).bind fun bt230 => ((amount_Valid.f (rd y221 x58_2)).bind fun t232 => ((trustquorumref35_Valid.f (rd y221 x58_2)).bind fun t233 => (if (t232 != t233) = true then (trustquorumlaw35_AmountExact.j2 k2 y221 (rd y221 x58_2) (rd y221 (ji37)) (rd y221 (ji40)) (rd y221 (Int.tmod (wrap64 (x58_2 + 3)) (y221.length : Int))) (y221.length : Int) x58_2 true a5_0 a5_1 a6_0 a6_1 t212 t220) else ((amount_Price.f (rd y221 x58_2) (rd y221 (ji37))).bind fun t234 => ((trustquorumref35_Price.f (rd y221 x58_2) (rd y221 (ji37))).bind fun t235 => (if (t234 != t235) = true then (trustquorumlaw35_AmountExact.j2 k2 y221 (rd y221 x58_2) (rd y221 (ji37)) (rd y221 (ji40)) (rd y221 (Int.tmod (wrap64 (x58_2 + 3)) (y221.length : Int))) (y221.length : Int) x58_2 true a5_0 a5_1 a6_0 a6_1 t212 t220) else (if bt228.1 = bt230.1 then (trustquorumlaw35_AmountExact.j2 k2 y221 (rd y221 x58_2) (rd y221 (ji37)) (rd y221 (ji40)) (rd y221 (Int.tmod (wrap64 (x58_2 + 3)) (y221.length : Int))) (y221.length : Int) x58_2 (bt228.2 != bt230.2) a5_0 a5_1 a6_0 a6_1 t212 t220) else (trustquorumlaw35_AmountExact.j2 k2 y221 (rd y221 x58_2) (rd y221 (ji37)) (rd y221 (ji40)) (rd y221 (Int.tmod (wrap64 (x58_2 + 3)) (y221.length : Int))) (y221.length : Int) x58_2 true a5_0 a5_1 a6_0 a6_1 t212 t220)))))))))) else (none)) else (none)) else (none)) else (none)) = some r := by first | (rw [hji40] at H; exact H) | (simp only [hji40] at H ⊢; exact H)
                        by_cases c41 : 0 ≤ (ji40)
                        · rw [if_pos c41] at H
                          have c41b0 : decide (0 ≤ (ji40)) = true := decide_eq_true c41
                          clear c41
                          by_cases c42 : (ji40) < (y221.length : Int)
                          · rw [if_pos c42] at H
                            have c42b0 : decide ((ji40) < (y221.length : Int)) = true := decide_eq_true c42
                            clear c42
                            obtain ⟨ji43, hji43⟩ : ∃ j_ : Int, (Int.tmod (wrap64 (x58_2 + 3)) (y221.length : Int)) = j_ := ⟨_, rfl⟩
                            replace H : (if 0 ≤ (ji43) then (if (ji43) < (y221.length : Int) then ((amount_Add.f k2 (rd y221 x58_2) (rd y221 (ji37))).bind fun bt228 => ((trustquorumref35_Add.f (rd y221 x58_2) (rd y221 (ji37))).bind fun bt230 => ((amount_Valid.f (rd y221 x58_2)).bind fun t232 => ((trustquorumref35_Valid.f (rd y221 x58_2)).bind fun t233 => (if (t232 != t233) = true then (trustquorumlaw35_AmountExact.j2 k2 y221 (rd y221 x58_2) (rd y221 (ji37)) (rd y221 (ji40)) (rd y221 (ji43)) (y221.length : Int) x58_2 true a5_0 a5_1 a6_0 a6_1 t212 t220) else ((amount_Price.f (rd y221 x58_2) (rd y221 (ji37))).bind fun t234 => ((trustquorumref35_Price.f (rd y221 x58_2) (rd y221 (ji37))).bind fun t235 => (if (t234 != t235) = true then (trustquorumlaw35_AmountExact.j2 k2 y221 (rd y221 x58_2) (rd y221 (ji37)) (rd y221 (ji40)) (rd y221 (ji43)) (y221.length : Int) x58_2 true a5_0 a5_1 a6_0 a6_1 t212 t220) else (if bt228.1 = bt230.1 then (trustquorumlaw35_AmountExact.j2 k2 y221 (rd y221 x58_2) (rd y221 (ji37)) (rd y221 (ji40)) (rd y221 (ji43)) (y221.length : Int) x58_2 (bt228.2 != bt230.2) a5_0 a5_1 a6_0 a6_1 t212 t220) else (trustquorumlaw35_AmountExact.j2 k2 y221 (rd y221 x58_2) (rd y221 (ji37)) (rd y221 (ji40)) (rd y221 (ji43)) (y221.length : Int) x58_2 true a5_0 a5_1 a6_0 a6_1 t212 t220)))))))))) else (none)) else (none)) = some r := by first | (rw [hji43] at H; exact H) | (simp only [hji43] at H ⊢; exact H)
                            by_cases c44 : 0 ≤ (ji43)
                            · rw [if_pos c44] at H
                              have c44b0 : decide (0 ≤ (ji43)) = true := decide_eq_true c44
                              clear c44
                              by_cases c45 : (ji43) < (y221.length : Int)
                              · rw [if_pos c45] at H
                                have c45b0 : decide ((ji43) < (y221.length : Int)) = true := decide_eq_true c45
                                clear c45
                                replace H := Option.bind_eq_some_iff.mp H
                                obtain ⟨⟨t228, t229⟩, A460, H⟩ := H
                                replace H : ((trustquorumref35_Add.f (rd y221 x58_2) (rd y221 (ji37))).bind fun bt230 => ((amount_Valid.f (rd y221 x58_2)).bind fun t232 => ((trustquorumref35_Valid.f (rd y221 x58_2)).bind fun t233 => (if (t232 != t233) = true then (trustquorumlaw35_AmountExact.j2 k2 y221 (rd y221 x58_2) (rd y221 (ji37)) (rd y221 (ji40)) (rd y221 (ji43)) (y221.length : Int) x58_2 true a5_0 a5_1 a6_0 a6_1 t212 t220) else ((amount_Price.f (rd y221 x58_2) (rd y221 (ji37))).bind fun t234 => ((trustquorumref35_Price.f (rd y221 x58_2) (rd y221 (ji37))).bind fun t235 => (if (t234 != t235) = true then (trustquorumlaw35_AmountExact.j2 k2 y221 (rd y221 x58_2) (rd y221 (ji37)) (rd y221 (ji40)) (rd y221 (ji43)) (y221.length : Int) x58_2 true a5_0 a5_1 a6_0 a6_1 t212 t220) else (if t228 = bt230.1 then (trustquorumlaw35_AmountExact.j2 k2 y221 (rd y221 x58_2) (rd y221 (ji37)) (rd y221 (ji40)) (rd y221 (ji43)) (y221.length : Int) x58_2 (t229 != bt230.2) a5_0 a5_1 a6_0 a6_1 t212 t220) else (trustquorumlaw35_AmountExact.j2 k2 y221 (rd y221 x58_2) (rd y221 (ji37)) (rd y221 (ji40)) (rd y221 (ji43)) (y221.length : Int) x58_2 true a5_0 a5_1 a6_0 a6_1 t212 t220))))))))) = some r := H
                                have A46 := Aside0.mk A460
                                clear A460
                                replace H := Option.bind_eq_some_iff.mp H
                                obtain ⟨⟨t230, t231⟩, A470, H⟩ := H
                                replace H : ((amount_Valid.f (rd y221 x58_2)).bind fun t232 => ((trustquorumref35_Valid.f (rd y221 x58_2)).bind fun t233 => (if (t232 != t233) = true then (trustquorumlaw35_AmountExact.j2 k2 y221 (rd y221 x58_2) (rd y221 (ji37)) (rd y221 (ji40)) (rd y221 (ji43)) (y221.length : Int) x58_2 true a5_0 a5_1 a6_0 a6_1 t212 t220) else ((amount_Price.f (rd y221 x58_2) (rd y221 (ji37))).bind fun t234 => ((trustquorumref35_Price.f (rd y221 x58_2) (rd y221 (ji37))).bind fun t235 => (if (t234 != t235) = true then (trustquorumlaw35_AmountExact.j2 k2 y221 (rd y221 x58_2) (rd y221 (ji37)) (rd y221 (ji40)) (rd y221 (ji43)) (y221.length : Int) x58_2 true a5_0 a5_1 a6_0 a6_1 t212 t220) else (if t228 = t230 then (trustquorumlaw35_AmountExact.j2 k2 y221 (rd y221 x58_2) (rd y221 (ji37)) (rd y221 (ji40)) (rd y221 (ji43)) (y221.length : Int) x58_2 (t229 != t231) a5_0 a5_1 a6_0 a6_1 t212 t220) else (trustquorumlaw35_AmountExact.j2 k2 y221 (rd y221 x58_2) (rd y221 (ji37)) (rd y221 (ji40)) (rd y221 (ji43)) (y221.length : Int) x58_2 true a5_0 a5_1 a6_0 a6_1 t212 t220)))))))) = some r := H
                                have A47 := Aside0.mk A470
                                clear A470
                                have HC48 := Aside0.mk H
                                clear H
                                have p224 : 0 ≤ (x58_2 : Int) := of_decide_eq_true (by first | (with_reducible assumption) | assumption)
                                have q224 : x58_2 < (y221.length : Int) := of_decide_eq_true (by first | (with_reducible assumption) | assumption)
                                obtain ⟨ad224, e224, hx224_0⟩ := Kd.at_int (Kd.R_reads' HO_16.out).2.2 x58_2 p224 q224
                                cases e224
                                replace p224 := eq_true p224
                                replace q224 := eq_true q224
                                try go_wp2
                                have n0_ := Aside0.mk (Kd.R_drew HO_16.out)
                                have n1_ := Aside0.mk (blk_drew BK209.out)
                                have n2_ := Aside0.mk (blk_drew BK210.out)
                                have n3_ := Aside0.mk (IsS52.drew HI214.out)
                                have n4_ := Aside0.mk (below_drew1 HB.out)
                                clear HO_16 BK209 BK210 HI214 HB
                                have HO_16 := n0_
                                have BK209 := n1_
                                have BK210 := n2_
                                have HI214 := n3_
                                have HB := n4_
                                clear n0_ n1_ n2_ n3_ n4_
                                have p225 : 0 ≤ ((ji37) : Int) := of_decide_eq_true (by first | (with_reducible assumption) | assumption)
                                have q225 : (ji37) < (y221.length : Int) := of_decide_eq_true (by first | (with_reducible assumption) | assumption)
                                obtain ⟨ad225, e225, hx225_0⟩ := Kd.at_int (Kd.R_reads' HO_16.out).2.2 (ji37) p225 q225
                                obtain rfl : ad224 = ad225 := (by injection e225)
                                replace p225 := eq_true p225
                                replace q225 := eq_true q225
                                have p226 : 0 ≤ ((ji40) : Int) := of_decide_eq_true (by first | (with_reducible assumption) | assumption)
                                have q226 : (ji40) < (y221.length : Int) := of_decide_eq_true (by first | (with_reducible assumption) | assumption)
                                obtain ⟨ad226, e226, hx226_0⟩ := Kd.at_int (Kd.R_reads' HO_16.out).2.2 (ji40) p226 q226
                                obtain rfl : ad224 = ad226 := (by injection e226)
                                replace p226 := eq_true p226
                                replace q226 := eq_true q226
                                have p227 : 0 ≤ ((ji43) : Int) := of_decide_eq_true (by first | (with_reducible assumption) | assumption)
                                have q227 : (ji43) < (y221.length : Int) := of_decide_eq_true (by first | (with_reducible assumption) | assumption)
                                obtain ⟨ad227, e227, hx227_0⟩ := Kd.at_int (Kd.R_reads' HO_16.out).2.2 (ji43) p227 q227
                                obtain rfl : ad224 = ad227 := (by injection e227)
                                replace p227 := eq_true p227
                                replace q227 := eq_true q227
                                refine start_ (n := 27) (S := fun w' => w'.cell? (ad224.add ((ji37)).toNat) = some (.int .i64 (rd y221 (ji37))) ∧ w'.cell? (ad224.add ((ji40)).toNat) = some (.int .i64 (rd y221 (ji40))) ∧ w'.cell? (ad224.add ((ji43)).toNat) = some (.int .i64 (rd y221 (ji43)))) (ds := []) #[false, false, false, false, false, false, false, false, false, false, false, false, false, false, false, false, false, false, false, false, false, false, false, false, false, false, false] (by kernel_rfl) rfl rfl ⟨hx225_0, hx226_0, hx227_0⟩ (fun hHeld => ?_); refine with_tabW trustquorumlaw35_AmountExact.tab8 trustquorumlaw35_AmountExact.bits8 (fun HT_ HW_ => ?_)
                                generalize wr.drew = w49 at HO_16 BK209 BK210 HI214 HB hx225_0 hx226_0 hx227_0 hHeld ⊢
                                refine pure_ (i := 0) (N := some 63) (v := ?_) (a' := ?_) #[true, false, false, false, false, false, false, false, false, false, false, false, false, false, false, false, false, false, false, false, false, false, false, false, false, false, false] rfl rfl (any_of HT_.out (by kernel_rfl)) (fun _ _ _ h => h) (Or.inl ⟨by rfl, ?_⟩) ?_ ?_
                                rotate_left
                                · intro w'
                                  go_simp
                                  with_reducible rfl
                                rotate_left
                                · simp only [Act.put, List.setIfInBounds_toArray, List.set_cons_zero, List.set_cons_succ, i64_w, i32_w]
                                  rfl
                                refine pure_ (i := 1) (N := some 64) (v := ?_) (a' := ?_) #[true, true, false, false, false, false, false, false, false, false, false, false, false, false, false, false, false, false, false, false, false, false, false, false, false, false, false] rfl rfl (any_of HT_.out (by kernel_rfl)) (fun _ _ _ h => h) (Or.inl ⟨by rfl, ?_⟩) ?_ ?_
                                rotate_left
                                · intro w'
                                  go_simp
                                  with_reducible rfl
                                rotate_left
                                · simp only [Act.put, List.setIfInBounds_toArray, List.set_cons_zero, List.set_cons_succ, i64_w, i32_w]
                                  rfl
                                refine pure_ (i := 2) (N := some 65) (v := ?_) (a' := ?_) #[true, true, true, false, false, false, false, false, false, false, false, false, false, false, false, false, false, false, false, false, false, false, false, false, false, false, false] rfl rfl (any_of HT_.out (by kernel_rfl)) (fun _ _ _ h => h) (Or.inl ⟨by rfl, ?_⟩) ?_ ?_
                                rotate_left
                                · intro w'
                                  go_simp
                                  with_reducible rfl
                                rotate_left
                                · simp only [Act.put, List.setIfInBounds_toArray, List.set_cons_zero, List.set_cons_succ, i64_w, i32_w]
                                  rfl
                                refine pure_ (i := 3) (N := some 66) (v := ?_) (a' := ?_) #[true, true, true, true, false, false, false, false, false, false, false, false, false, false, false, false, false, false, false, false, false, false, false, false, false, false, false] rfl rfl (any_of HT_.out (by kernel_rfl)) (fun _ _ _ h => h) (Or.inl ⟨by rfl, ?_⟩) ?_ ?_
                                rotate_left
                                · intro w'
                                  go_simp
                                  with_reducible rfl
                                rotate_left
                                · simp only [Act.put, List.setIfInBounds_toArray, List.set_cons_zero, List.set_cons_succ, i64_w, i32_w]
                                  rfl
                                refine pure_ (i := 4) (N := some 67) (v := ?_) (a' := ?_) #[true, true, true, true, true, false, false, false, false, false, false, false, false, false, false, false, false, false, false, false, false, false, false, false, false, false, false] rfl rfl (any_of HT_.out (by kernel_rfl)) (fun _ _ _ h => h) (Or.inl ⟨by rfl, ?_⟩) ?_ ?_
                                rotate_left
                                · intro w'
                                  go_simp
                                  with_reducible rfl
                                rotate_left
                                · simp only [Act.put, List.setIfInBounds_toArray, List.set_cons_zero, List.set_cons_succ, i64_w, i32_w]
                                  rfl
                                refine pure_ (i := 5) (N := some 68) (v := ?_) (a' := ?_) #[true, true, true, true, true, true, false, false, false, false, false, false, false, false, false, false, false, false, false, false, false, false, false, false, false, false, false] rfl rfl (any_of HT_.out (by kernel_rfl)) (fun _ _ _ h => h) (Or.inl ⟨by rfl, ?_⟩) ?_ ?_
                                rotate_left
                                · intro w'
                                  go_simp
                                  with_reducible rfl
                                rotate_left
                                · simp only [Act.put, List.setIfInBounds_toArray, List.set_cons_zero, List.set_cons_succ, i64_w, i32_w]
                                  rfl
                                refine pure_ (i := 6) (N := some 69) (v := ?_) (a' := ?_) #[true, true, true, true, true, true, true, false, false, false, false, false, false, false, false, false, false, false, false, false, false, false, false, false, false, false, false] rfl rfl (any_of HT_.out (by kernel_rfl)) (fun _ _ _ h => h) (Or.inl ⟨by rfl, ?_⟩) ?_ ?_
                                rotate_left
                                · intro w'
                                  go_simp
                                  with_reducible rfl
                                rotate_left
                                · simp only [Act.put, List.setIfInBounds_toArray, List.set_cons_zero, List.set_cons_succ, i64_w, i32_w]
                                  rfl
                                refine pure_ (i := 8) (N := some 71) (v := ?_) (a' := ?_) #[true, true, true, true, true, true, true, false, true, false, false, false, false, false, false, false, false, false, false, false, false, false, false, false, false, false, false] rfl rfl (any_of HT_.out (by kernel_rfl)) (fun _ _ _ h => h) (Or.inl ⟨by rfl, ?_⟩) ?_ ?_
                                rotate_left
                                · intro w'
                                  go_simp
                                  with_reducible rfl
                                rotate_left
                                · simp only [Act.put, List.setIfInBounds_toArray, List.set_cons_zero, List.set_cons_succ, i64_w, i32_w]
                                  rfl
                                refine pure_ (i := 9) (N := some 72) (v := ?_) (a' := ?_) #[true, true, true, true, true, true, true, false, true, true, false, false, false, false, false, false, false, false, false, false, false, false, false, false, false, false, false] rfl rfl (any_of HT_.out (by kernel_rfl)) (fun _ _ _ h => h) (Or.inl ⟨by rfl, ?_⟩) ?_ ?_
                                rotate_left
                                · intro w'
                                  go_simp
                                  with_reducible rfl
                                rotate_left
                                · simp only [Act.put, List.setIfInBounds_toArray, List.set_cons_zero, List.set_cons_succ, i64_w, i32_w]
                                  rfl
                                refine pure_ (i := 10) (N := some 73) (v := ?_) (a' := ?_) #[true, true, true, true, true, true, true, false, true, true, true, false, false, false, false, false, false, false, false, false, false, false, false, false, false, false, false] rfl rfl (any_of HT_.out (by kernel_rfl)) (fun _ _ _ h => h) (Or.inl ⟨by rfl, ?_⟩) ?_ ?_
                                rotate_left
                                · intro w'
                                  go_simp
                                  with_reducible rfl
                                rotate_left
                                · simp only [Act.put, List.setIfInBounds_toArray, List.set_cons_zero, List.set_cons_succ, i64_w, i32_w]
                                  rfl
                                refine pure_ (i := 11) (N := some 74) (v := ?_) (a' := ?_) #[true, true, true, true, true, true, true, false, true, true, true, true, false, false, false, false, false, false, false, false, false, false, false, false, false, false, false] rfl rfl (any_of HT_.out (by kernel_rfl)) (fun _ _ _ h => h) (Or.inl ⟨by rfl, ?_⟩) ?_ ?_
                                rotate_left
                                · intro w'
                                  go_simp
                                  with_reducible rfl
                                rotate_left
                                · simp only [Act.put, List.setIfInBounds_toArray, List.set_cons_zero, List.set_cons_succ, i64_w, i32_w]
                                  rfl
                                refine pure_ (i := 12) (N := some 75) (v := ?_) (a' := ?_) #[true, true, true, true, true, true, true, false, true, true, true, true, true, false, false, false, false, false, false, false, false, false, false, false, false, false, false] rfl rfl (any_of HT_.out (by kernel_rfl)) (fun _ _ _ h => h) (Or.inl ⟨by rfl, ?_⟩) ?_ ?_
                                rotate_left
                                · intro w'
                                  go_simp
                                  with_reducible rfl
                                rotate_left
                                · simp only [Act.put, List.setIfInBounds_toArray, List.set_cons_zero, List.set_cons_succ, i64_w, i32_w]
                                  rfl
                                refine pure_ (i := 13) (N := some 76) (v := ?_) (a' := ?_) #[true, true, true, true, true, true, true, false, true, true, true, true, true, true, false, false, false, false, false, false, false, false, false, false, false, false, false] rfl rfl (any_of HT_.out (by kernel_rfl)) (fun _ _ _ h => h) (Or.inl ⟨by rfl, ?_⟩) ?_ ?_
                                rotate_left
                                · intro w'
                                  go_simp
                                  with_reducible rfl
                                rotate_left
                                · simp only [Act.put, List.setIfInBounds_toArray, List.set_cons_zero, List.set_cons_succ, i64_w, i32_w]
                                  rfl
                                refine pure_ (i := 14) (N := some 77) (v := ?_) (a' := ?_) #[true, true, true, true, true, true, true, false, true, true, true, true, true, true, true, false, false, false, false, false, false, false, false, false, false, false, false] rfl rfl (any_of HT_.out (by kernel_rfl)) (fun _ _ _ h => h) (Or.inl ⟨by rfl, ?_⟩) ?_ ?_
                                rotate_left
                                · intro w'
                                  go_simp
                                  with_reducible rfl
                                rotate_left
                                · simp only [Act.put, List.setIfInBounds_toArray, List.set_cons_zero, List.set_cons_succ, i64_w, i32_w]
                                  rfl
                                refine pure_ (i := 16) (N := some 79) (v := ?_) (a' := ?_) #[true, true, true, true, true, true, true, false, true, true, true, true, true, true, true, false, true, false, false, false, false, false, false, false, false, false, false] rfl rfl (any_of HT_.out (by kernel_rfl)) (fun _ _ _ h => h) (Or.inl ⟨by rfl, ?_⟩) ?_ ?_
                                rotate_left
                                · intro w'
                                  go_simp
                                  with_reducible rfl
                                rotate_left
                                · simp only [Act.put, List.setIfInBounds_toArray, List.set_cons_zero, List.set_cons_succ, i64_w, i32_w]
                                  rfl
                                refine pure_ (i := 17) (N := some 80) (v := ?_) (a' := ?_) #[true, true, true, true, true, true, true, false, true, true, true, true, true, true, true, false, true, true, false, false, false, false, false, false, false, false, false] rfl rfl (any_of HT_.out (by kernel_rfl)) (fun _ _ _ h => h) (Or.inl ⟨by rfl, ?_⟩) ?_ ?_
                                rotate_left
                                · intro w'
                                  go_simp
                                  with_reducible rfl
                                rotate_left
                                · simp only [Act.put, List.setIfInBounds_toArray, List.set_cons_zero, List.set_cons_succ, i64_w, i32_w]
                                  rfl
                                refine pure_ (i := 18) (N := some 81) (v := ?_) (a' := ?_) #[true, true, true, true, true, true, true, false, true, true, true, true, true, true, true, false, true, true, true, false, false, false, false, false, false, false, false] rfl rfl (any_of HT_.out (by kernel_rfl)) (fun _ _ _ h => h) (Or.inl ⟨by rfl, ?_⟩) ?_ ?_
                                rotate_left
                                · intro w'
                                  go_simp
                                  with_reducible rfl
                                rotate_left
                                · simp only [Act.put, List.setIfInBounds_toArray, List.set_cons_zero, List.set_cons_succ, i64_w, i32_w]
                                  rfl
                                refine pure_ (i := 19) (N := some 82) (v := ?_) (a' := ?_) #[true, true, true, true, true, true, true, false, true, true, true, true, true, true, true, false, true, true, true, true, false, false, false, false, false, false, false] rfl rfl (any_of HT_.out (by kernel_rfl)) (fun _ _ _ h => h) (Or.inl ⟨by rfl, ?_⟩) ?_ ?_
                                rotate_left
                                · intro w'
                                  go_simp
                                  with_reducible rfl
                                rotate_left
                                · simp only [Act.put, List.setIfInBounds_toArray, List.set_cons_zero, List.set_cons_succ, i64_w, i32_w]
                                  rfl
                                refine pure_ (i := 20) (N := some 83) (v := ?_) (a' := ?_) #[true, true, true, true, true, true, true, false, true, true, true, true, true, true, true, false, true, true, true, true, true, false, false, false, false, false, false] rfl rfl (any_of HT_.out (by kernel_rfl)) (fun _ _ _ h => h) (Or.inl ⟨by rfl, ?_⟩) ?_ ?_
                                rotate_left
                                · intro w'
                                  go_simp
                                  with_reducible rfl
                                rotate_left
                                · simp only [Act.put, List.setIfInBounds_toArray, List.set_cons_zero, List.set_cons_succ, i64_w, i32_w]
                                  rfl
                                refine pure_ (i := 21) (N := some 84) (v := ?_) (a' := ?_) #[true, true, true, true, true, true, true, false, true, true, true, true, true, true, true, false, true, true, true, true, true, true, false, false, false, false, false] rfl rfl (any_of HT_.out (by kernel_rfl)) (fun _ _ _ h => h) (Or.inl ⟨by rfl, ?_⟩) ?_ ?_
                                rotate_left
                                · intro w'
                                  go_simp
                                  with_reducible rfl
                                rotate_left
                                · simp only [Act.put, List.setIfInBounds_toArray, List.set_cons_zero, List.set_cons_succ, i64_w, i32_w]
                                  rfl
                                refine pure_ (i := 22) (N := some 85) (v := ?_) (a' := ?_) #[true, true, true, true, true, true, true, false, true, true, true, true, true, true, true, false, true, true, true, true, true, true, true, false, false, false, false] rfl rfl (any_of HT_.out (by kernel_rfl)) (fun _ _ _ h => h) (Or.inl ⟨by rfl, ?_⟩) ?_ ?_
                                rotate_left
                                · intro w'
                                  go_simp
                                  with_reducible rfl
                                rotate_left
                                · simp only [Act.put, List.setIfInBounds_toArray, List.set_cons_zero, List.set_cons_succ, i64_w, i32_w]
                                  rfl
                                refine take_ (i := 7) (N := some 70) (v := ?_) (a' := ?_) #[true, true, true, true, true, true, true, true, true, true, true, true, true, true, true, false, true, true, true, true, true, true, true, false, false, false, false] rfl rfl (take_ofW HT_.out HW_.out (by kernel_rfl)) (fun _ _ _ h => h) (Or.inl ⟨by rfl, ?_⟩) hHeld ?_ ?_
                                rotate_left
                                · rintro w' ⟨s0, s1, s2⟩
                                  go_simp
                                  with_reducible rfl
                                rotate_left
                                · simp only [Act.put, List.setIfInBounds_toArray, List.set_cons_zero, List.set_cons_succ, i64_w, i32_w]
                                  rfl
                                refine pure_ (i := 24) (N := some 19) (v := ?_) (a' := ?_) #[true, true, true, true, true, true, true, true, true, true, true, true, true, true, true, false, true, true, true, true, true, true, true, false, true, false, false] rfl rfl (any_of HT_.out (by kernel_rfl)) (fun _ _ _ h => h) (Or.inl ⟨by rfl, ?_⟩) ?_ ?_
                                rotate_left
                                · intro w'
                                  go_simp
                                  with_reducible rfl
                                rotate_left
                                · simp only [Act.put, List.setIfInBounds_toArray, List.set_cons_zero, List.set_cons_succ, i64_w, i32_w]
                                  rfl
                                refine take_ (i := 15) (N := some 78) (v := ?_) (a' := ?_) #[true, true, true, true, true, true, true, true, true, true, true, true, true, true, true, true, true, true, true, true, true, true, true, false, true, false, false] rfl rfl (take_ofW HT_.out HW_.out (by kernel_rfl)) (fun _ _ _ h => h) (Or.inl ⟨by rfl, ?_⟩) hHeld ?_ ?_
                                rotate_left
                                · rintro w' ⟨s0, s1, s2⟩
                                  go_simp
                                  with_reducible rfl
                                rotate_left
                                · simp only [Act.put, List.setIfInBounds_toArray, List.set_cons_zero, List.set_cons_succ, i64_w, i32_w]
                                  rfl
                                refine pure_ (i := 25) (N := some 20) (v := ?_) (a' := ?_) #[true, true, true, true, true, true, true, true, true, true, true, true, true, true, true, true, true, true, true, true, true, true, true, false, true, true, false] rfl rfl (any_of HT_.out (by kernel_rfl)) (fun _ _ _ h => h) (Or.inl ⟨by rfl, ?_⟩) ?_ ?_
                                rotate_left
                                · intro w'
                                  go_simp
                                  with_reducible rfl
                                rotate_left
                                · simp only [Act.put, List.setIfInBounds_toArray, List.set_cons_zero, List.set_cons_succ, i64_w, i32_w]
                                  rfl
                                refine take_ (i := 23) (N := some 86) (v := ?_) (a' := ?_) #[true, true, true, true, true, true, true, true, true, true, true, true, true, true, true, true, true, true, true, true, true, true, true, true, true, true, false] rfl rfl (take_ofW HT_.out HW_.out (by kernel_rfl)) (fun _ _ _ h => h) (Or.inl ⟨by rfl, ?_⟩) hHeld ?_ ?_
                                rotate_left
                                · rintro w' ⟨s0, s1, s2⟩
                                  go_simp
                                  with_reducible rfl
                                rotate_left
                                · simp only [Act.put, List.setIfInBounds_toArray, List.set_cons_zero, List.set_cons_succ, i64_w, i32_w]
                                  rfl
                                refine pure_ (i := 26) (N := some 21) (v := ?_) (a' := ?_) #[true, true, true, true, true, true, true, true, true, true, true, true, true, true, true, true, true, true, true, true, true, true, true, true, true, true, true] rfl rfl (any_of HT_.out (by kernel_rfl)) (fun _ _ _ h => h) (Or.inl ⟨by rfl, ?_⟩) ?_ ?_
                                rotate_left
                                · intro w'
                                  go_simp
                                  with_reducible rfl
                                rotate_left
                                · simp only [Act.put, List.setIfInBounds_toArray, List.set_cons_zero, List.set_cons_succ, i64_w, i32_w]
                                  rfl
                                refine done_ (done_of HT_.out (by kernel_rfl)) ?_
                                go_upto_region 11 with (first | ((with_reducible refine gate_callee (f := 13) rfl ?_); refine goesL_ (some 90) rfl rfl Try.func13 (by kernel_rfl) rfl #[.int .i64 (rd y221 x58_2), .int .i64 (rd y221 (ji37))] rfl (by (try simp only [List.map_toArray, List.map_cons, List.map_nil]); first | done | (simp only [hji37]; rfl) | rfl | (simp only [List.length_drop, List.length_take]; rfl)) ?_; (with_reducible refine (amount_Add.calls k2 (rd y221 x58_2) (rd y221 (ji37)) t228 t229 _ A46.out).mono ?_); rintro e w50 ⟨rfl, hb⟩; refine ⟨_, rfl, ?_⟩; have n0_ := Aside0.mk (Kd.R_below (by exact HO_16.out) hb); have n1_ := Aside0.mk (blk_below BK209.out hb); have n2_ := Aside0.mk (blk_below BK210.out hb); have n3_ := Aside0.mk (IsS52.below (by exact HI214.out) hb); have n4_ := Aside0.mk (below_step (by exact HB.out) hb); clear HO_16 BK209 BK210 HI214 HB; have HO_16 := n0_; have BK209 := n1_; have BK210 := n2_; have HI214 := n3_; have HB := n4_; clear n0_ n1_ n2_ n3_ n4_; (try clear hb); (try clear hb2); (try clear hk); (try clear hi)) | ((with_reducible refine gate_callee (f := 22) rfl ?_); refine goesL_ (some 96) rfl rfl Try.func22 (by kernel_rfl) rfl #[.int .i64 (rd y221 x58_2), .int .i64 (rd y221 (ji37))] rfl (by (try simp only [List.map_toArray, List.map_cons, List.map_nil]); first | done | (simp only [hji37]; rfl) | rfl | (simp only [List.length_drop, List.length_take]; rfl)) ?_; (with_reducible refine (trustquorumref35_Add.calls (rd y221 x58_2) (rd y221 (ji37)) t230 t231 _ A47.out).mono ?_); rintro e w' ⟨rfl, ⟨nd, rfl⟩⟩; refine ⟨_, rfl, ?_⟩))
                                (try simp only [Act.put, List.setIfInBounds_toArray, List.set_cons_zero, List.set_cons_succ])
                                go_cut [122] (fun v122 wc => ∃ (kq : Nat) (x122_47 : Bool), v122 = .bool x122_47 ∧ Aside0 (trustquorumlaw35_AmountExact.j2 kq y221 (rd y221 x58_2) (rd y221 (ji37)) (rd y221 (ji40)) (rd y221 (ji43)) (y221.length : Int) x58_2 x122_47 a5_0 a5_1 a6_0 a6_1 t212 t220 = some r) ∧ Aside0 (kq ≤ k2) ∧ Aside0 (Kd.R (Kd.int .i64) 3 wc w.heap.size (fun _ => True) (.slice (some ad224) y221.length co30) y221) ∧ Aside0 (wc.heap[gb209]? = some (.cells #[.string a5_0, .int .i64 a5_1] 38 (0, 0))) ∧ Aside0 (wc.heap[gb210]? = some (.cells #[.string a6_0, .int .i64 a6_1] 38 (0, 0))) ∧ Aside0 (IsS52 w wc g214 t212 t220) ∧ Aside0 (Below w.heap.size w wc))
                                case first =>
                                  have H := HC48.out
                                  clear HC48
                                  replace H := Option.bind_eq_some_iff.mp H
                                  obtain ⟨t232, A510, H⟩ := H
                                  replace H : ((trustquorumref35_Valid.f (rd y221 x58_2)).bind fun t233 => (if (t232 != t233) = true then (trustquorumlaw35_AmountExact.j2 k2 y221 (rd y221 x58_2) (rd y221 (ji37)) (rd y221 (ji40)) (rd y221 (ji43)) (y221.length : Int) x58_2 true a5_0 a5_1 a6_0 a6_1 t212 t220) else ((amount_Price.f (rd y221 x58_2) (rd y221 (ji37))).bind fun t234 => ((trustquorumref35_Price.f (rd y221 x58_2) (rd y221 (ji37))).bind fun t235 => (if (t234 != t235) = true then (trustquorumlaw35_AmountExact.j2 k2 y221 (rd y221 x58_2) (rd y221 (ji37)) (rd y221 (ji40)) (rd y221 (ji43)) (y221.length : Int) x58_2 true a5_0 a5_1 a6_0 a6_1 t212 t220) else (if t228 = t230 then (trustquorumlaw35_AmountExact.j2 k2 y221 (rd y221 x58_2) (rd y221 (ji37)) (rd y221 (ji40)) (rd y221 (ji43)) (y221.length : Int) x58_2 (t229 != t231) a5_0 a5_1 a6_0 a6_1 t212 t220) else (trustquorumlaw35_AmountExact.j2 k2 y221 (rd y221 x58_2) (rd y221 (ji37)) (rd y221 (ji40)) (rd y221 (ji43)) (y221.length : Int) x58_2 true a5_0 a5_1 a6_0 a6_1 t212 t220))))))) = some r := H
                                  have A51 := Aside0.mk A510
                                  clear A510
                                  replace H := Option.bind_eq_some_iff.mp H
                                  obtain ⟨t233, A520, H⟩ := H
                                  replace H : (if (t232 != t233) = true then (trustquorumlaw35_AmountExact.j2 k2 y221 (rd y221 x58_2) (rd y221 (ji37)) (rd y221 (ji40)) (rd y221 (ji43)) (y221.length : Int) x58_2 true a5_0 a5_1 a6_0 a6_1 t212 t220) else ((amount_Price.f (rd y221 x58_2) (rd y221 (ji37))).bind fun t234 => ((trustquorumref35_Price.f (rd y221 x58_2) (rd y221 (ji37))).bind fun t235 => (if (t234 != t235) = true then (trustquorumlaw35_AmountExact.j2 k2 y221 (rd y221 x58_2) (rd y221 (ji37)) (rd y221 (ji40)) (rd y221 (ji43)) (y221.length : Int) x58_2 true a5_0 a5_1 a6_0 a6_1 t212 t220) else (if t228 = t230 then (trustquorumlaw35_AmountExact.j2 k2 y221 (rd y221 x58_2) (rd y221 (ji37)) (rd y221 (ji40)) (rd y221 (ji43)) (y221.length : Int) x58_2 (t229 != t231) a5_0 a5_1 a6_0 a6_1 t212 t220) else (trustquorumlaw35_AmountExact.j2 k2 y221 (rd y221 x58_2) (rd y221 (ji37)) (rd y221 (ji40)) (rd y221 (ji43)) (y221.length : Int) x58_2 true a5_0 a5_1 a6_0 a6_1 t212 t220)))))) = some r := H
                                  have A52 := Aside0.mk A520
                                  clear A520
                                  by_cases c53 : (t232 != t233) = true
                                  · rw [if_pos c53] at H
                                    have c53b0 : (t232 != t233) = true := c53
                                    (try (have c53b1 : decide (t232 = t233) = false := by simpa using c53))
                                    (try (have c53b2 : (t232 == t233) = false := by simpa using c53))
                                    (try (have c53b3 : ¬ (t232 = t233) := by simpa using c53))
                                    clear c53
                                    (first | rw [c53b0] | (simp only [i64_w, i32_w]; rw [c53b0]) | skip)
                                    cases k2 with
                                    | zero => exact absurd H (by simp [trustquorumlaw35_AmountExact.j2])
                                    | succ kz_ => rw [trustquorumlaw35_AmountExact.j2, if_pos rfl] at H; exact absurd ((Option.some.inj H).trans HRT.out) (by decide)
                                  · rw [if_neg c53] at H
                                    have c53b0 : (t232 != t233) = false := by simpa using c53
                                    (try (have c53b1 : decide (t232 = t233) = true := by simpa using c53))
                                    (try (have c53b2 : (t232 == t233) = true := by simpa using c53))
                                    clear c53
                                    (first | rw [c53b0] | (simp only [i64_w, i32_w]; rw [c53b0]) | skip)
                                    replace H := Option.bind_eq_some_iff.mp H
                                    obtain ⟨t234, A540, H⟩ := H
                                    replace H : ((trustquorumref35_Price.f (rd y221 x58_2) (rd y221 (ji37))).bind fun t235 => (if (t234 != t235) = true then (trustquorumlaw35_AmountExact.j2 k2 y221 (rd y221 x58_2) (rd y221 (ji37)) (rd y221 (ji40)) (rd y221 (ji43)) (y221.length : Int) x58_2 true a5_0 a5_1 a6_0 a6_1 t212 t220) else (if t228 = t230 then (trustquorumlaw35_AmountExact.j2 k2 y221 (rd y221 x58_2) (rd y221 (ji37)) (rd y221 (ji40)) (rd y221 (ji43)) (y221.length : Int) x58_2 (t229 != t231) a5_0 a5_1 a6_0 a6_1 t212 t220) else (trustquorumlaw35_AmountExact.j2 k2 y221 (rd y221 x58_2) (rd y221 (ji37)) (rd y221 (ji40)) (rd y221 (ji43)) (y221.length : Int) x58_2 true a5_0 a5_1 a6_0 a6_1 t212 t220)))) = some r := H
                                    have A54 := Aside0.mk A540
                                    clear A540
                                    replace H := Option.bind_eq_some_iff.mp H
                                    obtain ⟨t235, A550, H⟩ := H
                                    replace H : (if (t234 != t235) = true then (trustquorumlaw35_AmountExact.j2 k2 y221 (rd y221 x58_2) (rd y221 (ji37)) (rd y221 (ji40)) (rd y221 (ji43)) (y221.length : Int) x58_2 true a5_0 a5_1 a6_0 a6_1 t212 t220) else (if t228 = t230 then (trustquorumlaw35_AmountExact.j2 k2 y221 (rd y221 x58_2) (rd y221 (ji37)) (rd y221 (ji40)) (rd y221 (ji43)) (y221.length : Int) x58_2 (t229 != t231) a5_0 a5_1 a6_0 a6_1 t212 t220) else (trustquorumlaw35_AmountExact.j2 k2 y221 (rd y221 x58_2) (rd y221 (ji37)) (rd y221 (ji40)) (rd y221 (ji43)) (y221.length : Int) x58_2 true a5_0 a5_1 a6_0 a6_1 t212 t220))) = some r := H
                                    have A55 := Aside0.mk A550
                                    clear A550
                                    by_cases c56 : (t234 != t235) = true
                                    · rw [if_pos c56] at H
                                      have c56b0 : (t234 != t235) = true := c56
                                      (try (have c56b1 : decide (t234 = t235) = false := by simpa using c56))
                                      (try (have c56b2 : (t234 == t235) = false := by simpa using c56))
                                      (try (have c56b3 : ¬ (t234 = t235) := by simpa using c56))
                                      clear c56
                                      cases k2 with
                                      | zero => exact absurd H (by simp [trustquorumlaw35_AmountExact.j2])
                                      | succ kz_ => rw [trustquorumlaw35_AmountExact.j2, if_pos rfl] at H; exact absurd ((Option.some.inj H).trans HRT.out) (by decide)
                                    · rw [if_neg c56] at H
                                      have c56b0 : (t234 != t235) = false := by simpa using c56
                                      (try (have c56b1 : decide (t234 = t235) = true := by simpa using c56))
                                      (try (have c56b2 : (t234 == t235) = true := by simpa using c56))
                                      clear c56
                                      by_cases c57 : t228 = t230
                                      · rw [if_pos c57] at H
                                        have c57b0 : (t228 == t230) = true := beq_iff_eq.mpr c57
                                        have c57b1 : (t228 != t230) = false := bne_eq_false_iff_eq.mpr c57
                                        clear c57
                                        have H' := Aside0.mk H
                                        clear H
                                        go_wp2_with (first | ((with_reducible refine gate_callee (f := 23) rfl ?_); refine goesL_ (some 100) rfl rfl Try.func23 (by kernel_rfl) rfl #[.int .i64 (rd y221 x58_2)] rfl (by (try simp only [List.map_toArray, List.map_cons, List.map_nil]); first | done | rfl | (simp only [List.length_drop, List.length_take]; rfl)) ?_; (with_reducible refine (amount_Valid.calls (rd y221 x58_2) t232 _ A51.out).mono ?_); rintro e w' ⟨rfl, ⟨nd, rfl⟩⟩; refine ⟨_, rfl, ?_⟩) | ((with_reducible refine gate_callee (f := 24) rfl ?_); refine goesL_ (some 102) rfl rfl Try.func24 (by kernel_rfl) rfl #[.int .i64 (rd y221 x58_2)] rfl (by (try simp only [List.map_toArray, List.map_cons, List.map_nil]); first | done | rfl | (simp only [List.length_drop, List.length_take]; rfl)) ?_; (with_reducible refine (trustquorumref35_Valid.calls (rd y221 x58_2) t233 _ A52.out).mono ?_); rintro e w' ⟨rfl, ⟨nd, rfl⟩⟩; refine ⟨_, rfl, ?_⟩) | (go_at_call 25; (with_reducible refine (amount_Price.calls (rd y221 x58_2) (rd y221 (ji37)) t234 _ A54.out).mono ?_); rintro e w' ⟨rfl, ⟨nd, rfl⟩⟩) | (go_at_call 26; (with_reducible refine (trustquorumref35_Price.calls (rd y221 x58_2) (rd y221 (ji37)) t235 _ A55.out).mono ?_); rintro e w' ⟨rfl, ⟨nd, rfl⟩⟩))
                                        go_meet
                                        case rel => exact ⟨_, ((t229 != t231)), (by first | rfl | (simp; done) | (simp [*]; done) | (refine congrArg (Value.int .i64) ?_; unfold wrap64; omega)), H', ⟨by have := HJ7.out; have := HK2.out; first | omega | exact Nat.le_refl _⟩, ⟨by (with_reducible repeat (first | apply Kd.R_alloc | apply Kd.R_drewN | apply Kd.R_drew)); exact HO_16.out⟩, ⟨by (with_reducible repeat (first | refine blk_drewN ?_ _ | refine blk_drew ?_ | refine blk_alloc ?_ _)); exact BK209.out⟩, ⟨by (with_reducible repeat (first | refine blk_drewN ?_ _ | refine blk_drew ?_ | refine blk_alloc ?_ _)); exact BK210.out⟩, ⟨by repeat (first | (with_reducible first | exact HI214.out | apply IsS52.alloc | apply IsS52.drewN | apply IsS52.drew | apply IsS52.set_1 | refine IsS52.far ?_ NB214_209.out _ | refine IsS52.far ?_ NB214_210.out _) | exact HI214.out)⟩, ⟨by repeat (first | (with_reducible first | exact HB.out | apply below_alloc | apply pw_below_drewN | apply below_drew1 | refine below_set ?_ (IsS52.ge HI214.out) | refine below_set ?_ GE209.out | refine below_set ?_ GE210.out) | exact HB.out)⟩⟩
                                      · rw [if_neg c57] at H
                                        have c57b0 : (t228 == t230) = false := beq_eq_false_iff_ne.mpr c57
                                        have c57b1 : (t228 != t230) = true := bne_iff_ne.mpr c57
                                        cases k2 with
                                        | zero => exact absurd H (by simp [trustquorumlaw35_AmountExact.j2])
                                        | succ kz_ => rw [trustquorumlaw35_AmountExact.j2, if_pos rfl] at H; exact absurd ((Option.some.inj H).trans HRT.out) (by decide)
                                case rest =>
                                  clear HC48
                                  try clear c1
                                  try clear c2
                                  try clear p2
                                  try clear q2
                                  try clear hx2
                                  try clear c3
                                  try clear c4
                                  try clear c5
                                  try clear p6
                                  try clear c7
                                  try clear c10
                                  try clear c11
                                  try clear c11b0
                                  try clear c11b1
                                  try clear c12
                                  try clear c13
                                  try clear c14
                                  try clear c15
                                  try clear c17
                                  try clear c20
                                  try clear c21
                                  try clear c22
                                  try clear p22
                                  try clear q22
                                  try clear hx22
                                  try clear c23
                                  try clear c24
                                  try clear c33
                                  try clear c33b0
                                  try clear c34
                                  try clear c34b0
                                  try clear c35
                                  try clear c35b0
                                  try clear c36
                                  try clear c36b0
                                  try clear c36b1
                                  try clear c36b2
                                  try clear c38
                                  try clear c38b0
                                  try clear c39
                                  try clear c39b0
                                  try clear c41
                                  try clear c41b0
                                  try clear c42
                                  try clear c42b0
                                  try clear c44
                                  try clear c44b0
                                  try clear c45
                                  try clear c45b0
                                  try clear c53
                                  try clear c53b0
                                  try clear c53b1
                                  try clear c53b2
                                  try clear c56
                                  try clear c56b0
                                  try clear c56b1
                                  try clear c56b2
                                  try clear c57
                                  try clear c57b0
                                  try clear c57b1
                                  try clear hcz13_0
                                  try clear hcz13_1
                                  try clear hcz15_0
                                  try clear hcz15_1
                                  try clear hcz16_0
                                  try clear hcz16_1
                                  try clear hfz13_0
                                  try clear hfz13_1
                                  try clear hfz15_0
                                  try clear hfz15_1
                                  try clear hfz16_0
                                  try clear hfz16_1
                                  try clear hx224_0
                                  try clear hx225_0
                                  try clear hx226_0
                                  try clear hx227_0
                                  try clear p2
                                  try clear p224
                                  try clear p225
                                  try clear p226
                                  try clear p227
                                  try clear p6
                                  try clear q224
                                  try clear q225
                                  try clear q226
                                  try clear q227
                                  obtain ⟨kq, x122_47, rfl, HA, HJ47, HO_16, BK209, BK210, HI214, HB⟩ := hcut
                                  cases kq with
                                  | zero => exact absurd HA.out (by simp [trustquorumlaw35_AmountExact.j2])
                                  | succ kj47 =>
                                    have H := HA.out
                                    clear HA
                                    simp only [trustquorumlaw35_AmountExact.j2] at H
                                    by_cases c58 : x122_47 = true
                                    · subst c58
                                      have H1 : (some false) = some r := by rw [if_pos rfl] at H; exact H
                                      clear H
                                      have H := H1
                                      clear H1
                                      exact absurd ((Option.some.inj H).trans HRT.out) (by decide)
                                    · replace c58 := Bool.eq_false_iff.mpr c58
                                      subst c58
                                      have H1 : ((amount_Sub.f kj47 (rd y221 x58_2) (rd y221 (ji37))).bind fun bt236 => ((trustquorumref35_Sub.f (rd y221 x58_2) (rd y221 (ji37))).bind fun bt238 => ((amount_Reduce.f kj47 (rd y221 x58_2) (rd y221 (ji37))).bind fun bt240 => ((trustquorumref35_Reduce.f kj47 (rd y221 x58_2) (rd y221 (ji37))).bind fun bt242 => (if bt236.1 = bt238.1 then (if bt236.2 = bt238.2 then (if bt240.1 = bt242.1 then (if bt240.2 = bt242.2 then ((amount_Compare.f (rd y221 x58_2) (rd y221 (ji37)) (rd y221 (ji40)) (rd y221 (ji43))).bind fun t244 => ((trustquorumref35_Compare.f kj47 (rd y221 x58_2) (rd y221 (ji37)) (rd y221 (ji40)) (rd y221 (ji43))).bind fun t245 => (trustquorumlaw35_AmountExact.j3 kj47 y221 (rd y221 x58_2) (rd y221 (ji37)) (rd y221 (ji40)) (y221.length : Int) x58_2 (t244 != t245) a5_0 a5_1 a6_0 a6_1 t212 t220))) else (trustquorumlaw35_AmountExact.j3 kj47 y221 (rd y221 x58_2) (rd y221 (ji37)) (rd y221 (ji40)) (y221.length : Int) x58_2 true a5_0 a5_1 a6_0 a6_1 t212 t220)) else (trustquorumlaw35_AmountExact.j3 kj47 y221 (rd y221 x58_2) (rd y221 (ji37)) (rd y221 (ji40)) (y221.length : Int) x58_2 true a5_0 a5_1 a6_0 a6_1 t212 t220)) else (trustquorumlaw35_AmountExact.j3 kj47 y221 (rd y221 x58_2) (rd y221 (ji37)) (rd y221 (ji40)) (y221.length : Int) x58_2 true a5_0 a5_1 a6_0 a6_1 t212 t220)) else (trustquorumlaw35_AmountExact.j3 kj47 y221 (rd y221 x58_2) (rd y221 (ji37)) (rd y221 (ji40)) (y221.length : Int) x58_2 true a5_0 a5_1 a6_0 a6_1 t212 t220)))))) = some r := by rw [if_neg (show ¬ (false = true) by decide)] at H; exact H
                                      clear H
                                      have H := H1
                                      clear H1
                                      replace H := Option.bind_eq_some_iff.mp H
                                      obtain ⟨⟨t236, t237⟩, A590, H⟩ := H
                                      replace H : ((trustquorumref35_Sub.f (rd y221 x58_2) (rd y221 (ji37))).bind fun bt238 => ((amount_Reduce.f kj47 (rd y221 x58_2) (rd y221 (ji37))).bind fun bt240 => ((trustquorumref35_Reduce.f kj47 (rd y221 x58_2) (rd y221 (ji37))).bind fun bt242 => (if t236 = bt238.1 then (if t237 = bt238.2 then (if bt240.1 = bt242.1 then (if bt240.2 = bt242.2 then ((amount_Compare.f (rd y221 x58_2) (rd y221 (ji37)) (rd y221 (ji40)) (rd y221 (ji43))).bind fun t244 => ((trustquorumref35_Compare.f kj47 (rd y221 x58_2) (rd y221 (ji37)) (rd y221 (ji40)) (rd y221 (ji43))).bind fun t245 => (trustquorumlaw35_AmountExact.j3 kj47 y221 (rd y221 x58_2) (rd y221 (ji37)) (rd y221 (ji40)) (y221.length : Int) x58_2 (t244 != t245) a5_0 a5_1 a6_0 a6_1 t212 t220))) else (trustquorumlaw35_AmountExact.j3 kj47 y221 (rd y221 x58_2) (rd y221 (ji37)) (rd y221 (ji40)) (y221.length : Int) x58_2 true a5_0 a5_1 a6_0 a6_1 t212 t220)) else (trustquorumlaw35_AmountExact.j3 kj47 y221 (rd y221 x58_2) (rd y221 (ji37)) (rd y221 (ji40)) (y221.length : Int) x58_2 true a5_0 a5_1 a6_0 a6_1 t212 t220)) else (trustquorumlaw35_AmountExact.j3 kj47 y221 (rd y221 x58_2) (rd y221 (ji37)) (rd y221 (ji40)) (y221.length : Int) x58_2 true a5_0 a5_1 a6_0 a6_1 t212 t220)) else (trustquorumlaw35_AmountExact.j3 kj47 y221 (rd y221 x58_2) (rd y221 (ji37)) (rd y221 (ji40)) (y221.length : Int) x58_2 true a5_0 a5_1 a6_0 a6_1 t212 t220))))) = some r := H
                                      have A59 := Aside0.mk A590
                                      clear A590
                                      replace H := Option.bind_eq_some_iff.mp H
                                      obtain ⟨⟨t238, t239⟩, A600, H⟩ := H
                                      replace H : ((amount_Reduce.f kj47 (rd y221 x58_2) (rd y221 (ji37))).bind fun bt240 => ((trustquorumref35_Reduce.f kj47 (rd y221 x58_2) (rd y221 (ji37))).bind fun bt242 => (if t236 = t238 then (if t237 = t239 then (if bt240.1 = bt242.1 then (if bt240.2 = bt242.2 then ((amount_Compare.f (rd y221 x58_2) (rd y221 (ji37)) (rd y221 (ji40)) (rd y221 (ji43))).bind fun t244 => ((trustquorumref35_Compare.f kj47 (rd y221 x58_2) (rd y221 (ji37)) (rd y221 (ji40)) (rd y221 (ji43))).bind fun t245 => (trustquorumlaw35_AmountExact.j3 kj47 y221 (rd y221 x58_2) (rd y221 (ji37)) (rd y221 (ji40)) (y221.length : Int) x58_2 (t244 != t245) a5_0 a5_1 a6_0 a6_1 t212 t220))) else (trustquorumlaw35_AmountExact.j3 kj47 y221 (rd y221 x58_2) (rd y221 (ji37)) (rd y221 (ji40)) (y221.length : Int) x58_2 true a5_0 a5_1 a6_0 a6_1 t212 t220)) else (trustquorumlaw35_AmountExact.j3 kj47 y221 (rd y221 x58_2) (rd y221 (ji37)) (rd y221 (ji40)) (y221.length : Int) x58_2 true a5_0 a5_1 a6_0 a6_1 t212 t220)) else (trustquorumlaw35_AmountExact.j3 kj47 y221 (rd y221 x58_2) (rd y221 (ji37)) (rd y221 (ji40)) (y221.length : Int) x58_2 true a5_0 a5_1 a6_0 a6_1 t212 t220)) else (trustquorumlaw35_AmountExact.j3 kj47 y221 (rd y221 x58_2) (rd y221 (ji37)) (rd y221 (ji40)) (y221.length : Int) x58_2 true a5_0 a5_1 a6_0 a6_1 t212 t220)))) = some r := H
                                      have A60 := Aside0.mk A600
                                      clear A600
                                      replace H := Option.bind_eq_some_iff.mp H
                                      obtain ⟨⟨t240, t241⟩, A610, H⟩ := H
                                      replace H : ((trustquorumref35_Reduce.f kj47 (rd y221 x58_2) (rd y221 (ji37))).bind fun bt242 => (if t236 = t238 then (if t237 = t239 then (if t240 = bt242.1 then (if t241 = bt242.2 then ((amount_Compare.f (rd y221 x58_2) (rd y221 (ji37)) (rd y221 (ji40)) (rd y221 (ji43))).bind fun t244 => ((trustquorumref35_Compare.f kj47 (rd y221 x58_2) (rd y221 (ji37)) (rd y221 (ji40)) (rd y221 (ji43))).bind fun t245 => (trustquorumlaw35_AmountExact.j3 kj47 y221 (rd y221 x58_2) (rd y221 (ji37)) (rd y221 (ji40)) (y221.length : Int) x58_2 (t244 != t245) a5_0 a5_1 a6_0 a6_1 t212 t220))) else (trustquorumlaw35_AmountExact.j3 kj47 y221 (rd y221 x58_2) (rd y221 (ji37)) (rd y221 (ji40)) (y221.length : Int) x58_2 true a5_0 a5_1 a6_0 a6_1 t212 t220)) else (trustquorumlaw35_AmountExact.j3 kj47 y221 (rd y221 x58_2) (rd y221 (ji37)) (rd y221 (ji40)) (y221.length : Int) x58_2 true a5_0 a5_1 a6_0 a6_1 t212 t220)) else (trustquorumlaw35_AmountExact.j3 kj47 y221 (rd y221 x58_2) (rd y221 (ji37)) (rd y221 (ji40)) (y221.length : Int) x58_2 true a5_0 a5_1 a6_0 a6_1 t212 t220)) else (trustquorumlaw35_AmountExact.j3 kj47 y221 (rd y221 x58_2) (rd y221 (ji37)) (rd y221 (ji40)) (y221.length : Int) x58_2 true a5_0 a5_1 a6_0 a6_1 t212 t220))) = some r := H
                                      have A61 := Aside0.mk A610
                                      clear A610
                                      replace H := Option.bind_eq_some_iff.mp H
                                      obtain ⟨⟨t242, t243⟩, A620, H⟩ := H
                                      replace H : (if t236 = t238 then (if t237 = t239 then (if t240 = t242 then (if t241 = t243 then ((amount_Compare.f (rd y221 x58_2) (rd y221 (ji37)) (rd y221 (ji40)) (rd y221 (ji43))).bind fun t244 => ((trustquorumref35_Compare.f kj47 (rd y221 x58_2) (rd y221 (ji37)) (rd y221 (ji40)) (rd y221 (ji43))).bind fun t245 => (trustquorumlaw35_AmountExact.j3 kj47 y221 (rd y221 x58_2) (rd y221 (ji37)) (rd y221 (ji40)) (y221.length : Int) x58_2 (t244 != t245) a5_0 a5_1 a6_0 a6_1 t212 t220))) else (trustquorumlaw35_AmountExact.j3 kj47 y221 (rd y221 x58_2) (rd y221 (ji37)) (rd y221 (ji40)) (y221.length : Int) x58_2 true a5_0 a5_1 a6_0 a6_1 t212 t220)) else (trustquorumlaw35_AmountExact.j3 kj47 y221 (rd y221 x58_2) (rd y221 (ji37)) (rd y221 (ji40)) (y221.length : Int) x58_2 true a5_0 a5_1 a6_0 a6_1 t212 t220)) else (trustquorumlaw35_AmountExact.j3 kj47 y221 (rd y221 x58_2) (rd y221 (ji37)) (rd y221 (ji40)) (y221.length : Int) x58_2 true a5_0 a5_1 a6_0 a6_1 t212 t220)) else (trustquorumlaw35_AmountExact.j3 kj47 y221 (rd y221 x58_2) (rd y221 (ji37)) (rd y221 (ji40)) (y221.length : Int) x58_2 true a5_0 a5_1 a6_0 a6_1 t212 t220)) = some r := H
                                      have A62 := Aside0.mk A620
                                      clear A620
                                      have HC63 := Aside0.mk H
                                      clear H
                                      go_upto_region 17 with (first | ((with_reducible refine gate_callee (f := 14) rfl ?_); refine goesL_ (some 126) rfl rfl Try.func14 (by kernel_rfl) rfl #[.int .i64 (rd y221 x58_2), .int .i64 (rd y221 (ji37))] rfl (by (try simp only [List.map_toArray, List.map_cons, List.map_nil]); first | done | (simp only [hji37]; rfl) | rfl | (simp only [List.length_drop, List.length_take]; rfl)) ?_; (with_reducible refine (amount_Sub.calls kj47 (rd y221 x58_2) (rd y221 (ji37)) t236 t237 _ A59.out).mono ?_); rintro e w64 ⟨rfl, hb⟩; refine ⟨_, rfl, ?_⟩; have n0_ := Aside0.mk (Kd.R_below (by exact HO_16.out) hb); have n1_ := Aside0.mk (blk_below BK209.out hb); have n2_ := Aside0.mk (blk_below BK210.out hb); have n3_ := Aside0.mk (IsS52.below (by exact HI214.out) hb); have n4_ := Aside0.mk (below_step (by exact HB.out) hb); clear HO_16 BK209 BK210 HI214 HB; have HO_16 := n0_; have BK209 := n1_; have BK210 := n2_; have HI214 := n3_; have HB := n4_; clear n0_ n1_ n2_ n3_ n4_; (try clear hb); (try clear hb2); (try clear hk); (try clear hi)) | ((with_reducible refine gate_callee (f := 27) rfl ?_); refine goesL_ (some 132) rfl rfl Try.func27 (by kernel_rfl) rfl #[.int .i64 (rd y221 x58_2), .int .i64 (rd y221 (ji37))] rfl (by (try simp only [List.map_toArray, List.map_cons, List.map_nil]); first | done | (simp only [hji37]; rfl) | rfl | (simp only [List.length_drop, List.length_take]; rfl)) ?_; (with_reducible refine (trustquorumref35_Sub.calls (rd y221 x58_2) (rd y221 (ji37)) t238 t239 _ A60.out).mono ?_); rintro e w' ⟨rfl, ⟨nd, rfl⟩⟩; refine ⟨_, rfl, ?_⟩) | ((with_reducible refine gate_callee (f := 11) rfl ?_); refine goesL_ (some 138) rfl rfl Try.func11 (by kernel_rfl) rfl #[.int .i64 (rd y221 x58_2), .int .i64 (rd y221 (ji37))] rfl (by (try simp only [List.map_toArray, List.map_cons, List.map_nil]); first | done | (simp only [hji37]; rfl) | rfl | (simp only [List.length_drop, List.length_take]; rfl)) ?_; (with_reducible refine (amount_Reduce.calls kj47 (rd y221 x58_2) (rd y221 (ji37)) t240 t241 _ A61.out).mono ?_); rintro e w' ⟨rfl, ⟨nd, rfl⟩⟩; refine ⟨_, rfl, ?_⟩) | ((with_reducible refine gate_callee (f := 28) rfl ?_); refine goesL_ (some 144) rfl rfl Try.func28 (by kernel_rfl) rfl #[.int .i64 (rd y221 x58_2), .int .i64 (rd y221 (ji37))] rfl (by (try simp only [List.map_toArray, List.map_cons, List.map_nil]); first | done | (simp only [hji37]; rfl) | rfl | (simp only [List.length_drop, List.length_take]; rfl)) ?_; (with_reducible refine (trustquorumref35_Reduce.calls kj47 (rd y221 x58_2) (rd y221 (ji37)) t242 t243 _ A62.out).mono ?_); rintro e w' ⟨rfl, ⟨nd, rfl⟩⟩; refine ⟨_, rfl, ?_⟩))
                                      (try simp only [Act.put, List.setIfInBounds_toArray, List.set_cons_zero, List.set_cons_succ])
                                      go_cut [177] (fun v177 wc => ∃ (kq : Nat) (x177_62 : Bool), v177 = .bool x177_62 ∧ Aside0 (trustquorumlaw35_AmountExact.j3 kq y221 (rd y221 x58_2) (rd y221 (ji37)) (rd y221 (ji40)) (y221.length : Int) x58_2 x177_62 a5_0 a5_1 a6_0 a6_1 t212 t220 = some r) ∧ Aside0 (kq ≤ kj47) ∧ Aside0 (Kd.R (Kd.int .i64) 3 wc w.heap.size (fun _ => True) (.slice (some ad224) y221.length co30) y221) ∧ Aside0 (wc.heap[gb209]? = some (.cells #[.string a5_0, .int .i64 a5_1] 38 (0, 0))) ∧ Aside0 (wc.heap[gb210]? = some (.cells #[.string a6_0, .int .i64 a6_1] 38 (0, 0))) ∧ Aside0 (IsS52 w wc g214 t212 t220) ∧ Aside0 (Below w.heap.size w wc))
                                      case first =>
                                        have H := HC63.out
                                        clear HC63
                                        by_cases c65 : t236 = t238
                                        · rw [if_pos c65] at H
                                          have c65b0 : (t236 == t238) = true := beq_iff_eq.mpr c65
                                          have c65b1 : (t236 != t238) = false := bne_eq_false_iff_eq.mpr c65
                                          clear c65
                                          (first | rw [c65b0] | (simp only [i64_w, i32_w]; rw [c65b0]) | skip)
                                          by_cases c66 : t237 = t239
                                          · rw [if_pos c66] at H
                                            have c66b0 : (t237 == t239) = true := beq_iff_eq.mpr c66
                                            have c66b1 : (t237 != t239) = false := bne_eq_false_iff_eq.mpr c66
                                            clear c66
                                            by_cases c67 : t240 = t242
                                            · rw [if_pos c67] at H
                                              have c67b0 : (t240 == t242) = true := beq_iff_eq.mpr c67
                                              have c67b1 : (t240 != t242) = false := bne_eq_false_iff_eq.mpr c67
                                              clear c67
                                              by_cases c68 : t241 = t243
                                              · rw [if_pos c68] at H
                                                have c68b0 : (t241 == t243) = true := beq_iff_eq.mpr c68
                                                have c68b1 : (t241 != t243) = false := bne_eq_false_iff_eq.mpr c68
                                                clear c68
                                                replace H := Option.bind_eq_some_iff.mp H
                                                obtain ⟨t244, A690, H⟩ := H
                                                replace H : ((trustquorumref35_Compare.f kj47 (rd y221 x58_2) (rd y221 (ji37)) (rd y221 (ji40)) (rd y221 (ji43))).bind fun t245 => (trustquorumlaw35_AmountExact.j3 kj47 y221 (rd y221 x58_2) (rd y221 (ji37)) (rd y221 (ji40)) (y221.length : Int) x58_2 (t244 != t245) a5_0 a5_1 a6_0 a6_1 t212 t220)) = some r := H
                                                have A69 := Aside0.mk A690
                                                clear A690
                                                replace H := Option.bind_eq_some_iff.mp H
                                                obtain ⟨t245, A700, H⟩ := H
                                                replace H : (trustquorumlaw35_AmountExact.j3 kj47 y221 (rd y221 x58_2) (rd y221 (ji37)) (rd y221 (ji40)) (y221.length : Int) x58_2 (t244 != t245) a5_0 a5_1 a6_0 a6_1 t212 t220) = some r := H
                                                have A70 := Aside0.mk A700
                                                clear A700
                                                have H' := Aside0.mk H
                                                clear H
                                                go_wp2_with (first | (go_at_call 12; (with_reducible refine (amount_Compare.calls (rd y221 x58_2) (rd y221 (ji37)) (rd y221 (ji40)) (rd y221 (ji43)) t244 _ A69.out).mono ?_); rintro e w' ⟨rfl, ⟨nd, rfl⟩⟩) | (go_at_call 29; (with_reducible refine (trustquorumref35_Compare.calls kj47 (rd y221 x58_2) (rd y221 (ji37)) (rd y221 (ji40)) (rd y221 (ji43)) t245 _ A70.out).mono ?_); rintro e w' ⟨rfl, ⟨nd, rfl⟩⟩))
                                                go_meet
                                                case rel => exact ⟨_, ((t244 != t245)), (by first | rfl | (simp; done) | (simp [*]; done) | (refine congrArg (Value.int .i64) ?_; unfold wrap64; omega)), H', ⟨by have := HJ7.out; have := HK2.out; have := HJ47.out; first | omega | exact Nat.le_refl _⟩, ⟨by (with_reducible repeat (first | apply Kd.R_alloc | apply Kd.R_drewN | apply Kd.R_drew)); exact HO_16.out⟩, ⟨by (with_reducible repeat (first | refine blk_drewN ?_ _ | refine blk_drew ?_ | refine blk_alloc ?_ _)); exact BK209.out⟩, ⟨by (with_reducible repeat (first | refine blk_drewN ?_ _ | refine blk_drew ?_ | refine blk_alloc ?_ _)); exact BK210.out⟩, ⟨by repeat (first | (with_reducible first | exact HI214.out | apply IsS52.alloc | apply IsS52.drewN | apply IsS52.drew | apply IsS52.set_1 | refine IsS52.far ?_ NB214_209.out _ | refine IsS52.far ?_ NB214_210.out _) | exact HI214.out)⟩, ⟨by repeat (first | (with_reducible first | exact HB.out | apply below_alloc | apply pw_below_drewN | apply below_drew1 | refine below_set ?_ (IsS52.ge HI214.out) | refine below_set ?_ GE209.out | refine below_set ?_ GE210.out) | exact HB.out)⟩⟩
                                              · rw [if_neg c68] at H
                                                have c68b0 : (t241 == t243) = false := beq_eq_false_iff_ne.mpr c68
                                                have c68b1 : (t241 != t243) = true := bne_iff_ne.mpr c68
                                                cases kj47 with
                                                | zero => exact absurd H (by simp [trustquorumlaw35_AmountExact.j3])
                                                | succ kz_ => rw [trustquorumlaw35_AmountExact.j3, if_pos rfl] at H; exact absurd ((Option.some.inj H).trans HRT.out) (by decide)
                                            · rw [if_neg c67] at H
                                              have c67b0 : (t240 == t242) = false := beq_eq_false_iff_ne.mpr c67
                                              have c67b1 : (t240 != t242) = true := bne_iff_ne.mpr c67
                                              cases kj47 with
                                              | zero => exact absurd H (by simp [trustquorumlaw35_AmountExact.j3])
                                              | succ kz_ => rw [trustquorumlaw35_AmountExact.j3, if_pos rfl] at H; exact absurd ((Option.some.inj H).trans HRT.out) (by decide)
                                          · rw [if_neg c66] at H
                                            have c66b0 : (t237 == t239) = false := beq_eq_false_iff_ne.mpr c66
                                            have c66b1 : (t237 != t239) = true := bne_iff_ne.mpr c66
                                            cases kj47 with
                                            | zero => exact absurd H (by simp [trustquorumlaw35_AmountExact.j3])
                                            | succ kz_ => rw [trustquorumlaw35_AmountExact.j3, if_pos rfl] at H; exact absurd ((Option.some.inj H).trans HRT.out) (by decide)
                                        · rw [if_neg c65] at H
                                          have c65b0 : (t236 == t238) = false := beq_eq_false_iff_ne.mpr c65
                                          have c65b1 : (t236 != t238) = true := bne_iff_ne.mpr c65
                                          (first | rw [c65b0] | (simp only [i64_w, i32_w]; rw [c65b0]) | skip)
                                          cases kj47 with
                                          | zero => exact absurd H (by simp [trustquorumlaw35_AmountExact.j3])
                                          | succ kz_ => rw [trustquorumlaw35_AmountExact.j3, if_pos rfl] at H; exact absurd ((Option.some.inj H).trans HRT.out) (by decide)
                                      case rest =>
                                        clear HC63
                                        try clear c1
                                        try clear c2
                                        try clear p2
                                        try clear q2
                                        try clear hx2
                                        try clear c3
                                        try clear c4
                                        try clear c5
                                        try clear c6
                                        try clear p6
                                        try clear c7
                                        try clear c10
                                        try clear c11
                                        try clear c11b0
                                        try clear c11b1
                                        try clear c12
                                        try clear c13
                                        try clear c14
                                        try clear c15
                                        try clear c17
                                        try clear c20
                                        try clear c21
                                        try clear c22
                                        try clear p22
                                        try clear q22
                                        try clear hx22
                                        try clear c23
                                        try clear c24
                                        try clear c27
                                        try clear c28
                                        try clear c33
                                        try clear c33b0
                                        try clear c34
                                        try clear c34b0
                                        try clear c35
                                        try clear c35b0
                                        try clear c36
                                        try clear c36b0
                                        try clear c36b1
                                        try clear c36b2
                                        try clear c38
                                        try clear c38b0
                                        try clear c39
                                        try clear c39b0
                                        try clear c41
                                        try clear c41b0
                                        try clear c42
                                        try clear c42b0
                                        try clear c44
                                        try clear c44b0
                                        try clear c45
                                        try clear c45b0
                                        try clear c53
                                        try clear c53b0
                                        try clear c53b1
                                        try clear c53b2
                                        try clear c56
                                        try clear c56b0
                                        try clear c56b1
                                        try clear c56b2
                                        try clear c57
                                        try clear c57b0
                                        try clear c57b1
                                        try clear c58
                                        try clear p64
                                        try clear c65
                                        try clear c65b0
                                        try clear c65b1
                                        try clear c66
                                        try clear c66b0
                                        try clear c66b1
                                        try clear c67
                                        try clear c67b0
                                        try clear c67b1
                                        try clear c68
                                        try clear c68b0
                                        try clear c68b1
                                        try clear hcz13_0
                                        try clear hcz13_1
                                        try clear hcz15_0
                                        try clear hcz15_1
                                        try clear hcz16_0
                                        try clear hcz16_1
                                        try clear hfz13_0
                                        try clear hfz13_1
                                        try clear hfz15_0
                                        try clear hfz15_1
                                        try clear hfz16_0
                                        try clear hfz16_1
                                        try clear hx224_0
                                        try clear hx225_0
                                        try clear hx226_0
                                        try clear hx227_0
                                        try clear p2
                                        try clear p22
                                        try clear p224
                                        try clear p225
                                        try clear p226
                                        try clear p227
                                        try clear p6
                                        try clear q2
                                        try clear q22
                                        try clear q224
                                        try clear q225
                                        try clear q226
                                        try clear q227
                                        obtain ⟨kq, x177_62, rfl, HA, HJ62, HO_16, BK209, BK210, HI214, HB⟩ := hcut
                                        cases kq with
                                        | zero => exact absurd HA.out (by simp [trustquorumlaw35_AmountExact.j3])
                                        | succ kj62 =>
                                          have H := HA.out
                                          clear HA
                                          simp only [trustquorumlaw35_AmountExact.j3] at H
                                          by_cases c71 : x177_62 = true
                                          · subst c71
                                            have H1 : (some false) = some r := by rw [if_pos rfl] at H; exact H
                                            clear H
                                            have H := H1
                                            clear H1
                                            exact absurd ((Option.some.inj H).trans HRT.out) (by decide)
                                          · replace c71 := Bool.eq_false_iff.mpr c71
                                            subst c71
                                            have H1 : ((amount_Down.f kj62 (rd y221 x58_2) (rd y221 (ji37)) (rd y221 (ji40))).bind fun bt246 => ((trustquorumref35_Down.f (rd y221 x58_2) (rd y221 (ji37)) (rd y221 (ji40))).bind fun bt248 => (if bt246.1 = bt248.1 then (trustquorumlaw35_AmountExact.j4 kj62 y221 (rd y221 x58_2) (rd y221 (ji37)) (rd y221 (ji40)) (y221.length : Int) x58_2 (bt246.2 != bt248.2) a5_0 a5_1 a6_0 a6_1 t212 t220) else (trustquorumlaw35_AmountExact.j4 kj62 y221 (rd y221 x58_2) (rd y221 (ji37)) (rd y221 (ji40)) (y221.length : Int) x58_2 true a5_0 a5_1 a6_0 a6_1 t212 t220)))) = some r := by rw [if_neg (show ¬ (false = true) by decide)] at H; exact H
                                            clear H
                                            have H := H1
                                            clear H1
                                            replace H := Option.bind_eq_some_iff.mp H
                                            obtain ⟨⟨t246, t247⟩, A720, H⟩ := H
                                            replace H : ((trustquorumref35_Down.f (rd y221 x58_2) (rd y221 (ji37)) (rd y221 (ji40))).bind fun bt248 => (if t246 = bt248.1 then (trustquorumlaw35_AmountExact.j4 kj62 y221 (rd y221 x58_2) (rd y221 (ji37)) (rd y221 (ji40)) (y221.length : Int) x58_2 (t247 != bt248.2) a5_0 a5_1 a6_0 a6_1 t212 t220) else (trustquorumlaw35_AmountExact.j4 kj62 y221 (rd y221 x58_2) (rd y221 (ji37)) (rd y221 (ji40)) (y221.length : Int) x58_2 true a5_0 a5_1 a6_0 a6_1 t212 t220))) = some r := H
                                            have A72 := Aside0.mk A720
                                            clear A720
                                            replace H := Option.bind_eq_some_iff.mp H
                                            obtain ⟨⟨t248, t249⟩, A730, H⟩ := H
                                            replace H : (if t246 = t248 then (trustquorumlaw35_AmountExact.j4 kj62 y221 (rd y221 x58_2) (rd y221 (ji37)) (rd y221 (ji40)) (y221.length : Int) x58_2 (t247 != t249) a5_0 a5_1 a6_0 a6_1 t212 t220) else (trustquorumlaw35_AmountExact.j4 kj62 y221 (rd y221 x58_2) (rd y221 (ji37)) (rd y221 (ji40)) (y221.length : Int) x58_2 true a5_0 a5_1 a6_0 a6_1 t212 t220)) = some r := H
                                            have A73 := Aside0.mk A730
                                            clear A730
                                            have HC74 := Aside0.mk H
                                            clear H
                                            go_upto_region 21 with (first | ((with_reducible refine gate_callee (f := 8) rfl ?_); refine goesL_ (some 182) rfl rfl Try.func8 (by kernel_rfl) rfl #[.int .i64 (rd y221 x58_2), .int .i64 (rd y221 (ji37)), .int .i64 (rd y221 (ji40))] rfl (by (try simp only [List.map_toArray, List.map_cons, List.map_nil]); first | done | (simp only [hji37, hji40]; rfl) | rfl | (simp only [List.length_drop, List.length_take]; rfl)) ?_; (with_reducible refine (amount_Down.calls kj62 (rd y221 x58_2) (rd y221 (ji37)) (rd y221 (ji40)) t246 t247 _ A72.out).mono ?_); rintro e w75 ⟨rfl, hb⟩; refine ⟨_, rfl, ?_⟩; have n0_ := Aside0.mk (Kd.R_below (by exact HO_16.out) hb); have n1_ := Aside0.mk (blk_below BK209.out hb); have n2_ := Aside0.mk (blk_below BK210.out hb); have n3_ := Aside0.mk (IsS52.below (by exact HI214.out) hb); have n4_ := Aside0.mk (below_step (by exact HB.out) hb); clear HO_16 BK209 BK210 HI214 HB; have HO_16 := n0_; have BK209 := n1_; have BK210 := n2_; have HI214 := n3_; have HB := n4_; clear n0_ n1_ n2_ n3_ n4_; (try clear hb); (try clear hb2); (try clear hk); (try clear hi)) | ((with_reducible refine gate_callee (f := 30) rfl ?_); refine goesL_ (some 189) rfl rfl Try.func30 (by kernel_rfl) rfl #[.int .i64 (rd y221 x58_2), .int .i64 (rd y221 (ji37)), .int .i64 (rd y221 (ji40))] rfl (by (try simp only [List.map_toArray, List.map_cons, List.map_nil]); first | done | (simp only [hji37, hji40]; rfl) | rfl | (simp only [List.length_drop, List.length_take]; rfl)) ?_; (with_reducible refine (trustquorumref35_Down.calls (rd y221 x58_2) (rd y221 (ji37)) (rd y221 (ji40)) t248 t249 _ A73.out).mono ?_); rintro e w' ⟨rfl, ⟨nd, rfl⟩⟩; refine ⟨_, rfl, ?_⟩))
                                            (try simp only [Act.put, List.setIfInBounds_toArray, List.set_cons_zero, List.set_cons_succ])
                                            go_cut [199] (fun v199 wc => ∃ (kq : Nat) (x199_73 : Bool), v199 = .bool x199_73 ∧ Aside0 (trustquorumlaw35_AmountExact.j4 kq y221 (rd y221 x58_2) (rd y221 (ji37)) (rd y221 (ji40)) (y221.length : Int) x58_2 x199_73 a5_0 a5_1 a6_0 a6_1 t212 t220 = some r) ∧ Aside0 (kq ≤ kj62) ∧ Aside0 (Kd.R (Kd.int .i64) 3 wc w.heap.size (fun _ => True) (.slice (some ad224) y221.length co30) y221) ∧ Aside0 (wc.heap[gb209]? = some (.cells #[.string a5_0, .int .i64 a5_1] 38 (0, 0))) ∧ Aside0 (wc.heap[gb210]? = some (.cells #[.string a6_0, .int .i64 a6_1] 38 (0, 0))) ∧ Aside0 (IsS52 w wc g214 t212 t220) ∧ Aside0 (Below w.heap.size w wc))
                                            case first =>
                                              have H := HC74.out
                                              clear HC74
                                              by_cases c76 : t246 = t248
                                              · rw [if_pos c76] at H
                                                have c76b0 : (t246 == t248) = true := beq_iff_eq.mpr c76
                                                have c76b1 : (t246 != t248) = false := bne_eq_false_iff_eq.mpr c76
                                                clear c76
                                                (first | rw [c76b0] | (simp only [i64_w, i32_w]; rw [c76b0]) | skip)
                                                have H' := Aside0.mk H
                                                clear H
                                                go_wp2
                                                go_meet
                                                case rel => exact ⟨_, ((t247 != t249)), (by first | rfl | (simp; done) | (simp [*]; done) | (refine congrArg (Value.int .i64) ?_; unfold wrap64; omega)), H', ⟨by have := HJ7.out; have := HK2.out; have := HJ47.out; have := HJ62.out; first | omega | exact Nat.le_refl _⟩, ⟨by (with_reducible repeat (first | apply Kd.R_alloc | apply Kd.R_drewN | apply Kd.R_drew)); exact HO_16.out⟩, ⟨by (with_reducible repeat (first | refine blk_drewN ?_ _ | refine blk_drew ?_ | refine blk_alloc ?_ _)); exact BK209.out⟩, ⟨by (with_reducible repeat (first | refine blk_drewN ?_ _ | refine blk_drew ?_ | refine blk_alloc ?_ _)); exact BK210.out⟩, ⟨by repeat (first | (with_reducible first | exact HI214.out | apply IsS52.alloc | apply IsS52.drewN | apply IsS52.drew | apply IsS52.set_1 | refine IsS52.far ?_ NB214_209.out _ | refine IsS52.far ?_ NB214_210.out _) | exact HI214.out)⟩, ⟨by repeat (first | (with_reducible first | exact HB.out | apply below_alloc | apply pw_below_drewN | apply below_drew1 | refine below_set ?_ (IsS52.ge HI214.out) | refine below_set ?_ GE209.out | refine below_set ?_ GE210.out) | exact HB.out)⟩⟩
                                              · rw [if_neg c76] at H
                                                have c76b0 : (t246 == t248) = false := beq_eq_false_iff_ne.mpr c76
                                                have c76b1 : (t246 != t248) = true := bne_iff_ne.mpr c76
                                                (first | rw [c76b0] | (simp only [i64_w, i32_w]; rw [c76b0]) | skip)
                                                cases kj62 with
                                                | zero => exact absurd H (by simp [trustquorumlaw35_AmountExact.j4])
                                                | succ kz_ => rw [trustquorumlaw35_AmountExact.j4, if_pos rfl] at H; exact absurd ((Option.some.inj H).trans HRT.out) (by decide)
                                            case rest =>
                                              clear HC74
                                              try clear c1
                                              try clear c2
                                              try clear p2
                                              try clear q2
                                              try clear hx2
                                              try clear c3
                                              try clear c4
                                              try clear c5
                                              try clear c6
                                              try clear p6
                                              try clear c7
                                              try clear c8
                                              try clear c10
                                              try clear c11
                                              try clear c11b0
                                              try clear c11b1
                                              try clear c12
                                              try clear c13
                                              try clear c14
                                              try clear c15
                                              try clear c17
                                              try clear c20
                                              try clear c21
                                              try clear c22
                                              try clear p22
                                              try clear q22
                                              try clear hx22
                                              try clear c23
                                              try clear c24
                                              try clear c27
                                              try clear c28
                                              try clear c30
                                              try clear c33
                                              try clear c33b0
                                              try clear c34
                                              try clear c34b0
                                              try clear c35
                                              try clear c35b0
                                              try clear c36
                                              try clear c36b0
                                              try clear c36b1
                                              try clear c36b2
                                              try clear c38
                                              try clear c38b0
                                              try clear c39
                                              try clear c39b0
                                              try clear c41
                                              try clear c41b0
                                              try clear c42
                                              try clear c42b0
                                              try clear c44
                                              try clear c44b0
                                              try clear c45
                                              try clear c45b0
                                              try clear c53
                                              try clear c53b0
                                              try clear c53b1
                                              try clear c53b2
                                              try clear c56
                                              try clear c56b0
                                              try clear c56b1
                                              try clear c56b2
                                              try clear c57
                                              try clear c57b0
                                              try clear c57b1
                                              try clear c58
                                              try clear p64
                                              try clear c65
                                              try clear c65b0
                                              try clear c65b1
                                              try clear c66
                                              try clear c66b0
                                              try clear c66b1
                                              try clear c67
                                              try clear c67b0
                                              try clear c67b1
                                              try clear c68
                                              try clear c68b0
                                              try clear c68b1
                                              try clear c71
                                              try clear c76
                                              try clear c76b0
                                              try clear c76b1
                                              try clear hcz13_0
                                              try clear hcz13_1
                                              try clear hcz15_0
                                              try clear hcz15_1
                                              try clear hcz16_0
                                              try clear hcz16_1
                                              try clear hfz13_0
                                              try clear hfz13_1
                                              try clear hfz15_0
                                              try clear hfz15_1
                                              try clear hfz16_0
                                              try clear hfz16_1
                                              try clear hx224_0
                                              try clear hx225_0
                                              try clear hx226_0
                                              try clear hx227_0
                                              try clear p2
                                              try clear p22
                                              try clear p224
                                              try clear p225
                                              try clear p226
                                              try clear p227
                                              try clear p6
                                              try clear p64
                                              try clear q2
                                              try clear q22
                                              try clear q224
                                              try clear q225
                                              try clear q226
                                              try clear q227
                                              obtain ⟨kq, x199_73, rfl, HA, HJ73, HO_16, BK209, BK210, HI214, HB⟩ := hcut
                                              cases kq with
                                              | zero => exact absurd HA.out (by simp [trustquorumlaw35_AmountExact.j4])
                                              | succ kj73 =>
                                                have H := HA.out
                                                clear HA
                                                simp only [trustquorumlaw35_AmountExact.j4] at H
                                                by_cases c77 : x199_73 = true
                                                · subst c77
                                                  have H1 : (some false) = some r := by rw [if_pos rfl] at H; exact H
                                                  clear H
                                                  have H := H1
                                                  clear H1
                                                  exact absurd ((Option.some.inj H).trans HRT.out) (by decide)
                                                · replace c77 := Bool.eq_false_iff.mpr c77
                                                  subst c77
                                                  have H1 : ((amount_Up.f kj73 (rd y221 x58_2) (rd y221 (ji37)) (rd y221 (ji40))).bind fun bt250 => ((trustquorumref35_Up.f (rd y221 x58_2) (rd y221 (ji37)) (rd y221 (ji40))).bind fun bt252 => (if bt250.1 = bt252.1 then (if bt250.2 = bt252.2 then (trustquorumlaw35_AmountExact.l0 kj73 y221 (y221.length : Int) (wrap64 (x58_2 + 1)) a5_0 a5_1 a6_0 a6_1 t212 t220) else (some false)) else (some false)))) = some r := by rw [if_neg (show ¬ (false = true) by decide)] at H; exact H
                                                  clear H
                                                  have H := H1
                                                  clear H1
                                                  replace H := Option.bind_eq_some_iff.mp H
                                                  obtain ⟨⟨t250, t251⟩, A780, H⟩ := H
                                                  replace H : ((trustquorumref35_Up.f (rd y221 x58_2) (rd y221 (ji37)) (rd y221 (ji40))).bind fun bt252 => (if t250 = bt252.1 then (if t251 = bt252.2 then (trustquorumlaw35_AmountExact.l0 kj73 y221 (y221.length : Int) (wrap64 (x58_2 + 1)) a5_0 a5_1 a6_0 a6_1 t212 t220) else (some false)) else (some false))) = some r := H
                                                  have A78 := Aside0.mk A780
                                                  clear A780
                                                  replace H := Option.bind_eq_some_iff.mp H
                                                  obtain ⟨⟨t252, t253⟩, A790, H⟩ := H
                                                  replace H : (if t250 = t252 then (if t251 = t253 then (trustquorumlaw35_AmountExact.l0 kj73 y221 (y221.length : Int) (wrap64 (x58_2 + 1)) a5_0 a5_1 a6_0 a6_1 t212 t220) else (some false)) else (some false)) = some r := H
                                                  have A79 := Aside0.mk A790
                                                  clear A790
                                                  by_cases c80 : t250 = t252
                                                  · rw [if_pos c80] at H
                                                    have c80b0 : (t250 == t252) = true := beq_iff_eq.mpr c80
                                                    have c80b1 : (t250 != t252) = false := bne_eq_false_iff_eq.mpr c80
                                                    clear c80
                                                    by_cases c81 : t251 = t253
                                                    · rw [if_pos c81] at H
                                                      have c81b0 : (t251 == t253) = true := beq_iff_eq.mpr c81
                                                      have c81b1 : (t251 != t253) = false := bne_eq_false_iff_eq.mpr c81
                                                      clear c81
                                                      have H' := Aside0.mk H
                                                      clear H
                                                      go_wp2_with (first | ((with_reducible refine gate_callee (f := 9) rfl ?_); refine goesL_ (some 204) rfl rfl Try.func9 (by kernel_rfl) rfl #[.int .i64 (rd y221 x58_2), .int .i64 (rd y221 (ji37)), .int .i64 (rd y221 (ji40))] rfl (by (try simp only [List.map_toArray, List.map_cons, List.map_nil]); first | done | (simp only [hji37, hji40]; rfl) | rfl | (simp only [List.length_drop, List.length_take]; rfl)) ?_; (with_reducible refine (amount_Up.calls kj73 (rd y221 x58_2) (rd y221 (ji37)) (rd y221 (ji40)) t250 t251 _ A78.out).mono ?_); rintro e w82 ⟨rfl, hb⟩; refine ⟨_, rfl, ?_⟩; have n0_ := Aside0.mk (Kd.R_below (by exact HO_16.out) hb); have n1_ := Aside0.mk (blk_below BK209.out hb); have n2_ := Aside0.mk (blk_below BK210.out hb); have n3_ := Aside0.mk (IsS52.below (by exact HI214.out) hb); have n4_ := Aside0.mk (below_step (by exact HB.out) hb); clear HO_16 BK209 BK210 HI214 HB; have HO_16 := n0_; have BK209 := n1_; have BK210 := n2_; have HI214 := n3_; have HB := n4_; clear n0_ n1_ n2_ n3_ n4_; (try clear hb); (try clear hb2); (try clear hk); (try clear hi)) | ((with_reducible refine gate_callee (f := 31) rfl ?_); refine goesL_ (some 211) rfl rfl Try.func31 (by kernel_rfl) rfl #[.int .i64 (rd y221 x58_2), .int .i64 (rd y221 (ji37)), .int .i64 (rd y221 (ji40))] rfl (by (try simp only [List.map_toArray, List.map_cons, List.map_nil]); first | done | (simp only [hji37, hji40]; rfl) | rfl | (simp only [List.length_drop, List.length_take]; rfl)) ?_; (with_reducible refine (trustquorumref35_Up.calls (rd y221 x58_2) (rd y221 (ji37)) (rd y221 (ji40)) t252 t253 _ A79.out).mono ?_); rintro e w' ⟨rfl, ⟨nd, rfl⟩⟩; refine ⟨_, rfl, ?_⟩))
                                                      refine Handed.intro kj73 ?measure ?_
                                                      rotate_left
                                                      go_step
                                                      refine pickU ?v0_84 ?rel ?eq_83
                                                      (case eq_83 => rfl)
                                                      case measure => have := HJ7.out; have := HK2.out; have := HJ47.out; have := HJ62.out; have := HJ73.out; omega
                                                      case rel => exact ⟨(wrap64 (x58_2 + 1)), (by first | rfl | (simp; done) | (simp [*]; done) | (refine congrArg (Value.int .i64) ?_; unfold wrap64; omega)), H', ⟨by have := HJ7.out; have := HK2.out; have := HJ47.out; have := HJ62.out; have := HJ73.out; omega⟩, ⟨by (with_reducible repeat (first | apply Kd.R_alloc | apply Kd.R_drewN | apply Kd.R_drew)); exact HO_16.out⟩, ⟨by (with_reducible repeat (first | refine blk_drewN ?_ _ | refine blk_drew ?_ | refine blk_alloc ?_ _)); exact BK209.out⟩, ⟨by (with_reducible repeat (first | refine blk_drewN ?_ _ | refine blk_drew ?_ | refine blk_alloc ?_ _)); exact BK210.out⟩, ⟨by repeat (first | (with_reducible first | exact HI214.out | apply IsS52.alloc | apply IsS52.drewN | apply IsS52.drew | apply IsS52.set_1 | refine IsS52.far ?_ NB214_209.out _ | refine IsS52.far ?_ NB214_210.out _) | exact HI214.out)⟩, ⟨by repeat (first | (with_reducible first | exact HB.out | apply below_alloc | apply pw_below_drewN | apply below_drew1 | refine below_set ?_ (IsS52.ge HI214.out) | refine below_set ?_ GE209.out | refine below_set ?_ GE210.out) | exact HB.out)⟩⟩
                                                    · rw [if_neg c81] at H
                                                      have c81b0 : (t251 == t253) = false := beq_eq_false_iff_ne.mpr c81
                                                      have c81b1 : (t251 != t253) = true := bne_iff_ne.mpr c81
                                                      exact absurd ((Option.some.inj H).trans HRT.out) (by decide)
                                                  · rw [if_neg c80] at H
                                                    have c80b0 : (t250 == t252) = false := beq_eq_false_iff_ne.mpr c80
                                                    have c80b1 : (t250 != t252) = true := bne_iff_ne.mpr c80
                                                    exact absurd ((Option.some.inj H).trans HRT.out) (by decide)
                              · rw [if_neg c45] at H
                                exact absurd H (by simp)
                            · rw [if_neg c44] at H
                              exact absurd H (by simp)
                          · rw [if_neg c42] at H
                            exact absurd H (by simp)
                        · rw [if_neg c41] at H
                          exact absurd H (by simp)
                      · rw [if_neg c39] at H
                        exact absurd H (by simp)
                    · rw [if_neg c38] at H
                      exact absurd H (by simp)
                · rw [if_neg c35] at H
                  exact absurd H (by simp)
              · rw [if_neg c34] at H
                exact absurd H (by simp)
            · rw [if_neg c33] at H
              have c33b0 : decide (x58_2 < (y221.length : Int)) = false := decide_eq_false c33
              clear c33
              replace H := Option.bind_eq_some_iff.mp H
              obtain ⟨⟨t254, t255, t256⟩, A850, H⟩ := H
              replace H : ((trustquorumplay_Src_OddAsset.f t212 t256).bind fun bt257 => (trustquorumlaw35_AmountExact.l1 k2 [(⟨a5_0, a5_1⟩ : S38), (⟨a6_0, a6_1⟩ : S38), (⟨t254, t255⟩ : S38), (⟨bt257.1, bt257.2.1⟩ : S38)] 0 a5_0 a5_1)) = some r := H
              have A85 := Aside0.mk A850
              clear A850
              replace H := Option.bind_eq_some_iff.mp H
              obtain ⟨⟨t257, t258, t259⟩, A860, H⟩ := H
              replace H : (trustquorumlaw35_AmountExact.l1 k2 [(⟨a5_0, a5_1⟩ : S38), (⟨a6_0, a6_1⟩ : S38), (⟨t254, t255⟩ : S38), (⟨t257, t258⟩ : S38)] 0 a5_0 a5_1) = some r := H
              have A86 := Aside0.mk A860
              clear A860
              have H' := Aside0.mk H
              clear H
              try go_wp2
              have n0_ := Aside0.mk (Kd.R_drew HO_16.out)
              have n1_ := Aside0.mk (blk_drew BK209.out)
              have n2_ := Aside0.mk (blk_drew BK210.out)
              have n3_ := Aside0.mk (IsS52.drew HI214.out)
              have n4_ := Aside0.mk (below_drew1 HB.out)
              clear HO_16 BK209 BK210 HI214 HB
              have HO_16 := n0_
              have BK209 := n1_
              have BK210 := n2_
              have HI214 := n3_
              have HB := n4_
              clear n0_ n1_ n2_ n3_ n4_
              refine start_ (n := 8) (S := fun w' => w'.cell? ⟨gb209, 0, none⟩ = some (.string a5_0) ∧ w'.cell? ⟨gb209, 1, none⟩ = some (.int .i64 a5_1) ∧ w'.cell? ⟨gb210, 0, none⟩ = some (.string a6_0) ∧ w'.cell? ⟨gb210, 1, none⟩ = some (.int .i64 a6_1)) (ds := []) #[false, false, false, false, false, false, false, false] (by kernel_rfl) rfl rfl ⟨(blk_cell BK209.out 0).trans rfl, (blk_cell BK209.out 1).trans rfl, (blk_cell BK210.out 0).trans rfl, (blk_cell BK210.out 1).trans rfl⟩ (fun hHeld => ?_); refine with_tabW trustquorumlaw35_AmountExact.tab28 trustquorumlaw35_AmountExact.bits28 (fun HT_ HW_ => ?_)
              generalize wr.drew = w87 at HO_16 BK209 BK210 HI214 HB hHeld ⊢
              refine pure_ (i := 2) (N := some 225) (v := ?_) (a' := ?_) #[false, false, true, false, false, false, false, false] rfl rfl (any_of HT_.out (by kernel_rfl)) (fun _ _ _ h => h) (Or.inl ⟨by rfl, ?_⟩) ?_ ?_
              rotate_left
              · intro w'
                go_simp
                with_reducible rfl
              rotate_left
              · simp only [Act.put, List.setIfInBounds_toArray, List.set_cons_zero, List.set_cons_succ, i64_w, i32_w]
                rfl
              refine pure_ (i := 4) (N := some 227) (v := ?_) (a' := ?_) #[false, false, true, false, true, false, false, false] rfl rfl (any_of HT_.out (by kernel_rfl)) (fun _ _ _ h => h) (Or.inl ⟨by rfl, ?_⟩) ?_ ?_
              rotate_left
              · intro w'
                go_simp
                with_reducible rfl
              rotate_left
              · simp only [Act.put, List.setIfInBounds_toArray, List.set_cons_zero, List.set_cons_succ, i64_w, i32_w]
                rfl
              refine pure_ (i := 7) (N := some 230) (v := ?_) (a' := ?_) #[false, false, true, false, true, false, false, true] rfl rfl (any_of HT_.out (by kernel_rfl)) (fun _ _ _ h => h) (Or.inl ⟨by rfl, ?_⟩) ?_ ?_
              rotate_left
              · intro w'
                go_simp
                with_reducible rfl
              rotate_left
              · simp only [Act.put, List.setIfInBounds_toArray, List.set_cons_zero, List.set_cons_succ, i64_w, i32_w]
                rfl
              refine take_ (i := 0) (N := some 223) (v := ?_) (a' := ?_) #[true, false, true, false, true, false, false, true] rfl rfl (take_ofW HT_.out HW_.out (by kernel_rfl)) (fun _ _ _ h => h) (Or.inl ⟨by rfl, ?_⟩) hHeld ?_ ?_
              rotate_left
              · rintro w' ⟨s0, s1, s2, s3⟩
                go_simp
                with_reducible rfl
              rotate_left
              · simp only [Act.put, List.setIfInBounds_toArray, List.set_cons_zero, List.set_cons_succ, i64_w, i32_w]
                rfl
              refine take_ (i := 1) (N := some 224) (v := ?_) (a' := ?_) #[true, true, true, false, true, false, false, true] rfl rfl (take_ofW HT_.out HW_.out (by kernel_rfl)) (fun _ _ _ h => h) (Or.inl ⟨by rfl, ?_⟩) hHeld ?_ ?_
              rotate_left
              · rintro w' ⟨s0, s1, s2, s3⟩
                go_simp
                with_reducible rfl
              rotate_left
              · simp only [Act.put, List.setIfInBounds_toArray, List.set_cons_zero, List.set_cons_succ, i64_w, i32_w]
                rfl
              refine one_ (i := 3) (N := some 226) #[true, true, true, true, true, false, false, true] rfl rfl (one_of HT_.out (by kernel_rfl)) (by decide) (fun K hK => ?_)
              refine goes_ Try.func16 (by kernel_rfl) rfl #[.pointer (some ⟨g214, 0, none⟩)] (by rfl) rfl rfl (by (try simp only [List.map_toArray, List.map_cons, List.map_nil]); first | done | rfl | (simp only [List.length_drop, List.length_take]; rfl)) ?_
              with_reducible refine (trustquorumplay_Src_Asset.calls g214 t212 t220 t254 t255 t256 w _ ?side1 ?side2 A85.out).mono ?_
              (case side1 => exact HI214.out)
              (case side2 => exact HB.out)
              rintro e w88 ⟨rfl, hi, hb, hk⟩
              refine ⟨_, rfl, ?_⟩
              have n0_ := Aside0.mk (Kd.R_mono (Kd.R_keep (IsS52.apart (show IsS52 w _ g214 t212 t220 from by exact HI214.out) (by exact HO_16.out) (by decide)) hk (fun _ h => h.2)) (fun _ h => h.1))
              have n1_ := Aside0.mk (KeepBut.blk hk BK209.out NB209_214.out (by simp))
              have n2_ := Aside0.mk (KeepBut.blk hk BK210.out NB210_214.out (by simp))
              have n3_ := Aside0.mk (hb)
              have n4_ := Aside0.mk (hi)
              clear HO_16 BK209 BK210 HB HI214
              have HO_16 := n0_
              have BK209 := n1_
              have BK210 := n2_
              have HB := n3_
              have HI214 := n4_
              clear n0_ n1_ n2_ n3_ n4_
              (try clear hb)
              (try clear hb2)
              (try clear hk)
              (try clear hi)
              refine hK.out _ _ ⟨(blk_cell BK209.out 0).trans rfl, (blk_cell BK209.out 1).trans rfl, (blk_cell BK210.out 0).trans rfl, (blk_cell BK210.out 1).trans rfl⟩ (fun hHeld => ?_)
              clear hK K
              refine norm_ (a' := ?_) ?_ ?_
              rotate_left
              · show Act.put _ (some 226) _ = _
                simp only [Act.put, List.setIfInBounds_toArray, List.set_cons_zero, List.set_cons_succ, i64_w, i32_w]
                rfl
              refine one_ (i := 5) (N := some 228) #[true, true, true, true, true, true, false, true] rfl rfl (one_of HT_.out (by kernel_rfl)) (by decide) (fun K hK => ?_)
              refine goes_ Try.func32 (by kernel_rfl) rfl #[.pointer (some ⟨g214, 0, none⟩)] (by rfl) rfl rfl (by (try simp only [List.map_toArray, List.map_cons, List.map_nil]); first | done | rfl | (simp only [List.length_drop, List.length_take]; rfl)) ?_
              with_reducible refine (trustquorumplay_Src_OddAsset.calls g214 t212 t256 t257 t258 t259 w _ ?side1 ?side2 A86.out).mono ?_
              (case side1 => exact HI214.out)
              (case side2 => exact HB.out)
              rintro e w89 ⟨rfl, hi, hb, hk⟩
              refine ⟨_, rfl, ?_⟩
              have n0_ := Aside0.mk (Kd.R_mono (Kd.R_keep (IsS52.apart (show IsS52 w _ g214 t212 t256 from by exact HI214.out) (by exact HO_16.out) (by decide)) hk (fun _ h => h.2)) (fun _ h => h.1))
              have n1_ := Aside0.mk (KeepBut.blk hk BK209.out NB209_214.out (by simp))
              have n2_ := Aside0.mk (KeepBut.blk hk BK210.out NB210_214.out (by simp))
              have n3_ := Aside0.mk (hb)
              have n4_ := Aside0.mk (hi)
              clear HO_16 BK209 BK210 HB HI214
              have HO_16 := n0_
              have BK209 := n1_
              have BK210 := n2_
              have HB := n3_
              have HI214 := n4_
              clear n0_ n1_ n2_ n3_ n4_
              (try clear hb)
              (try clear hb2)
              (try clear hk)
              (try clear hi)
              refine hK.out _ _ ⟨(blk_cell BK209.out 0).trans rfl, (blk_cell BK209.out 1).trans rfl, (blk_cell BK210.out 0).trans rfl, (blk_cell BK210.out 1).trans rfl⟩ (fun hHeld => ?_)
              clear hK K
              refine norm_ (a' := ?_) ?_ ?_
              rotate_left
              · show Act.put _ (some 228) _ = _
                simp only [Act.put, List.setIfInBounds_toArray, List.set_cons_zero, List.set_cons_succ, i64_w, i32_w]
                rfl
              refine pure_ (i := 6) (N := some 229) (v := ?_) (a' := ?_) #[true, true, true, true, true, true, true, true] rfl rfl (any_of HT_.out (by kernel_rfl)) (fun _ _ _ h => h) (Or.inl ⟨by rfl, ?_⟩) ?_ ?_
              rotate_left
              · intro w'
                go_simp
                with_reducible rfl
              rotate_left
              · simp only [Act.put, List.setIfInBounds_toArray, List.set_cons_zero, List.set_cons_succ, i64_w, i32_w]
                rfl
              refine done_ (done_of HT_.out (by kernel_rfl)) ?_
              try go_wp2
              go_loopg [230] k2 (fun kq v230 w' => ∃ (x230_3 : Int), v230 = .int .i64 x230_3 ∧ Aside0 (trustquorumlaw35_AmountExact.l1 kq [(⟨a5_0, a5_1⟩ : S38), (⟨a6_0, a6_1⟩ : S38), (⟨t254, t255⟩ : S38), (⟨t257, t258⟩ : S38)] x230_3 a5_0 a5_1 = some r) ∧ Aside0 (kq ≤ k2) ∧ Aside0 (w'.heap[gb209]? = some (.cells #[.string a5_0, .int .i64 a5_1] 38 (0, 0))) ∧ Aside0 (Below w.heap.size w w'))
              case atStart => exact ⟨(0), (by first | rfl | (simp; done) | (simp [*]; done) | (refine congrArg (Value.int .i64) ?_; unfold wrap64; omega)), H', ⟨Nat.le_refl _⟩, ⟨by exact BK209.out⟩, ⟨by exact HB.out⟩⟩
              case round =>
                clear H'
                try clear c1
                try clear c2
                try clear p2
                try clear q2
                try clear hx2
                try clear c3
                try clear c4
                try clear c5
                try clear c6
                try clear p6
                try clear c7
                try clear c8
                try clear c9
                try clear c10
                try clear c11
                try clear c11b0
                try clear c11b1
                try clear c12
                try clear c13
                try clear c14
                try clear c15
                try clear c16
                try clear c17
                try clear c20
                try clear c21
                try clear c22
                try clear p22
                try clear q22
                try clear hx22
                try clear c23
                try clear c24
                try clear c27
                try clear c28
                try clear c30
                try clear c31
                try clear c32
                try clear c33
                try clear c33b0
                try clear c34
                try clear c34b0
                try clear c35
                try clear c35b0
                try clear c36
                try clear c36b0
                try clear c36b1
                try clear c36b2
                try clear c38
                try clear c38b0
                try clear c39
                try clear c39b0
                try clear c41
                try clear c41b0
                try clear c42
                try clear c42b0
                try clear c44
                try clear c44b0
                try clear c45
                try clear c45b0
                try clear c53
                try clear c53b0
                try clear c53b1
                try clear c53b2
                try clear c56
                try clear c56b0
                try clear c56b1
                try clear c56b2
                try clear c57
                try clear c57b0
                try clear c57b1
                try clear c58
                try clear p64
                try clear c65
                try clear c65b0
                try clear c65b1
                try clear c66
                try clear c66b0
                try clear c66b1
                try clear c67
                try clear c67b0
                try clear c67b1
                try clear c68
                try clear c68b0
                try clear c68b1
                try clear c71
                try clear c76
                try clear c76b0
                try clear c76b1
                try clear c77
                try clear c80
                try clear c80b0
                try clear c80b1
                try clear c81
                try clear c81b0
                try clear c81b1
                try clear hcz13_0
                try clear hcz13_1
                try clear hcz15_0
                try clear hcz15_1
                try clear hcz16_0
                try clear hcz16_1
                try clear hfz13_0
                try clear hfz13_1
                try clear hfz15_0
                try clear hfz15_1
                try clear hfz16_0
                try clear hfz16_1
                try clear hx224_0
                try clear hx225_0
                try clear hx226_0
                try clear hx227_0
                try clear p2
                try clear p22
                try clear p224
                try clear p225
                try clear p226
                try clear p227
                try clear p6
                try clear p64
                try clear q2
                try clear q22
                try clear q224
                try clear q225
                try clear q226
                try clear q227
                obtain ⟨x230_3, rfl, HA, HK3, BK209, HB⟩ := hrel
                cases gk with
                | zero => exact absurd HA.out (by simp [trustquorumlaw35_AmountExact.l1])
                | succ k3 =>
                  have H := HA.out
                  clear HA
                  simp only [trustquorumlaw35_AmountExact.l1] at H
                  by_cases c90 : x230_3 < 4
                  · rw [if_pos c90] at H
                    have c90b0 : decide (x230_3 < 4) = true := decide_eq_true c90
                    clear c90
                    by_cases c91 : 0 ≤ x230_3
                    · rw [if_pos c91] at H
                      have c91b0 : decide (0 ≤ x230_3) = true := decide_eq_true c91
                      clear c91
                      replace H := Option.bind_eq_some_iff.mp H
                      obtain ⟨t262, A930, H⟩ := H
                      replace H : ((trustquorumref35_Asset.f k3 ((rd_T38 [(⟨a5_0, a5_1⟩ : S38), (⟨a6_0, a6_1⟩ : S38), (⟨t254, t255⟩ : S38), (⟨t257, t258⟩ : S38)] x230_3).f0) ((rd_T38 [(⟨a5_0, a5_1⟩ : S38), (⟨a6_0, a6_1⟩ : S38), (⟨t254, t255⟩ : S38), (⟨t257, t258⟩ : S38)] x230_3).f1)).bind fun t263 => (if (t262 != t263) = true then (some false) else ((amount_Native.f ((rd_T38 [(⟨a5_0, a5_1⟩ : S38), (⟨a6_0, a6_1⟩ : S38), (⟨t254, t255⟩ : S38), (⟨t257, t258⟩ : S38)] x230_3).f0) ((rd_T38 [(⟨a5_0, a5_1⟩ : S38), (⟨a6_0, a6_1⟩ : S38), (⟨t254, t255⟩ : S38), (⟨t257, t258⟩ : S38)] x230_3).f1)).bind fun t264 => ((trustquorumref35_Native.f ((rd_T38 [(⟨a5_0, a5_1⟩ : S38), (⟨a6_0, a6_1⟩ : S38), (⟨t254, t255⟩ : S38), (⟨t257, t258⟩ : S38)] x230_3).f0) ((rd_T38 [(⟨a5_0, a5_1⟩ : S38), (⟨a6_0, a6_1⟩ : S38), (⟨t254, t255⟩ : S38), (⟨t257, t258⟩ : S38)] x230_3).f1)).bind fun t265 => (if (t264 != t265) = true then (some false) else ((amount_Less.f k3 ((rd_T38 [(⟨a5_0, a5_1⟩ : S38), (⟨a6_0, a6_1⟩ : S38), (⟨t254, t255⟩ : S38), (⟨t257, t258⟩ : S38)] x230_3).f0) ((rd_T38 [(⟨a5_0, a5_1⟩ : S38), (⟨a6_0, a6_1⟩ : S38), (⟨t254, t255⟩ : S38), (⟨t257, t258⟩ : S38)] x230_3).f1) a5_0 a5_1).bind fun t266 => ((trustquorumref35_Less.f ((rd_T38 [(⟨a5_0, a5_1⟩ : S38), (⟨a6_0, a6_1⟩ : S38), (⟨t254, t255⟩ : S38), (⟨t257, t258⟩ : S38)] x230_3).f0) ((rd_T38 [(⟨a5_0, a5_1⟩ : S38), (⟨a6_0, a6_1⟩ : S38), (⟨t254, t255⟩ : S38), (⟨t257, t258⟩ : S38)] x230_3).f1) a5_0 a5_1).bind fun t267 => (if (t266 != t267) = true then (some false) else ((amount_Less.f k3 a5_0 a5_1 ((rd_T38 [(⟨a5_0, a5_1⟩ : S38), (⟨a6_0, a6_1⟩ : S38), (⟨t254, t255⟩ : S38), (⟨t257, t258⟩ : S38)] x230_3).f0) ((rd_T38 [(⟨a5_0, a5_1⟩ : S38), (⟨a6_0, a6_1⟩ : S38), (⟨t254, t255⟩ : S38), (⟨t257, t258⟩ : S38)] x230_3).f1)).bind fun t268 => ((trustquorumref35_Less.f a5_0 a5_1 ((rd_T38 [(⟨a5_0, a5_1⟩ : S38), (⟨a6_0, a6_1⟩ : S38), (⟨t254, t255⟩ : S38), (⟨t257, t258⟩ : S38)] x230_3).f0) ((rd_T38 [(⟨a5_0, a5_1⟩ : S38), (⟨a6_0, a6_1⟩ : S38), (⟨t254, t255⟩ : S38), (⟨t257, t258⟩ : S38)] x230_3).f1)).bind fun t269 => (if (t268 != t269) = true then (some false) else (trustquorumlaw35_AmountExact.l1 k3 [(⟨a5_0, a5_1⟩ : S38), (⟨a6_0, a6_1⟩ : S38), (⟨t254, t255⟩ : S38), (⟨t257, t258⟩ : S38)] (wrap64 (x230_3 + 1)) a5_0 a5_1)))))))))))) = some r := H
                      have A93 := Aside0.mk A930
                      clear A930
                      replace H := Option.bind_eq_some_iff.mp H
                      obtain ⟨t263, A940, H⟩ := H
                      replace H : (if (t262 != t263) = true then (some false) else ((amount_Native.f ((rd_T38 [(⟨a5_0, a5_1⟩ : S38), (⟨a6_0, a6_1⟩ : S38), (⟨t254, t255⟩ : S38), (⟨t257, t258⟩ : S38)] x230_3).f0) ((rd_T38 [(⟨a5_0, a5_1⟩ : S38), (⟨a6_0, a6_1⟩ : S38), (⟨t254, t255⟩ : S38), (⟨t257, t258⟩ : S38)] x230_3).f1)).bind fun t264 => ((trustquorumref35_Native.f ((rd_T38 [(⟨a5_0, a5_1⟩ : S38), (⟨a6_0, a6_1⟩ : S38), (⟨t254, t255⟩ : S38), (⟨t257, t258⟩ : S38)] x230_3).f0) ((rd_T38 [(⟨a5_0, a5_1⟩ : S38), (⟨a6_0, a6_1⟩ : S38), (⟨t254, t255⟩ : S38), (⟨t257, t258⟩ : S38)] x230_3).f1)).bind fun t265 => (if (t264 != t265) = true then (some false) else ((amount_Less.f k3 ((rd_T38 [(⟨a5_0, a5_1⟩ : S38), (⟨a6_0, a6_1⟩ : S38), (⟨t254, t255⟩ : S38), (⟨t257, t258⟩ : S38)] x230_3).f0) ((rd_T38 [(⟨a5_0, a5_1⟩ : S38), (⟨a6_0, a6_1⟩ : S38), (⟨t254, t255⟩ : S38), (⟨t257, t258⟩ : S38)] x230_3).f1) a5_0 a5_1).bind fun t266 => ((trustquorumref35_Less.f ((rd_T38 [(⟨a5_0, a5_1⟩ : S38), (⟨a6_0, a6_1⟩ : S38), (⟨t254, t255⟩ : S38), (⟨t257, t258⟩ : S38)] x230_3).f0) ((rd_T38 [(⟨a5_0, a5_1⟩ : S38), (⟨a6_0, a6_1⟩ : S38), (⟨t254, t255⟩ : S38), (⟨t257, t258⟩ : S38)] x230_3).f1) a5_0 a5_1).bind fun t267 => (if (t266 != t267) = true then (some false) else ((amount_Less.f k3 a5_0 a5_1 ((rd_T38 [(⟨a5_0, a5_1⟩ : S38), (⟨a6_0, a6_1⟩ : S38), (⟨t254, t255⟩ : S38), (⟨t257, t258⟩ : S38)] x230_3).f0) ((rd_T38 [(⟨a5_0, a5_1⟩ : S38), (⟨a6_0, a6_1⟩ : S38), (⟨t254, t255⟩ : S38), (⟨t257, t258⟩ : S38)] x230_3).f1)).bind fun t268 => ((trustquorumref35_Less.f a5_0 a5_1 ((rd_T38 [(⟨a5_0, a5_1⟩ : S38), (⟨a6_0, a6_1⟩ : S38), (⟨t254, t255⟩ : S38), (⟨t257, t258⟩ : S38)] x230_3).f0) ((rd_T38 [(⟨a5_0, a5_1⟩ : S38), (⟨a6_0, a6_1⟩ : S38), (⟨t254, t255⟩ : S38), (⟨t257, t258⟩ : S38)] x230_3).f1)).bind fun t269 => (if (t268 != t269) = true then (some false) else (trustquorumlaw35_AmountExact.l1 k3 [(⟨a5_0, a5_1⟩ : S38), (⟨a6_0, a6_1⟩ : S38), (⟨t254, t255⟩ : S38), (⟨t257, t258⟩ : S38)] (wrap64 (x230_3 + 1)) a5_0 a5_1))))))))))) = some r := H
                      have A94 := Aside0.mk A940
                      clear A940
                      by_cases c95 : (t262 != t263) = true
                      · rw [if_pos c95] at H
                        have c95b0 : (t262 != t263) = true := c95
                        (try (have c95b1 : decide (t262 = t263) = false := by simpa using c95))
                        (try (have c95b2 : (t262 == t263) = false := by simpa using c95))
                        (try (have c95b3 : ¬ (t262 = t263) := by simpa using c95))
                        clear c95
                        exact absurd ((Option.some.inj H).trans HRT.out) (by decide)
                      · rw [if_neg c95] at H
                        have c95b0 : (t262 != t263) = false := by simpa using c95
                        (try (have c95b1 : decide (t262 = t263) = true := by simpa using c95))
                        (try (have c95b2 : (t262 == t263) = true := by simpa using c95))
                        clear c95
                        replace H := Option.bind_eq_some_iff.mp H
                        obtain ⟨t264, A960, H⟩ := H
                        replace H : ((trustquorumref35_Native.f ((rd_T38 [(⟨a5_0, a5_1⟩ : S38), (⟨a6_0, a6_1⟩ : S38), (⟨t254, t255⟩ : S38), (⟨t257, t258⟩ : S38)] x230_3).f0) ((rd_T38 [(⟨a5_0, a5_1⟩ : S38), (⟨a6_0, a6_1⟩ : S38), (⟨t254, t255⟩ : S38), (⟨t257, t258⟩ : S38)] x230_3).f1)).bind fun t265 => (if (t264 != t265) = true then (some false) else ((amount_Less.f k3 ((rd_T38 [(⟨a5_0, a5_1⟩ : S38), (⟨a6_0, a6_1⟩ : S38), (⟨t254, t255⟩ : S38), (⟨t257, t258⟩ : S38)] x230_3).f0) ((rd_T38 [(⟨a5_0, a5_1⟩ : S38), (⟨a6_0, a6_1⟩ : S38), (⟨t254, t255⟩ : S38), (⟨t257, t258⟩ : S38)] x230_3).f1) a5_0 a5_1).bind fun t266 => ((trustquorumref35_Less.f ((rd_T38 [(⟨a5_0, a5_1⟩ : S38), (⟨a6_0, a6_1⟩ : S38), (⟨t254, t255⟩ : S38), (⟨t257, t258⟩ : S38)] x230_3).f0) ((rd_T38 [(⟨a5_0, a5_1⟩ : S38), (⟨a6_0, a6_1⟩ : S38), (⟨t254, t255⟩ : S38), (⟨t257, t258⟩ : S38)] x230_3).f1) a5_0 a5_1).bind fun t267 => (if (t266 != t267) = true then (some false) else ((amount_Less.f k3 a5_0 a5_1 ((rd_T38 [(⟨a5_0, a5_1⟩ : S38), (⟨a6_0, a6_1⟩ : S38), (⟨t254, t255⟩ : S38), (⟨t257, t258⟩ : S38)] x230_3).f0) ((rd_T38 [(⟨a5_0, a5_1⟩ : S38), (⟨a6_0, a6_1⟩ : S38), (⟨t254, t255⟩ : S38), (⟨t257, t258⟩ : S38)] x230_3).f1)).bind fun t268 => ((trustquorumref35_Less.f a5_0 a5_1 ((rd_T38 [(⟨a5_0, a5_1⟩ : S38), (⟨a6_0, a6_1⟩ : S38), (⟨t254, t255⟩ : S38), (⟨t257, t258⟩ : S38)] x230_3).f0) ((rd_T38 [(⟨a5_0, a5_1⟩ : S38), (⟨a6_0, a6_1⟩ : S38), (⟨t254, t255⟩ : S38), (⟨t257, t258⟩ : S38)] x230_3).f1)).bind fun t269 => (if (t268 != t269) = true then (some false) else (trustquorumlaw35_AmountExact.l1 k3 [(⟨a5_0, a5_1⟩ : S38), (⟨a6_0, a6_1⟩ : S38), (⟨t254, t255⟩ : S38), (⟨t257, t258⟩ : S38)] (wrap64 (x230_3 + 1)) a5_0 a5_1))))))))) = some r := H
                        have A96 := Aside0.mk A960
                        clear A960
                        replace H := Option.bind_eq_some_iff.mp H
                        obtain ⟨t265, A970, H⟩ := H
                        replace H : (if (t264 != t265) = true then (some false) else ((amount_Less.f k3 ((rd_T38 [(⟨a5_0, a5_1⟩ : S38), (⟨a6_0, a6_1⟩ : S38), (⟨t254, t255⟩ : S38), (⟨t257, t258⟩ : S38)] x230_3).f0) ((rd_T38 [(⟨a5_0, a5_1⟩ : S38), (⟨a6_0, a6_1⟩ : S38), (⟨t254, t255⟩ : S38), (⟨t257, t258⟩ : S38)] x230_3).f1) a5_0 a5_1).bind fun t266 => ((trustquorumref35_Less.f ((rd_T38 [(⟨a5_0, a5_1⟩ : S38), (⟨a6_0, a6_1⟩ : S38), (⟨t254, t255⟩ : S38), (⟨t257, t258⟩ : S38)] x230_3).f0) ((rd_T38 [(⟨a5_0, a5_1⟩ : S38), (⟨a6_0, a6_1⟩ : S38), (⟨t254, t255⟩ : S38), (⟨t257, t258⟩ : S38)] x230_3).f1) a5_0 a5_1).bind fun t267 => (if (t266 != t267) = true then (some false) else ((amount_Less.f k3 a5_0 a5_1 ((rd_T38 [(⟨a5_0, a5_1⟩ : S38), (⟨a6_0, a6_1⟩ : S38), (⟨t254, t255⟩ : S38), (⟨t257, t258⟩ : S38)] x230_3).f0) ((rd_T38 [(⟨a5_0, a5_1⟩ : S38), (⟨a6_0, a6_1⟩ : S38), (⟨t254, t255⟩ : S38), (⟨t257, t258⟩ : S38)] x230_3).f1)).bind fun t268 => ((trustquorumref35_Less.f a5_0 a5_1 ((rd_T38 [(⟨a5_0, a5_1⟩ : S38), (⟨a6_0, a6_1⟩ : S38), (⟨t254, t255⟩ : S38), (⟨t257, t258⟩ : S38)] x230_3).f0) ((rd_T38 [(⟨a5_0, a5_1⟩ : S38), (⟨a6_0, a6_1⟩ : S38), (⟨t254, t255⟩ : S38), (⟨t257, t258⟩ : S38)] x230_3).f1)).bind fun t269 => (if (t268 != t269) = true then (some false) else (trustquorumlaw35_AmountExact.l1 k3 [(⟨a5_0, a5_1⟩ : S38), (⟨a6_0, a6_1⟩ : S38), (⟨t254, t255⟩ : S38), (⟨t257, t258⟩ : S38)] (wrap64 (x230_3 + 1)) a5_0 a5_1)))))))) = some r := H
                        have A97 := Aside0.mk A970
                        clear A970
                        by_cases c98 : (t264 != t265) = true
                        · rw [if_pos c98] at H
                          have c98b0 : (t264 != t265) = true := c98
                          (try (have c98b1 : decide (t264 = t265) = false := by simpa using c98))
                          (try (have c98b2 : (t264 == t265) = false := by simpa using c98))
                          (try (have c98b3 : ¬ (t264 = t265) := by simpa using c98))
                          clear c98
                          exact absurd ((Option.some.inj H).trans HRT.out) (by decide)
                        · rw [if_neg c98] at H
                          have c98b0 : (t264 != t265) = false := by simpa using c98
                          (try (have c98b1 : decide (t264 = t265) = true := by simpa using c98))
                          (try (have c98b2 : (t264 == t265) = true := by simpa using c98))
                          clear c98
                          replace H := Option.bind_eq_some_iff.mp H
                          obtain ⟨t266, A990, H⟩ := H
                          replace H : ((trustquorumref35_Less.f ((rd_T38 [(⟨a5_0, a5_1⟩ : S38), (⟨a6_0, a6_1⟩ : S38), (⟨t254, t255⟩ : S38), (⟨t257, t258⟩ : S38)] x230_3).f0) ((rd_T38 [(⟨a5_0, a5_1⟩ : S38), (⟨a6_0, a6_1⟩ : S38), (⟨t254, t255⟩ : S38), (⟨t257, t258⟩ : S38)] x230_3).f1) a5_0 a5_1).bind fun t267 => (if (t266 != t267) = true then (some false) else ((amount_Less.f k3 a5_0 a5_1 ((rd_T38 [(⟨a5_0, a5_1⟩ : S38), (⟨a6_0, a6_1⟩ : S38), (⟨t254, t255⟩ : S38), (⟨t257, t258⟩ : S38)] x230_3).f0) ((rd_T38 [(⟨a5_0, a5_1⟩ : S38), (⟨a6_0, a6_1⟩ : S38), (⟨t254, t255⟩ : S38), (⟨t257, t258⟩ : S38)] x230_3).f1)).bind fun t268 => ((trustquorumref35_Less.f a5_0 a5_1 ((rd_T38 [(⟨a5_0, a5_1⟩ : S38), (⟨a6_0, a6_1⟩ : S38), (⟨t254, t255⟩ : S38), (⟨t257, t258⟩ : S38)] x230_3).f0) ((rd_T38 [(⟨a5_0, a5_1⟩ : S38), (⟨a6_0, a6_1⟩ : S38), (⟨t254, t255⟩ : S38), (⟨t257, t258⟩ : S38)] x230_3).f1)).bind fun t269 => (if (t268 != t269) = true then (some false) else (trustquorumlaw35_AmountExact.l1 k3 [(⟨a5_0, a5_1⟩ : S38), (⟨a6_0, a6_1⟩ : S38), (⟨t254, t255⟩ : S38), (⟨t257, t258⟩ : S38)] (wrap64 (x230_3 + 1)) a5_0 a5_1)))))) = some r := H
                          have A99 := Aside0.mk A990
                          clear A990
                          replace H := Option.bind_eq_some_iff.mp H
                          obtain ⟨t267, A1000, H⟩ := H
                          replace H : (if (t266 != t267) = true then (some false) else ((amount_Less.f k3 a5_0 a5_1 ((rd_T38 [(⟨a5_0, a5_1⟩ : S38), (⟨a6_0, a6_1⟩ : S38), (⟨t254, t255⟩ : S38), (⟨t257, t258⟩ : S38)] x230_3).f0) ((rd_T38 [(⟨a5_0, a5_1⟩ : S38), (⟨a6_0, a6_1⟩ : S38), (⟨t254, t255⟩ : S38), (⟨t257, t258⟩ : S38)] x230_3).f1)).bind fun t268 => ((trustquorumref35_Less.f a5_0 a5_1 ((rd_T38 [(⟨a5_0, a5_1⟩ : S38), (⟨a6_0, a6_1⟩ : S38), (⟨t254, t255⟩ : S38), (⟨t257, t258⟩ : S38)] x230_3).f0) ((rd_T38 [(⟨a5_0, a5_1⟩ : S38), (⟨a6_0, a6_1⟩ : S38), (⟨t254, t255⟩ : S38), (⟨t257, t258⟩ : S38)] x230_3).f1)).bind fun t269 => (if (t268 != t269) = true then (some false) else (trustquorumlaw35_AmountExact.l1 k3 [(⟨a5_0, a5_1⟩ : S38), (⟨a6_0, a6_1⟩ : S38), (⟨t254, t255⟩ : S38), (⟨t257, t258⟩ : S38)] (wrap64 (x230_3 + 1)) a5_0 a5_1))))) = some r := H
                          have A100 := Aside0.mk A1000
                          clear A1000
                          by_cases c101 : (t266 != t267) = true
                          · rw [if_pos c101] at H
                            have c101b0 : (t266 != t267) = true := c101
                            (try (have c101b1 : decide (t266 = t267) = false := by simpa using c101))
                            (try (have c101b2 : (t266 == t267) = false := by simpa using c101))
                            (try (have c101b3 : ¬ (t266 = t267) := by simpa using c101))
                            clear c101
                            exact absurd ((Option.some.inj H).trans HRT.out) (by decide)
                          · rw [if_neg c101] at H
                            have c101b0 : (t266 != t267) = false := by simpa using c101
                            (try (have c101b1 : decide (t266 = t267) = true := by simpa using c101))
                            (try (have c101b2 : (t266 == t267) = true := by simpa using c101))
                            clear c101
                            replace H := Option.bind_eq_some_iff.mp H
                            obtain ⟨t268, A1020, H⟩ := H
                            replace H : ((trustquorumref35_Less.f a5_0 a5_1 ((rd_T38 [(⟨a5_0, a5_1⟩ : S38), (⟨a6_0, a6_1⟩ : S38), (⟨t254, t255⟩ : S38), (⟨t257, t258⟩ : S38)] x230_3).f0) ((rd_T38 [(⟨a5_0, a5_1⟩ : S38), (⟨a6_0, a6_1⟩ : S38), (⟨t254, t255⟩ : S38), (⟨t257, t258⟩ : S38)] x230_3).f1)).bind fun t269 => (if (t268 != t269) = true then (some false) else (trustquorumlaw35_AmountExact.l1 k3 [(⟨a5_0, a5_1⟩ : S38), (⟨a6_0, a6_1⟩ : S38), (⟨t254, t255⟩ : S38), (⟨t257, t258⟩ : S38)] (wrap64 (x230_3 + 1)) a5_0 a5_1))) = some r := H
                            have A102 := Aside0.mk A1020
                            clear A1020
                            replace H := Option.bind_eq_some_iff.mp H
                            obtain ⟨t269, A1030, H⟩ := H
                            replace H : (if (t268 != t269) = true then (some false) else (trustquorumlaw35_AmountExact.l1 k3 [(⟨a5_0, a5_1⟩ : S38), (⟨a6_0, a6_1⟩ : S38), (⟨t254, t255⟩ : S38), (⟨t257, t258⟩ : S38)] (wrap64 (x230_3 + 1)) a5_0 a5_1)) = some r := H
                            have A103 := Aside0.mk A1030
                            clear A1030
                            by_cases c104 : (t268 != t269) = true
                            · rw [if_pos c104] at H
                              have c104b0 : (t268 != t269) = true := c104
                              (try (have c104b1 : decide (t268 = t269) = false := by simpa using c104))
                              (try (have c104b2 : (t268 == t269) = false := by simpa using c104))
                              (try (have c104b3 : ¬ (t268 = t269) := by simpa using c104))
                              clear c104
                              exact absurd ((Option.some.inj H).trans HRT.out) (by decide)
                            · rw [if_neg c104] at H
                              have c104b0 : (t268 != t269) = false := by simpa using c104
                              (try (have c104b1 : decide (t268 = t269) = true := by simpa using c104))
                              (try (have c104b2 : (t268 == t269) = true := by simpa using c104))
                              clear c104
                              have H' := Aside0.mk H
                              clear H
                              have p92 : 0 ≤ (x230_3 : Int) := of_decide_eq_true (by first | (with_reducible assumption) | assumption)
                              have q92 : (x230_3 : Int) < 4 := of_decide_eq_true (by first | (with_reducible assumption) | assumption)
                              have hx92 : ∀ w_ : World, (Instr.index 47 (.agg #[.string a5_0, .int .i64 a5_1, .string a6_0, .int .i64 a6_1, .string t254, .int .i64 t255, .string t257, .int .i64 t258]) (.int .i64 x230_3)).run Try.prog w_ = .ok (.agg #[.string ((rd_T38 [(⟨a5_0, a5_1⟩ : S38), (⟨a6_0, a6_1⟩ : S38), (⟨t254, t255⟩ : S38), (⟨t257, t258⟩ : S38)] x230_3).f0), .int .i64 ((rd_T38 [(⟨a5_0, a5_1⟩ : S38), (⟨a6_0, a6_1⟩ : S38), (⟨t254, t255⟩ : S38), (⟨t257, t258⟩ : S38)] x230_3).f1)]) w_ := by intro w_; (rcases (show x230_3 = 0 ∨ x230_3 = 1 ∨ x230_3 = 2 ∨ x230_3 = 3 from by omega) with h_ | h_ | h_ | h_) <;> (rw [h_]; kernel_rfl)
                              try go_wp2_with (first | ((with_reducible refine gate_dst (N := 31) rfl ?_); (try (refine gate_guard (by rfl) ?_; dsimp only)); refine box_event ?hg (N := 31) ?hd (cs := #[.string (⟨#[]⟩ : ByteArray), .int .i64 0]) (t := 38) ?hr ?_; (case hd => rfl); (case hg => rfl); (case hr => first | (go_simp; done) | (go_simp; rfl)); intro gb261 hg w105 hbox hb; have n0_ := Aside0.mk (blk_below BK209.out hb); have n1_ := Aside0.mk (below_step (by exact HB.out) hb); have n2_ := Aside0.mk (hbox); have n3_ := Aside0.mk ((by rw [hg]; exact (below_size (by exact HB.out)) : w.heap.size ≤ gb261)); have n4_ := Aside0.mk ((by rw [hg]; exact (below_size (by exact HB.out)) : w.heap.size ≤ gb261)); have n5_ := Aside0.mk ((by rw [hg]; exact Nat.ne_of_lt (blk_lt BK209.out) : gb209 ≠ gb261)); have n6_ := Aside0.mk ((by rw [hg]; exact Nat.ne_of_gt (blk_lt BK209.out) : gb261 ≠ gb209)); clear BK209 HB; have BK209 := n0_; have HB := n1_; have BK261 := n2_; have GW261 := n3_; have GE261 := n4_; have NB209_261 := n5_; have NB261_209 := n6_; clear n0_ n1_ n2_ n3_ n4_ n5_ n6_; clear hb hbox hg; have hnb106 := NB261_209.out; have hnc106 := NB209_261.out; obtain ⟨hcz107_0, hcz107_1, hfz107_0, hfz107_1⟩ := blkC2 BK261.out))
                              have n0_ : Aside0 (((w105.setCell ⟨gb261, 0, none⟩ (.string ((rd_T38 [(⟨a5_0, a5_1⟩ : S38), (⟨a6_0, a6_1⟩ : S38), (⟨t254, t255⟩ : S38), (⟨t257, t258⟩ : S38)] x230_3).f0))).setCell ⟨gb261, 1, none⟩ (.int .i64 ((rd_T38 [(⟨a5_0, a5_1⟩ : S38), (⟨a6_0, a6_1⟩ : S38), (⟨t254, t255⟩ : S38), (⟨t257, t258⟩ : S38)] x230_3).f1))).heap[gb209]? = some (.cells #[.string a5_0, .int .i64 a5_1] 38 (0, 0))) := ⟨by (with_reducible repeat (first | refine blk_drewN ?_ _ | refine blk_drew ?_ | refine blk_alloc ?_ _)); refine blk_far ?_ NB209_261.out _; (with_reducible repeat (first | refine blk_drewN ?_ _ | refine blk_drew ?_ | refine blk_alloc ?_ _)); refine blk_far ?_ NB209_261.out _; (with_reducible repeat (first | refine blk_drewN ?_ _ | refine blk_drew ?_ | refine blk_alloc ?_ _)); exact BK209.out⟩
                              have n1_ : Aside0 (((w105.setCell ⟨gb261, 0, none⟩ (.string ((rd_T38 [(⟨a5_0, a5_1⟩ : S38), (⟨a6_0, a6_1⟩ : S38), (⟨t254, t255⟩ : S38), (⟨t257, t258⟩ : S38)] x230_3).f0))).setCell ⟨gb261, 1, none⟩ (.int .i64 ((rd_T38 [(⟨a5_0, a5_1⟩ : S38), (⟨a6_0, a6_1⟩ : S38), (⟨t254, t255⟩ : S38), (⟨t257, t258⟩ : S38)] x230_3).f1))).heap[gb261]? = some (.cells #[.string ((rd_T38 [(⟨a5_0, a5_1⟩ : S38), (⟨a6_0, a6_1⟩ : S38), (⟨t254, t255⟩ : S38), (⟨t257, t258⟩ : S38)] x230_3).f0), .int .i64 ((rd_T38 [(⟨a5_0, a5_1⟩ : S38), (⟨a6_0, a6_1⟩ : S38), (⟨t254, t255⟩ : S38), (⟨t257, t258⟩ : S38)] x230_3).f1)] 38 (0, 0))) := ⟨by (with_reducible repeat (first | refine blk_drewN ?_ _ | refine blk_drew ?_ | refine blk_alloc ?_ _)); refine blk_put (cs := #[.string ((rd_T38 [(⟨a5_0, a5_1⟩ : S38), (⟨a6_0, a6_1⟩ : S38), (⟨t254, t255⟩ : S38), (⟨t257, t258⟩ : S38)] x230_3).f0), .int .i64 0]) ?_ 1 _ rfl; (with_reducible repeat (first | refine blk_drewN ?_ _ | refine blk_drew ?_ | refine blk_alloc ?_ _)); refine blk_put (cs := #[.string (⟨#[]⟩ : ByteArray), .int .i64 0]) ?_ 0 _ rfl; (with_reducible repeat (first | refine blk_drewN ?_ _ | refine blk_drew ?_ | refine blk_alloc ?_ _)); exact BK261.out⟩
                              have n2_ : Aside0 (Below w.heap.size w ((w105.setCell ⟨gb261, 0, none⟩ (.string ((rd_T38 [(⟨a5_0, a5_1⟩ : S38), (⟨a6_0, a6_1⟩ : S38), (⟨t254, t255⟩ : S38), (⟨t257, t258⟩ : S38)] x230_3).f0))).setCell ⟨gb261, 1, none⟩ (.int .i64 ((rd_T38 [(⟨a5_0, a5_1⟩ : S38), (⟨a6_0, a6_1⟩ : S38), (⟨t254, t255⟩ : S38), (⟨t257, t258⟩ : S38)] x230_3).f1)))) := ⟨by repeat (first | (with_reducible first | exact HB.out | apply below_alloc | apply pw_below_drewN | apply below_drew1 | refine below_set ?_ GE209.out | refine below_set ?_ GE261.out) | exact HB.out)⟩
                              (try clear BK209)
                              (try clear BK261)
                              (try clear HB)
                              generalize ((w105.setCell ⟨gb261, 0, none⟩ (.string ((rd_T38 [(⟨a5_0, a5_1⟩ : S38), (⟨a6_0, a6_1⟩ : S38), (⟨t254, t255⟩ : S38), (⟨t257, t258⟩ : S38)] x230_3).f0))).setCell ⟨gb261, 1, none⟩ (.int .i64 ((rd_T38 [(⟨a5_0, a5_1⟩ : S38), (⟨a6_0, a6_1⟩ : S38), (⟨t254, t255⟩ : S38), (⟨t257, t258⟩ : S38)] x230_3).f1))) = w108 at n0_ n1_ n2_ ⊢
                              have BK209 := n0_
                              have BK261 := n1_
                              have HB := n2_
                              clear n0_ n1_ n2_
                              have n0_ := Aside0.mk (blk_drew BK209.out)
                              have n1_ := Aside0.mk (blk_drew BK261.out)
                              have n2_ := Aside0.mk (below_drew1 HB.out)
                              clear BK209 BK261 HB
                              have BK209 := n0_
                              have BK261 := n1_
                              have HB := n2_
                              clear n0_ n1_ n2_
                              refine start_ (n := 30) (S := fun w' => w'.cell? ⟨gb261, 0, none⟩ = some (.string ((rd_T38 [(⟨a5_0, a5_1⟩ : S38), (⟨a6_0, a6_1⟩ : S38), (⟨t254, t255⟩ : S38), (⟨t257, t258⟩ : S38)] x230_3).f0)) ∧ w'.cell? ⟨gb261, 1, none⟩ = some (.int .i64 ((rd_T38 [(⟨a5_0, a5_1⟩ : S38), (⟨a6_0, a6_1⟩ : S38), (⟨t254, t255⟩ : S38), (⟨t257, t258⟩ : S38)] x230_3).f1)) ∧ w'.cell? ⟨gb209, 0, none⟩ = some (.string a5_0) ∧ w'.cell? ⟨gb209, 1, none⟩ = some (.int .i64 a5_1)) (ds := []) #[false, false, false, false, false, false, false, false, false, false, false, false, false, false, false, false, false, false, false, false, false, false, false, false, false, false, false, false, false, false] (by kernel_rfl) rfl rfl ⟨(blk_cell BK261.out 0).trans rfl, (blk_cell BK261.out 1).trans rfl, (blk_cell BK209.out 0).trans rfl, (blk_cell BK209.out 1).trans rfl⟩ (fun hHeld => ?_); refine with_tabW trustquorumlaw35_AmountExact.tab31 trustquorumlaw35_AmountExact.bits31 (fun HT_ HW_ => ?_)
                              generalize w108.drew = w109 at BK209 BK261 HB hHeld ⊢
                              refine take_ (i := 0) (N := some 233) (v := ?_) (a' := ?_) #[true, false, false, false, false, false, false, false, false, false, false, false, false, false, false, false, false, false, false, false, false, false, false, false, false, false, false, false, false, false] rfl rfl (take_ofW HT_.out HW_.out (by kernel_rfl)) (fun _ _ _ h => h) (Or.inl ⟨by rfl, ?_⟩) hHeld ?_ ?_
                              rotate_left
                              · rintro w' ⟨s0, s1, s2, s3⟩
                                go_simp
                                with_reducible rfl
                              rotate_left
                              · simp only [Act.put, List.setIfInBounds_toArray, List.set_cons_zero, List.set_cons_succ, i64_w, i32_w]
                                rfl
                              refine take_ (i := 2) (N := some 235) (v := ?_) (a' := ?_) #[true, false, true, false, false, false, false, false, false, false, false, false, false, false, false, false, false, false, false, false, false, false, false, false, false, false, false, false, false, false] rfl rfl (take_ofW HT_.out HW_.out (by kernel_rfl)) (fun _ _ _ h => h) (Or.inl ⟨by rfl, ?_⟩) hHeld ?_ ?_
                              rotate_left
                              · rintro w' ⟨s0, s1, s2, s3⟩
                                go_simp
                                with_reducible rfl
                              rotate_left
                              · simp only [Act.put, List.setIfInBounds_toArray, List.set_cons_zero, List.set_cons_succ, i64_w, i32_w]
                                rfl
                              refine one_ (i := 1) (N := some 234) #[true, true, true, false, false, false, false, false, false, false, false, false, false, false, false, false, false, false, false, false, false, false, false, false, false, false, false, false, false, false] rfl rfl (one_of HT_.out (by kernel_rfl)) (by decide) (fun K hK => ?_)
                              refine goes_ Try.func18 (by kernel_rfl) rfl #[.agg #[.string ((rd_T38 [(⟨a5_0, a5_1⟩ : S38), (⟨a6_0, a6_1⟩ : S38), (⟨t254, t255⟩ : S38), (⟨t257, t258⟩ : S38)] x230_3).f0), .int .i64 ((rd_T38 [(⟨a5_0, a5_1⟩ : S38), (⟨a6_0, a6_1⟩ : S38), (⟨t254, t255⟩ : S38), (⟨t257, t258⟩ : S38)] x230_3).f1)]] (by rfl) rfl rfl (by (try simp only [List.map_toArray, List.map_cons, List.map_nil]); first | done | rfl | (simp only [List.length_drop, List.length_take]; rfl)) ?_
                              with_reducible refine (amount_Asset.calls ((rd_T38 [(⟨a5_0, a5_1⟩ : S38), (⟨a6_0, a6_1⟩ : S38), (⟨t254, t255⟩ : S38), (⟨t257, t258⟩ : S38)] x230_3).f0) ((rd_T38 [(⟨a5_0, a5_1⟩ : S38), (⟨a6_0, a6_1⟩ : S38), (⟨t254, t255⟩ : S38), (⟨t257, t258⟩ : S38)] x230_3).f1) t262 _ A93.out).mono ?_
                              rintro e w110 ⟨rfl, hb⟩
                              refine ⟨_, rfl, ?_⟩
                              have n0_ := Aside0.mk (blk_below BK209.out hb)
                              have n1_ := Aside0.mk (blk_below BK261.out hb)
                              have n2_ := Aside0.mk (below_step (by exact HB.out) hb)
                              clear BK209 BK261 HB
                              have BK209 := n0_
                              have BK261 := n1_
                              have HB := n2_
                              clear n0_ n1_ n2_
                              (try clear hb)
                              (try clear hb2)
                              (try clear hk)
                              (try clear hi)
                              refine hK.out _ _ ⟨(blk_cell BK261.out 0).trans rfl, (blk_cell BK261.out 1).trans rfl, (blk_cell BK209.out 0).trans rfl, (blk_cell BK209.out 1).trans rfl⟩ (fun hHeld => ?_)
                              clear hK K
                              refine norm_ (a' := ?_) ?_ ?_
                              rotate_left
                              · show Act.put _ (some 234) _ = _
                                simp only [Act.put, List.setIfInBounds_toArray, List.set_cons_zero, List.set_cons_succ, i64_w, i32_w]
                                rfl
                              refine one_ (i := 3) (N := some 236) #[true, true, true, true, false, false, false, false, false, false, false, false, false, false, false, false, false, false, false, false, false, false, false, false, false, false, false, false, false, false] rfl rfl (one_of HT_.out (by kernel_rfl)) (by decide) (fun K hK => ?_)
                              refine goes_ Try.func33 (by kernel_rfl) rfl #[.agg #[.string ((rd_T38 [(⟨a5_0, a5_1⟩ : S38), (⟨a6_0, a6_1⟩ : S38), (⟨t254, t255⟩ : S38), (⟨t257, t258⟩ : S38)] x230_3).f0), .int .i64 ((rd_T38 [(⟨a5_0, a5_1⟩ : S38), (⟨a6_0, a6_1⟩ : S38), (⟨t254, t255⟩ : S38), (⟨t257, t258⟩ : S38)] x230_3).f1)]] (by rfl) rfl rfl (by (try simp only [List.map_toArray, List.map_cons, List.map_nil]); first | done | rfl | (simp only [List.length_drop, List.length_take]; rfl)) ?_
                              with_reducible refine (trustquorumref35_Asset.calls k3 ((rd_T38 [(⟨a5_0, a5_1⟩ : S38), (⟨a6_0, a6_1⟩ : S38), (⟨t254, t255⟩ : S38), (⟨t257, t258⟩ : S38)] x230_3).f0) ((rd_T38 [(⟨a5_0, a5_1⟩ : S38), (⟨a6_0, a6_1⟩ : S38), (⟨t254, t255⟩ : S38), (⟨t257, t258⟩ : S38)] x230_3).f1) t263 _ A94.out).mono ?_
                              rintro e w111 ⟨rfl, hb⟩
                              refine ⟨_, rfl, ?_⟩
                              have n0_ := Aside0.mk (blk_below BK209.out hb)
                              have n1_ := Aside0.mk (blk_below BK261.out hb)
                              have n2_ := Aside0.mk (below_step (by exact HB.out) hb)
                              clear BK209 BK261 HB
                              have BK209 := n0_
                              have BK261 := n1_
                              have HB := n2_
                              clear n0_ n1_ n2_
                              (try clear hb)
                              (try clear hb2)
                              (try clear hk)
                              (try clear hi)
                              refine hK.out _ _ ⟨(blk_cell BK261.out 0).trans rfl, (blk_cell BK261.out 1).trans rfl, (blk_cell BK209.out 0).trans rfl, (blk_cell BK209.out 1).trans rfl⟩ (fun hHeld => ?_)
                              clear hK K
                              refine norm_ (a' := ?_) ?_ ?_
                              rotate_left
                              · show Act.put _ (some 236) _ = _
                                simp only [Act.put, List.setIfInBounds_toArray, List.set_cons_zero, List.set_cons_succ, i64_w, i32_w]
                                rfl
                              refine pure_ (i := 4) (N := some 237) (v := ?_) (a' := ?_) #[true, true, true, true, true, false, false, false, false, false, false, false, false, false, false, false, false, false, false, false, false, false, false, false, false, false, false, false, false, false] rfl rfl (any_of HT_.out (by kernel_rfl)) (fun _ _ _ h => h) (Or.inl ⟨by rfl, ?_⟩) ?_ ?_
                              rotate_left
                              · intro w'
                                go_simp
                                with_reducible rfl
                              rotate_left
                              · simp only [Act.put, List.setIfInBounds_toArray, List.set_cons_zero, List.set_cons_succ, i64_w, i32_w]
                                rfl
                              refine pure_ (i := 5) (N := some 238) (v := ?_) (a' := ?_) #[true, true, true, true, true, true, false, false, false, false, false, false, false, false, false, false, false, false, false, false, false, false, false, false, false, false, false, false, false, false] rfl rfl (any_of HT_.out (by kernel_rfl)) (fun _ _ _ h => h) (Or.inl ⟨by rfl, ?_⟩) ?_ ?_
                              rotate_left
                              · intro w'
                                go_simp
                                with_reducible rfl
                              rotate_left
                              · simp only [Act.put, List.setIfInBounds_toArray, List.set_cons_zero, List.set_cons_succ, i64_w, i32_w]
                                rfl
                              refine take_ (i := 6) (N := some 239) (v := ?_) (a' := ?_) #[true, true, true, true, true, true, true, false, false, false, false, false, false, false, false, false, false, false, false, false, false, false, false, false, false, false, false, false, false, false] rfl rfl (take_ofW HT_.out HW_.out (by kernel_rfl)) (fun _ _ _ h => h) (Or.inl ⟨by rfl, ?_⟩) hHeld ?_ ?_
                              rotate_left
                              · rintro w' ⟨s0, s1, s2, s3⟩
                                go_simp
                                with_reducible rfl
                              rotate_left
                              · simp only [Act.put, List.setIfInBounds_toArray, List.set_cons_zero, List.set_cons_succ, i64_w, i32_w]
                                rfl
                              refine take_ (i := 8) (N := some 241) (v := ?_) (a' := ?_) #[true, true, true, true, true, true, true, false, true, false, false, false, false, false, false, false, false, false, false, false, false, false, false, false, false, false, false, false, false, false] rfl rfl (take_ofW HT_.out HW_.out (by kernel_rfl)) (fun _ _ _ h => h) (Or.inl ⟨by rfl, ?_⟩) hHeld ?_ ?_
                              rotate_left
                              · rintro w' ⟨s0, s1, s2, s3⟩
                                go_simp
                                with_reducible rfl
                              rotate_left
                              · simp only [Act.put, List.setIfInBounds_toArray, List.set_cons_zero, List.set_cons_succ, i64_w, i32_w]
                                rfl
                              refine one_ (i := 7) (N := some 240) #[true, true, true, true, true, true, true, true, true, false, false, false, false, false, false, false, false, false, false, false, false, false, false, false, false, false, false, false, false, false] rfl rfl (one_of HT_.out (by kernel_rfl)) (by decide) (fun K hK => ?_)
                              refine goes_ Try.func19 (by kernel_rfl) rfl #[.agg #[.string ((rd_T38 [(⟨a5_0, a5_1⟩ : S38), (⟨a6_0, a6_1⟩ : S38), (⟨t254, t255⟩ : S38), (⟨t257, t258⟩ : S38)] x230_3).f0), .int .i64 ((rd_T38 [(⟨a5_0, a5_1⟩ : S38), (⟨a6_0, a6_1⟩ : S38), (⟨t254, t255⟩ : S38), (⟨t257, t258⟩ : S38)] x230_3).f1)]] (by rfl) rfl rfl (by (try simp only [List.map_toArray, List.map_cons, List.map_nil]); first | done | rfl | (simp only [List.length_drop, List.length_take]; rfl)) ?_
                              with_reducible refine (amount_Native.calls ((rd_T38 [(⟨a5_0, a5_1⟩ : S38), (⟨a6_0, a6_1⟩ : S38), (⟨t254, t255⟩ : S38), (⟨t257, t258⟩ : S38)] x230_3).f0) ((rd_T38 [(⟨a5_0, a5_1⟩ : S38), (⟨a6_0, a6_1⟩ : S38), (⟨t254, t255⟩ : S38), (⟨t257, t258⟩ : S38)] x230_3).f1) t264 _ A96.out).mono ?_
                              rintro e w112 ⟨rfl, hb⟩
                              refine ⟨_, rfl, ?_⟩
                              have n0_ := Aside0.mk (blk_below BK209.out hb)
                              have n1_ := Aside0.mk (blk_below BK261.out hb)
                              have n2_ := Aside0.mk (below_step (by exact HB.out) hb)
                              clear BK209 BK261 HB
                              have BK209 := n0_
                              have BK261 := n1_
                              have HB := n2_
                              clear n0_ n1_ n2_
                              (try clear hb)
                              (try clear hb2)
                              (try clear hk)
                              (try clear hi)
                              refine hK.out _ _ ⟨(blk_cell BK261.out 0).trans rfl, (blk_cell BK261.out 1).trans rfl, (blk_cell BK209.out 0).trans rfl, (blk_cell BK209.out 1).trans rfl⟩ (fun hHeld => ?_)
                              clear hK K
                              refine norm_ (a' := ?_) ?_ ?_
                              rotate_left
                              · show Act.put _ (some 240) _ = _
                                simp only [Act.put, List.setIfInBounds_toArray, List.set_cons_zero, List.set_cons_succ, i64_w, i32_w]
                                rfl
                              refine one_ (i := 9) (N := some 242) #[true, true, true, true, true, true, true, true, true, true, false, false, false, false, false, false, false, false, false, false, false, false, false, false, false, false, false, false, false, false] rfl rfl (one_of HT_.out (by kernel_rfl)) (by decide) (fun K hK => ?_)
                              refine goes_ Try.func34 (by kernel_rfl) rfl #[.agg #[.string ((rd_T38 [(⟨a5_0, a5_1⟩ : S38), (⟨a6_0, a6_1⟩ : S38), (⟨t254, t255⟩ : S38), (⟨t257, t258⟩ : S38)] x230_3).f0), .int .i64 ((rd_T38 [(⟨a5_0, a5_1⟩ : S38), (⟨a6_0, a6_1⟩ : S38), (⟨t254, t255⟩ : S38), (⟨t257, t258⟩ : S38)] x230_3).f1)]] (by rfl) rfl rfl (by (try simp only [List.map_toArray, List.map_cons, List.map_nil]); first | done | rfl | (simp only [List.length_drop, List.length_take]; rfl)) ?_
                              with_reducible refine (trustquorumref35_Native.calls ((rd_T38 [(⟨a5_0, a5_1⟩ : S38), (⟨a6_0, a6_1⟩ : S38), (⟨t254, t255⟩ : S38), (⟨t257, t258⟩ : S38)] x230_3).f0) ((rd_T38 [(⟨a5_0, a5_1⟩ : S38), (⟨a6_0, a6_1⟩ : S38), (⟨t254, t255⟩ : S38), (⟨t257, t258⟩ : S38)] x230_3).f1) t265 _ A97.out).mono ?_
                              rintro e w113 ⟨rfl, hb⟩
                              refine ⟨_, rfl, ?_⟩
                              have n0_ := Aside0.mk (blk_below BK209.out hb)
                              have n1_ := Aside0.mk (blk_below BK261.out hb)
                              have n2_ := Aside0.mk (below_step (by exact HB.out) hb)
                              clear BK209 BK261 HB
                              have BK209 := n0_
                              have BK261 := n1_
                              have HB := n2_
                              clear n0_ n1_ n2_
                              (try clear hb)
                              (try clear hb2)
                              (try clear hk)
                              (try clear hi)
                              refine hK.out _ _ ⟨(blk_cell BK261.out 0).trans rfl, (blk_cell BK261.out 1).trans rfl, (blk_cell BK209.out 0).trans rfl, (blk_cell BK209.out 1).trans rfl⟩ (fun hHeld => ?_)
                              clear hK K
                              refine norm_ (a' := ?_) ?_ ?_
                              rotate_left
                              · show Act.put _ (some 242) _ = _
                                simp only [Act.put, List.setIfInBounds_toArray, List.set_cons_zero, List.set_cons_succ, i64_w, i32_w]
                                rfl
                              refine pure_ (i := 10) (N := some 243) (v := ?_) (a' := ?_) #[true, true, true, true, true, true, true, true, true, true, true, false, false, false, false, false, false, false, false, false, false, false, false, false, false, false, false, false, false, false] rfl rfl (any_of HT_.out (by kernel_rfl)) (fun _ _ _ h => h) (Or.inl ⟨by rfl, ?_⟩) ?_ ?_
                              rotate_left
                              · intro w'
                                go_simp
                                with_reducible rfl
                              rotate_left
                              · simp only [Act.put, List.setIfInBounds_toArray, List.set_cons_zero, List.set_cons_succ, i64_w, i32_w]
                                rfl
                              refine pure_ (i := 11) (N := some 244) (v := ?_) (a' := ?_) #[true, true, true, true, true, true, true, true, true, true, true, true, false, false, false, false, false, false, false, false, false, false, false, false, false, false, false, false, false, false] rfl rfl (any_of HT_.out (by kernel_rfl)) (fun _ _ _ h => h) (Or.inl ⟨by rfl, ?_⟩) ?_ ?_
                              rotate_left
                              · intro w'
                                go_simp
                                with_reducible rfl
                              rotate_left
                              · simp only [Act.put, List.setIfInBounds_toArray, List.set_cons_zero, List.set_cons_succ, i64_w, i32_w]
                                rfl
                              refine pure_ (i := 12) (N := some 245) (v := ?_) (a' := ?_) #[true, true, true, true, true, true, true, true, true, true, true, true, true, false, false, false, false, false, false, false, false, false, false, false, false, false, false, false, false, false] rfl rfl (any_of HT_.out (by kernel_rfl)) (fun _ _ _ h => h) (Or.inl ⟨by rfl, ?_⟩) ?_ ?_
                              rotate_left
                              · intro w'
                                go_simp
                                with_reducible rfl
                              rotate_left
                              · simp only [Act.put, List.setIfInBounds_toArray, List.set_cons_zero, List.set_cons_succ, i64_w, i32_w]
                                rfl
                              refine take_ (i := 13) (N := some 246) (v := ?_) (a' := ?_) #[true, true, true, true, true, true, true, true, true, true, true, true, true, true, false, false, false, false, false, false, false, false, false, false, false, false, false, false, false, false] rfl rfl (take_ofW HT_.out HW_.out (by kernel_rfl)) (fun _ _ _ h => h) (Or.inl ⟨by rfl, ?_⟩) hHeld ?_ ?_
                              rotate_left
                              · rintro w' ⟨s0, s1, s2, s3⟩
                                go_simp
                                with_reducible rfl
                              rotate_left
                              · simp only [Act.put, List.setIfInBounds_toArray, List.set_cons_zero, List.set_cons_succ, i64_w, i32_w]
                                rfl
                              refine take_ (i := 14) (N := some 247) (v := ?_) (a' := ?_) #[true, true, true, true, true, true, true, true, true, true, true, true, true, true, true, false, false, false, false, false, false, false, false, false, false, false, false, false, false, false] rfl rfl (take_ofW HT_.out HW_.out (by kernel_rfl)) (fun _ _ _ h => h) (Or.inl ⟨by rfl, ?_⟩) hHeld ?_ ?_
                              rotate_left
                              · rintro w' ⟨s0, s1, s2, s3⟩
                                go_simp
                                with_reducible rfl
                              rotate_left
                              · simp only [Act.put, List.setIfInBounds_toArray, List.set_cons_zero, List.set_cons_succ, i64_w, i32_w]
                                rfl
                              refine take_ (i := 16) (N := some 249) (v := ?_) (a' := ?_) #[true, true, true, true, true, true, true, true, true, true, true, true, true, true, true, false, true, false, false, false, false, false, false, false, false, false, false, false, false, false] rfl rfl (take_ofW HT_.out HW_.out (by kernel_rfl)) (fun _ _ _ h => h) (Or.inl ⟨by rfl, ?_⟩) hHeld ?_ ?_
                              rotate_left
                              · rintro w' ⟨s0, s1, s2, s3⟩
                                go_simp
                                with_reducible rfl
                              rotate_left
                              · simp only [Act.put, List.setIfInBounds_toArray, List.set_cons_zero, List.set_cons_succ, i64_w, i32_w]
                                rfl
                              refine take_ (i := 17) (N := some 250) (v := ?_) (a' := ?_) #[true, true, true, true, true, true, true, true, true, true, true, true, true, true, true, false, true, true, false, false, false, false, false, false, false, false, false, false, false, false] rfl rfl (take_ofW HT_.out HW_.out (by kernel_rfl)) (fun _ _ _ h => h) (Or.inl ⟨by rfl, ?_⟩) hHeld ?_ ?_
                              rotate_left
                              · rintro w' ⟨s0, s1, s2, s3⟩
                                go_simp
                                with_reducible rfl
                              rotate_left
                              · simp only [Act.put, List.setIfInBounds_toArray, List.set_cons_zero, List.set_cons_succ, i64_w, i32_w]
                                rfl
                              refine one_ (i := 15) (N := some 248) #[true, true, true, true, true, true, true, true, true, true, true, true, true, true, true, true, true, true, false, false, false, false, false, false, false, false, false, false, false, false] rfl rfl (one_of HT_.out (by kernel_rfl)) (by decide) (fun K hK => ?_)
                              refine goes_ Try.func17 (by kernel_rfl) rfl #[.agg #[.string ((rd_T38 [(⟨a5_0, a5_1⟩ : S38), (⟨a6_0, a6_1⟩ : S38), (⟨t254, t255⟩ : S38), (⟨t257, t258⟩ : S38)] x230_3).f0), .int .i64 ((rd_T38 [(⟨a5_0, a5_1⟩ : S38), (⟨a6_0, a6_1⟩ : S38), (⟨t254, t255⟩ : S38), (⟨t257, t258⟩ : S38)] x230_3).f1)], .agg #[.string a5_0, .int .i64 a5_1]] (by rfl) rfl rfl (by (try simp only [List.map_toArray, List.map_cons, List.map_nil]); first | done | rfl | (simp only [List.length_drop, List.length_take]; rfl)) ?_
                              with_reducible refine (amount_Less.calls k3 ((rd_T38 [(⟨a5_0, a5_1⟩ : S38), (⟨a6_0, a6_1⟩ : S38), (⟨t254, t255⟩ : S38), (⟨t257, t258⟩ : S38)] x230_3).f0) ((rd_T38 [(⟨a5_0, a5_1⟩ : S38), (⟨a6_0, a6_1⟩ : S38), (⟨t254, t255⟩ : S38), (⟨t257, t258⟩ : S38)] x230_3).f1) a5_0 a5_1 t266 _ A99.out).mono ?_
                              rintro e w114 ⟨rfl, hb⟩
                              refine ⟨_, rfl, ?_⟩
                              have n0_ := Aside0.mk (blk_below BK209.out hb)
                              have n1_ := Aside0.mk (blk_below BK261.out hb)
                              have n2_ := Aside0.mk (below_step (by exact HB.out) hb)
                              clear BK209 BK261 HB
                              have BK209 := n0_
                              have BK261 := n1_
                              have HB := n2_
                              clear n0_ n1_ n2_
                              (try clear hb)
                              (try clear hb2)
                              (try clear hk)
                              (try clear hi)
                              refine hK.out _ _ ⟨(blk_cell BK261.out 0).trans rfl, (blk_cell BK261.out 1).trans rfl, (blk_cell BK209.out 0).trans rfl, (blk_cell BK209.out 1).trans rfl⟩ (fun hHeld => ?_)
                              clear hK K
                              refine norm_ (a' := ?_) ?_ ?_
                              rotate_left
                              · show Act.put _ (some 248) _ = _
                                simp only [Act.put, List.setIfInBounds_toArray, List.set_cons_zero, List.set_cons_succ, i64_w, i32_w]
                                rfl
                              refine one_ (i := 18) (N := some 251) #[true, true, true, true, true, true, true, true, true, true, true, true, true, true, true, true, true, true, true, false, false, false, false, false, false, false, false, false, false, false] rfl rfl (one_of HT_.out (by kernel_rfl)) (by decide) (fun K hK => ?_)
                              refine goes_ Try.func35 (by kernel_rfl) rfl #[.agg #[.string ((rd_T38 [(⟨a5_0, a5_1⟩ : S38), (⟨a6_0, a6_1⟩ : S38), (⟨t254, t255⟩ : S38), (⟨t257, t258⟩ : S38)] x230_3).f0), .int .i64 ((rd_T38 [(⟨a5_0, a5_1⟩ : S38), (⟨a6_0, a6_1⟩ : S38), (⟨t254, t255⟩ : S38), (⟨t257, t258⟩ : S38)] x230_3).f1)], .agg #[.string a5_0, .int .i64 a5_1]] (by rfl) rfl rfl (by (try simp only [List.map_toArray, List.map_cons, List.map_nil]); first | done | rfl | (simp only [List.length_drop, List.length_take]; rfl)) ?_
                              with_reducible refine (trustquorumref35_Less.calls ((rd_T38 [(⟨a5_0, a5_1⟩ : S38), (⟨a6_0, a6_1⟩ : S38), (⟨t254, t255⟩ : S38), (⟨t257, t258⟩ : S38)] x230_3).f0) ((rd_T38 [(⟨a5_0, a5_1⟩ : S38), (⟨a6_0, a6_1⟩ : S38), (⟨t254, t255⟩ : S38), (⟨t257, t258⟩ : S38)] x230_3).f1) a5_0 a5_1 t267 _ A100.out).mono ?_
                              rintro e w115 ⟨rfl, hb⟩
                              refine ⟨_, rfl, ?_⟩
                              have n0_ := Aside0.mk (blk_below BK209.out hb)
                              have n1_ := Aside0.mk (blk_below BK261.out hb)
                              have n2_ := Aside0.mk (below_step (by exact HB.out) hb)
                              clear BK209 BK261 HB
                              have BK209 := n0_
                              have BK261 := n1_
                              have HB := n2_
                              clear n0_ n1_ n2_
                              (try clear hb)
                              (try clear hb2)
                              (try clear hk)
                              (try clear hi)
                              refine hK.out _ _ ⟨(blk_cell BK261.out 0).trans rfl, (blk_cell BK261.out 1).trans rfl, (blk_cell BK209.out 0).trans rfl, (blk_cell BK209.out 1).trans rfl⟩ (fun hHeld => ?_)
                              clear hK K
                              refine norm_ (a' := ?_) ?_ ?_
                              rotate_left
                              · show Act.put _ (some 251) _ = _
                                simp only [Act.put, List.setIfInBounds_toArray, List.set_cons_zero, List.set_cons_succ, i64_w, i32_w]
                                rfl
                              refine pure_ (i := 19) (N := some 252) (v := ?_) (a' := ?_) #[true, true, true, true, true, true, true, true, true, true, true, true, true, true, true, true, true, true, true, true, false, false, false, false, false, false, false, false, false, false] rfl rfl (any_of HT_.out (by kernel_rfl)) (fun _ _ _ h => h) (Or.inl ⟨by rfl, ?_⟩) ?_ ?_
                              rotate_left
                              · intro w'
                                go_simp
                                with_reducible rfl
                              rotate_left
                              · simp only [Act.put, List.setIfInBounds_toArray, List.set_cons_zero, List.set_cons_succ, i64_w, i32_w]
                                rfl
                              refine pure_ (i := 20) (N := some 253) (v := ?_) (a' := ?_) #[true, true, true, true, true, true, true, true, true, true, true, true, true, true, true, true, true, true, true, true, true, false, false, false, false, false, false, false, false, false] rfl rfl (any_of HT_.out (by kernel_rfl)) (fun _ _ _ h => h) (Or.inl ⟨by rfl, ?_⟩) ?_ ?_
                              rotate_left
                              · intro w'
                                go_simp
                                with_reducible rfl
                              rotate_left
                              · simp only [Act.put, List.setIfInBounds_toArray, List.set_cons_zero, List.set_cons_succ, i64_w, i32_w]
                                rfl
                              refine pure_ (i := 21) (N := some 254) (v := ?_) (a' := ?_) #[true, true, true, true, true, true, true, true, true, true, true, true, true, true, true, true, true, true, true, true, true, true, false, false, false, false, false, false, false, false] rfl rfl (any_of HT_.out (by kernel_rfl)) (fun _ _ _ h => h) (Or.inl ⟨by rfl, ?_⟩) ?_ ?_
                              rotate_left
                              · intro w'
                                go_simp
                                with_reducible rfl
                              rotate_left
                              · simp only [Act.put, List.setIfInBounds_toArray, List.set_cons_zero, List.set_cons_succ, i64_w, i32_w]
                                rfl
                              refine take_ (i := 22) (N := some 255) (v := ?_) (a' := ?_) #[true, true, true, true, true, true, true, true, true, true, true, true, true, true, true, true, true, true, true, true, true, true, true, false, false, false, false, false, false, false] rfl rfl (take_ofW HT_.out HW_.out (by kernel_rfl)) (fun _ _ _ h => h) (Or.inl ⟨by rfl, ?_⟩) hHeld ?_ ?_
                              rotate_left
                              · rintro w' ⟨s0, s1, s2, s3⟩
                                go_simp
                                with_reducible rfl
                              rotate_left
                              · simp only [Act.put, List.setIfInBounds_toArray, List.set_cons_zero, List.set_cons_succ, i64_w, i32_w]
                                rfl
                              refine take_ (i := 23) (N := some 256) (v := ?_) (a' := ?_) #[true, true, true, true, true, true, true, true, true, true, true, true, true, true, true, true, true, true, true, true, true, true, true, true, false, false, false, false, false, false] rfl rfl (take_ofW HT_.out HW_.out (by kernel_rfl)) (fun _ _ _ h => h) (Or.inl ⟨by rfl, ?_⟩) hHeld ?_ ?_
                              rotate_left
                              · rintro w' ⟨s0, s1, s2, s3⟩
                                go_simp
                                with_reducible rfl
                              rotate_left
                              · simp only [Act.put, List.setIfInBounds_toArray, List.set_cons_zero, List.set_cons_succ, i64_w, i32_w]
                                rfl
                              refine take_ (i := 25) (N := some 258) (v := ?_) (a' := ?_) #[true, true, true, true, true, true, true, true, true, true, true, true, true, true, true, true, true, true, true, true, true, true, true, true, false, true, false, false, false, false] rfl rfl (take_ofW HT_.out HW_.out (by kernel_rfl)) (fun _ _ _ h => h) (Or.inl ⟨by rfl, ?_⟩) hHeld ?_ ?_
                              rotate_left
                              · rintro w' ⟨s0, s1, s2, s3⟩
                                go_simp
                                with_reducible rfl
                              rotate_left
                              · simp only [Act.put, List.setIfInBounds_toArray, List.set_cons_zero, List.set_cons_succ, i64_w, i32_w]
                                rfl
                              refine take_ (i := 26) (N := some 259) (v := ?_) (a' := ?_) #[true, true, true, true, true, true, true, true, true, true, true, true, true, true, true, true, true, true, true, true, true, true, true, true, false, true, true, false, false, false] rfl rfl (take_ofW HT_.out HW_.out (by kernel_rfl)) (fun _ _ _ h => h) (Or.inl ⟨by rfl, ?_⟩) hHeld ?_ ?_
                              rotate_left
                              · rintro w' ⟨s0, s1, s2, s3⟩
                                go_simp
                                with_reducible rfl
                              rotate_left
                              · simp only [Act.put, List.setIfInBounds_toArray, List.set_cons_zero, List.set_cons_succ, i64_w, i32_w]
                                rfl
                              refine one_ (i := 24) (N := some 257) #[true, true, true, true, true, true, true, true, true, true, true, true, true, true, true, true, true, true, true, true, true, true, true, true, true, true, true, false, false, false] rfl rfl (one_of HT_.out (by kernel_rfl)) (by decide) (fun K hK => ?_)
                              refine goes_ Try.func17 (by kernel_rfl) rfl #[.agg #[.string a5_0, .int .i64 a5_1], .agg #[.string ((rd_T38 [(⟨a5_0, a5_1⟩ : S38), (⟨a6_0, a6_1⟩ : S38), (⟨t254, t255⟩ : S38), (⟨t257, t258⟩ : S38)] x230_3).f0), .int .i64 ((rd_T38 [(⟨a5_0, a5_1⟩ : S38), (⟨a6_0, a6_1⟩ : S38), (⟨t254, t255⟩ : S38), (⟨t257, t258⟩ : S38)] x230_3).f1)]] (by rfl) rfl rfl (by (try simp only [List.map_toArray, List.map_cons, List.map_nil]); first | done | rfl | (simp only [List.length_drop, List.length_take]; rfl)) ?_
                              with_reducible refine (amount_Less.calls k3 a5_0 a5_1 ((rd_T38 [(⟨a5_0, a5_1⟩ : S38), (⟨a6_0, a6_1⟩ : S38), (⟨t254, t255⟩ : S38), (⟨t257, t258⟩ : S38)] x230_3).f0) ((rd_T38 [(⟨a5_0, a5_1⟩ : S38), (⟨a6_0, a6_1⟩ : S38), (⟨t254, t255⟩ : S38), (⟨t257, t258⟩ : S38)] x230_3).f1) t268 _ A102.out).mono ?_
                              rintro e w116 ⟨rfl, hb⟩
                              refine ⟨_, rfl, ?_⟩
                              have n0_ := Aside0.mk (blk_below BK209.out hb)
                              have n1_ := Aside0.mk (blk_below BK261.out hb)
                              have n2_ := Aside0.mk (below_step (by exact HB.out) hb)
                              clear BK209 BK261 HB
                              have BK209 := n0_
                              have BK261 := n1_
                              have HB := n2_
                              clear n0_ n1_ n2_
                              (try clear hb)
                              (try clear hb2)
                              (try clear hk)
                              (try clear hi)
                              refine hK.out _ _ ⟨(blk_cell BK261.out 0).trans rfl, (blk_cell BK261.out 1).trans rfl, (blk_cell BK209.out 0).trans rfl, (blk_cell BK209.out 1).trans rfl⟩ (fun hHeld => ?_)
                              clear hK K
                              refine norm_ (a' := ?_) ?_ ?_
                              rotate_left
                              · show Act.put _ (some 257) _ = _
                                simp only [Act.put, List.setIfInBounds_toArray, List.set_cons_zero, List.set_cons_succ, i64_w, i32_w]
                                rfl
                              refine one_ (i := 27) (N := some 260) #[true, true, true, true, true, true, true, true, true, true, true, true, true, true, true, true, true, true, true, true, true, true, true, true, true, true, true, true, false, false] rfl rfl (one_of HT_.out (by kernel_rfl)) (by decide) (fun K hK => ?_)
                              refine goes_ Try.func35 (by kernel_rfl) rfl #[.agg #[.string a5_0, .int .i64 a5_1], .agg #[.string ((rd_T38 [(⟨a5_0, a5_1⟩ : S38), (⟨a6_0, a6_1⟩ : S38), (⟨t254, t255⟩ : S38), (⟨t257, t258⟩ : S38)] x230_3).f0), .int .i64 ((rd_T38 [(⟨a5_0, a5_1⟩ : S38), (⟨a6_0, a6_1⟩ : S38), (⟨t254, t255⟩ : S38), (⟨t257, t258⟩ : S38)] x230_3).f1)]] (by rfl) rfl rfl (by (try simp only [List.map_toArray, List.map_cons, List.map_nil]); first | done | rfl | (simp only [List.length_drop, List.length_take]; rfl)) ?_
                              with_reducible refine (trustquorumref35_Less.calls a5_0 a5_1 ((rd_T38 [(⟨a5_0, a5_1⟩ : S38), (⟨a6_0, a6_1⟩ : S38), (⟨t254, t255⟩ : S38), (⟨t257, t258⟩ : S38)] x230_3).f0) ((rd_T38 [(⟨a5_0, a5_1⟩ : S38), (⟨a6_0, a6_1⟩ : S38), (⟨t254, t255⟩ : S38), (⟨t257, t258⟩ : S38)] x230_3).f1) t269 _ A103.out).mono ?_
                              rintro e w117 ⟨rfl, hb⟩
                              refine ⟨_, rfl, ?_⟩
                              have n0_ := Aside0.mk (blk_below BK209.out hb)
                              have n1_ := Aside0.mk (blk_below BK261.out hb)
                              have n2_ := Aside0.mk (below_step (by exact HB.out) hb)
                              clear BK209 BK261 HB
                              have BK209 := n0_
                              have BK261 := n1_
                              have HB := n2_
                              clear n0_ n1_ n2_
                              (try clear hb)
                              (try clear hb2)
                              (try clear hk)
                              (try clear hi)
                              refine hK.out _ _ ⟨(blk_cell BK261.out 0).trans rfl, (blk_cell BK261.out 1).trans rfl, (blk_cell BK209.out 0).trans rfl, (blk_cell BK209.out 1).trans rfl⟩ (fun hHeld => ?_)
                              clear hK K
                              refine norm_ (a' := ?_) ?_ ?_
                              rotate_left
                              · show Act.put _ (some 260) _ = _
                                simp only [Act.put, List.setIfInBounds_toArray, List.set_cons_zero, List.set_cons_succ, i64_w, i32_w]
                                rfl
                              refine pure_ (i := 28) (N := some 261) (v := ?_) (a' := ?_) #[true, true, true, true, true, true, true, true, true, true, true, true, true, true, true, true, true, true, true, true, true, true, true, true, true, true, true, true, true, false] rfl rfl (any_of HT_.out (by kernel_rfl)) (fun _ _ _ h => h) (Or.inl ⟨by rfl, ?_⟩) ?_ ?_
                              rotate_left
                              · intro w'
                                go_simp
                                with_reducible rfl
                              rotate_left
                              · simp only [Act.put, List.setIfInBounds_toArray, List.set_cons_zero, List.set_cons_succ, i64_w, i32_w]
                                rfl
                              refine pure_ (i := 29) (N := some 262) (v := ?_) (a' := ?_) #[true, true, true, true, true, true, true, true, true, true, true, true, true, true, true, true, true, true, true, true, true, true, true, true, true, true, true, true, true, true] rfl rfl (any_of HT_.out (by kernel_rfl)) (fun _ _ _ h => h) (Or.inl ⟨by rfl, ?_⟩) ?_ ?_
                              rotate_left
                              · intro w'
                                go_simp
                                with_reducible rfl
                              rotate_left
                              · simp only [Act.put, List.setIfInBounds_toArray, List.set_cons_zero, List.set_cons_succ, i64_w, i32_w]
                                rfl
                              refine done_ (done_of HT_.out (by kernel_rfl)) ?_
                              try go_wp2
                              go_roundg k3
                              case measure => have := HJ7.out; have := HK2.out; have := HK3.out; omega
                              case rel => exact ⟨(wrap64 (x230_3 + 1)), (by first | rfl | (simp; done) | (simp [*]; done) | (refine congrArg (Value.int .i64) ?_; unfold wrap64; omega)), H', ⟨by have := HJ7.out; have := HK2.out; have := HK3.out; omega⟩, ⟨by exact BK209.out⟩, ⟨by exact HB.out⟩⟩
                    · rw [if_neg c91] at H
                      exact absurd H (by simp)
                  · rw [if_neg c90] at H
                    have c90b0 : decide (x230_3 < 4) = false := decide_eq_false c90
                    clear c90
                    replace H := Option.bind_eq_some_iff.mp H
                    obtain ⟨t260, A1180, H⟩ := H
                    replace H : (some t260) = some r := H
                    have A118 := Aside0.mk A1180
                    clear A1180
                    obtain rfl := Option.some.inj H
                    go_wp2_with (first | ((with_reducible refine gate_callee (f := 10) rfl ?_); refine goesL_ (some 264) rfl rfl Try.func10 (by kernel_rfl) rfl #[] rfl (by (try simp only [List.map_toArray, List.map_cons, List.map_nil]); first | done | rfl | (simp only [List.length_drop, List.length_take]; rfl)) ?_; (with_reducible refine (trustquorumlaw35_sane.calls k3  t260 _ A118.out).mono ?_); rintro e w119 ⟨rfl, hb⟩; refine ⟨_, rfl, ?_⟩; have n0_ := Aside0.mk (blk_below BK209.out hb); have n1_ := Aside0.mk (below_step (by exact HB.out) hb); clear BK209 HB; have BK209 := n0_; have HB := n1_; clear n0_ n1_; (try clear hb); (try clear hb2); (try clear hk); (try clear hi); (try clear A118)))
                    go_ret
                    exact ⟨by first | rfl | (simp [errW_none, errW_some] <;> rfl) | (simp [*, errW_none, errW_some] <;> rfl), by exact HB.out⟩

def g38 (x : S38) : Prop := x.f0.size ≤ maxLen ∧ (Lit.int .i64 x.f1).wf = true
/-- THE ONE PURE STATEMENT of trustquorumlaw35_AmountExact: yours. -/
def trustquorumlaw35_AmountExact.Pure : Prop := ∀ (l0 : List Int) (a1 : Int) (a2 : Int) (a3 : Int) (a4 : Int) (a5_0 : ByteArray) (a5_1 : Int) (a6_0 : ByteArray) (a6_1 : Int), l0.length ≤ maxLen → l0.length * 8 ≤ 140737488351232 → (∀ x ∈ l0, (Lit.int .i64 x).wf = true) → (Lit.int .i64 a1).wf = true → (Lit.int .i64 a2).wf = true → (Lit.int .i64 a3).wf = true → (Lit.int .i64 a4).wf = true → g38 (⟨a5_0, a5_1⟩ : S38) → g38 (⟨a6_0, a6_1⟩ : S38) → ∃ k, trustquorumlaw35_AmountExact.f k l0 a1 a2 a3 a4 a5_0 a5_1 a6_0 a6_1 = some true
theorem trustquorumlaw35_AmountExact.walk (P : trustquorumlaw35_AmountExact.Pure) (a0 : Option Addr) (len0 cap0 : Nat) (z0 : List Int) (a1 : Int) (a2 : Int) (a3 : Int) (a4 : Int) (a5_0 : ByteArray) (a5_1 : Int) (a6_0 : ByteArray) (a6_1 : Int) (w : World) (w0 : (a0 = none ∧ len0 = 0 ∧ cap0 = 0 ∧ z0 = []) ∨ ∃ x, a0 = some x ∧ len0 ≤ cap0 ∧ cap0 ≤ maxLen ∧ z0.length = cap0 ∧ (∀ i, i < z0.length → w.cell? (x.add i) = some (.int .i64 (z0.getD i 0))) ∧ ∀ n ∈ z0, (Lit.int .i64 n).wf = true) (y0 : len0 * 8 ≤ 140737488351232) (w1 : (Lit.int .i64 a1).wf = true) (w2 : (Lit.int .i64 a2).wf = true) (w3 : (Lit.int .i64 a3).wf = true) (w4 : (Lit.int .i64 a4).wf = true) (w5 : g38 (⟨a5_0, a5_1⟩ : S38)) (w6 : g38 (⟨a6_0, a6_1⟩ : S38)) :
    Calls Try.prog 7 #[.slice a0 len0 cap0, .int .i64 a1, .int .i64 a2, .int .i64 a3, .int .i64 a4, .agg #[.string a5_0, .int .i64 a5_1], .agg #[.string a6_0, .int .i64 a6_1]] w fun e w' => e = .returned (.bool true) ∧ Below w.heap.size w w' := by
  obtain ⟨l0, rfl, hr0, hm0, hw0, hc0⟩ := ReadsInt.ofRowC w0
  obtain ⟨k, h⟩ := P l0 a1 a2 a3 a4 a5_0 a5_1 a6_0 a6_1 hm0 y0 hw0 w1 w2 w3 w4 w5 w6
  refine (trustquorumlaw35_AmountExact.calls k _ _ l0 a1 a2 a3 a4 a5_0 a5_1 a6_0 a6_1 true w (Kd.C_of_reads (d := (0 : Int)) (h1 := fun _ => rfl) hr0) hc0 ⟨rfl⟩ h).mono ?_
  rintro e w' ⟨rfl, hd⟩
  exact ⟨rfl, hd⟩

end Go.Proofs.Ytkiebhjbnnnikaa.QAmountExact
