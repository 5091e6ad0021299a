/- PointTells, in plain numbers: of any places the program's turns, ways and meetings are the reference's; no condition. -/
import Derived.Test.YtlifeghjcgbfnaaGx11
import Derived.Test.YtlifeghjcgbfnaaGx16
import Derived.Test.YtlifeghjcgbfnaaArith
import Derived.Test.YtlifeghjcgbfnaaWideAdd
import Derived.Test.YtlifeghjcgbfnaaWide128
import Derived.Test.YtlifeghjcgbfnaaWideMul
import Derived.Test.YtlifeghjcgbfnaaGeo
import Derived.Test.YtlifeghjcgbfnaaPoint
import Derived.Test.YtlifeghjcgbfnaaStPointTells
namespace Go.Proofs.Ytlifeghjcgbfnaa.Pure
open Go.RowKit Go.Proofs.Ytlifeghjcgbfnaa.G Go.Proofs.Ytlifeghjcgbfnaa.Q Go.Proofs.Ytlifeghjcgbfnaa.Geo Go.Proofs.YtlifeghjcgbfnaaW.PrintWords Go.Proofs.YtlifeghjcgbfnaaW.PrintLast Go.Proofs.YtlifeghjcgbfnaaW.PrintMore

theorem awake10 (k : Nat) (h : 100 ≤ k) : apogeelaw10_awake.f k = some true := at_rounds (fun k => apogeelaw10_awake.mono k) h (by decide +kernel)

theorem PointTells : G.PointTells.Pure := by
  intro x0 x1 x2 x3 _ _ _ _
  have h1 := turn_ev (pt x0) (pt x1) (pt x2)
  have h2 := ref_turn_ev (pt x0) (pt x1) (pt x2)
  have h3 := on_ev (pt x0) (pt x1) (pt x2)
  have h4 := ref_on_ev (pt x0) (pt x1) (pt x2)
  have h5 := meet_ev (pt x0) (pt x1) (pt x2) (pt x3)
  have h6 := ref_meet_ev (pt x0) (pt x1) (pt x2) (pt x3)
  have r1 := point_right_one (pt x0)
  have r2 := ref_right_one (pt x0)
  unfold pt at h1 h2 h3 h4 h5 h6 r1 r2
  dsimp only at h1 h2 h3 h4 h5 h6 r1 r2
  obtain ⟨K1, h1⟩ := h1
  obtain ⟨K2, h2⟩ := h2
  obtain ⟨K3, h3⟩ := h3
  obtain ⟨K4, h4⟩ := h4
  obtain ⟨K5, h5⟩ := h5
  obtain ⟨K6, h6⟩ := h6
  dsimp only at h1 h2 h3 h4 h5 h6
  refine ⟨K1 + K2 + K3 + K4 + K5 + K6 + 100, ?_⟩
  unfold apogeelaw10_PointTells.f
  rw [awake10 _ (by omega), r1, r2, h1 _ (by omega), h2 _ (by omega), h3 _ (by omega), h4 _ (by omega), h5 _ (by omega), h6 _ (by omega)]
  simp

end Go.Proofs.Ytlifeghjcgbfnaa.Pure
