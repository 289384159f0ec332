import Derived.Test.YtjijikgandkphaaDoorGx22
namespace Go.Proofs.YtjijikgandkphaaDoor.Plain
open Go.RowKit Go.Proofs.YtjijikgandkphaaDoor.G Go.Proofs.YtjijikgandkphaaDoorW.PrintWords Go.Proofs.YtjijikgandkphaaDoorW.PrintLast Go.Proofs.YtjijikgandkphaaDoorW.PrintMore
set_option linter.unusedVariables false
set_option linter.unusedSimpArgs false
set_option maxRecDepth 100000 in
theorem known_ok : interlocutorlaw11_known.f 60 = some true := by decide +kernel
theorem known_at (k : Nat) (h : 60 ≤ k) : interlocutorlaw11_known.f k = some true := at_rounds interlocutorlaw11_known.mono h known_ok
theorem within_ok (a n : Int) (h : 0 < n) (h2 : n ≤ 4611686018427387904) : interlocutorlaw11_within.f a n = some (a % n) := by
 unfold interlocutorlaw11_within.f
 rw [if_neg (by omega)]
 have h1 := Int.emod_nonneg a (show n ≠ 0 by omega)
 have h2 := Int.emod_lt_of_pos a h
 rw [Int.tmod_eq_emod]
 have hn3 : (n.natAbs : Int) = n := by omega
 split
 ·rw [if_neg (by omega)]
  simp
 ·rw [hn3, if_pos (by omega), show wrap64 (a % n - n + n) = a % n by unfold wrap64; omega]
end Go.Proofs.YtjijikgandkphaaDoor.Plain
