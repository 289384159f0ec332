import Derived.Test.YtjijikgandkphaaDoorGx24
import Derived.Test.YtjijikgandkphaaDoorPlain11
namespace Go.Proofs.YtjijikgandkphaaDoor.Pure
open Go.RowKit Go.Proofs.YtjijikgandkphaaDoor.G Go.Proofs.YtjijikgandkphaaDoorW.PrintWords Go.Proofs.YtjijikgandkphaaDoorW.PrintLast Go.Proofs.YtjijikgandkphaaDoor.Plain
set_option maxRecDepth 100000 in
theorem long_ten : ∀ c : Fin 10, ((interlocutorlaw11_part.f 0 9).bind fun bt355 => ((interlocutorlaw11_part.f 0 9).bind fun bt360 => ((interlocutorlaw11_part.f 0 9).bind fun bt365 => (interlocutorlaw11_RenderLong.l0 60 (c.val : Int) 0 9 (([(⟨bt355.1, bt355.2.1, bt355.2.2.1, bt355.2.2.2.1, bt355.2.2.2.2⟩ : S27), (⟨bt360.1, bt360.2.1, bt360.2.2.1, bt360.2.2.2.1, bt360.2.2.2.2⟩ : S27), (⟨bt365.1, bt365.2.1, bt365.2.2.1, bt365.2.2.2.1, bt365.2.2.2.2⟩ : S27)] : List (S27))))))) = some true := by decide +kernel
theorem RenderLong : interlocutorlaw11_RenderLong.Pure := by
 intro a0 _
 refine ⟨60, ?_⟩
 unfold interlocutorlaw11_RenderLong.f
 rw [known_ok, Option.bind_some, if_pos rfl, within_ok a0 10 (by decide) (by decide), Option.bind_some]
 have h1 := Int.emod_nonneg a0 (show (10 : Int) ≠ 0 by decide)
 have h2 := Int.emod_lt_of_pos a0 (show (0 : Int) < 10 by decide)
 have h := long_ten ⟨(a0 % 10).toNat, by omega⟩
 rw [show (((⟨(a0 % 10).toNat, by omega⟩ : Fin 10).val : Nat) : Int) = a0 % 10 from Int.toNat_of_nonneg h1] at h
 exact h
end Go.Proofs.YtjijikgandkphaaDoor.Pure
