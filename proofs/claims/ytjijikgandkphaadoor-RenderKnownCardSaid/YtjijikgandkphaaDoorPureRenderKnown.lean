import Derived.Test.YtjijikgandkphaaDoorGx23
import Derived.Test.YtjijikgandkphaaDoorPlain11
namespace Go.Proofs.YtjijikgandkphaaDoor.Pure
open Go.RowKit Go.Proofs.YtjijikgandkphaaDoor.G Go.Proofs.YtjijikgandkphaaDoorW.PrintWords Go.Proofs.YtjijikgandkphaaDoorW.PrintLast Go.Proofs.YtjijikgandkphaaDoor.Plain
set_option maxRecDepth 100000 in
theorem known_ten : ∀ c : Fin 10, ((render_Write.f 60 ⟨#[]⟩ 0 0 knLex [] knSty (rd knK (c.val : Int)) (rd_T38 knVal (c.val : Int)).f0 (rd_T38 knVal (c.val : Int)).f1).bind fun b => if knOk (rdOf ByteArray.empty knW (c.val : Int)) b = true then some true else none) = some true := by decide +kernel
theorem RenderKnown : interlocutorlaw11_RenderKnown.Pure := by
 intro a0 _
 refine ⟨60, ?_⟩
 unfold interlocutorlaw11_RenderKnown.f
 rw [known_ok, Option.bind_some, if_pos rfl, within_ok a0 10 (by decide) (by decide), Option.bind_some]
 have h1 := Int.emod_nonneg a0 (show (10 : Int) ≠ 0 by decide)
 have h2 := Int.emod_lt_of_pos a0 (show (0 : Int) < 10 by decide)
 rw [if_pos ⟨h1, h2⟩]
 have h := known_ten ⟨(a0 % 10).toNat, by omega⟩
 rw [show (((⟨(a0 % 10).toNat, by omega⟩ : Fin 10).val : Nat) : Int) = a0 % 10 from Int.toNat_of_nonneg h1] at h
 exact h
end Go.Proofs.YtjijikgandkphaaDoor.Pure
