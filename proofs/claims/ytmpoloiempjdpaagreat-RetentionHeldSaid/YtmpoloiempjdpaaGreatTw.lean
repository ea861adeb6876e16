/- The types of the data that are read; the data that fit a shape are of its type. -/
import Derived.Test.YtmpoloiempjdpaaGreatS28
set_option linter.unusedVariables false
namespace Go.Ev
open Go
mutual
def s8.ty:s8→Ty
 |.i k=>.i k k.min k.max
 |.b=>.b
 |.s=>.s maxLen
 |.sl row=>.l maxLen (tyRow row)
def tyRow:List s8→List Ty
 |[]=>[]
 |p::ps=>p.ty::tyRow ps
end
mutual
theorem fits_ok:∀{p:s8}{d:DC},p.fits d→p.ty.ok d
 |.i k,d,h=>by
  simp only[s8.fits] at h;obtain⟨n,rfl,hw⟩:=h;have h2:k.min≤n∧n≤k.max:=by simpa[Lit.wf] using hw
  exact dV h2.1 h2.2
 |.b,d,h=>by
  simp only[s8.fits] at h;obtain⟨n,rfl⟩:=h;exact eU
 |.s,d,h=>by
  simp only[s8.fits] at h;obtain⟨s,rfl,h2⟩:=h;exact bH h2
 |.sl row,d,h=>by
  simp only[s8.fits] at h;rcases h with rfl|⟨rows,rfl,h2,h3⟩
  ·exact gK
  ·exact aM (.inl rfl) h2 fun r hr=>fitsRow_ok (h3 r hr)
theorem fitsRow_ok:∀{ps:List s8}{l:List DC},lK ps l→fk (tyRow ps) l
 |[],l,h=>by
  simp only[lK] at h;subst h;exact bm
 |p::ps,l,h=>by
  simp only[lK] at h;obtain⟨d,r,rfl,h1,h2⟩:=h;exact aj (fits_ok h1) (fitsRow_ok h2)
end
end Go.Ev
