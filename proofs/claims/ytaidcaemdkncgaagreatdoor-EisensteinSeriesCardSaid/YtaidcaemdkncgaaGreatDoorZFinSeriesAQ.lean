/- Contracts of functions of the program, and what proves them (texts: EAr8). -/
import Derived.KernelRfl
import Derived.Test.YtaidcaemdkncgaaGreatDoorZFinSeriesAI
set_option linter.all false
set_option maxRecDepth 100000
set_option maxHeartbeats 8000000
namespace Go.Proofs.YtaidcaemdkncgaaGreatDoor
open Go Go.Lg Go.Num
theorem bMz:pS 51 0 10=true:=by kernel_rfl
theorem bM0:pS 51 10 10=true:=by kernel_rfl
theorem bM1:pS 51 20 10=true:=by kernel_rfl
theorem bM2:pS 51 30 10=true:=by kernel_rfl
theorem cH9:(bP (od 51)).all (bZ 51)=true:=jK 51 10 4 (by decide+kernel) ⟨bMz,bM0,bM1,bM2,trivial⟩
theorem bM3:pS 56 0 10=true:=by kernel_rfl
theorem bM4:pS 56 10 10=true:=by kernel_rfl
theorem bM5:pS 56 20 10=true:=by kernel_rfl
theorem cIa:(bP (od 56)).all (bZ 56)=true:=jK 56 10 3 (by decide+kernel) ⟨bM3,bM4,bM5,trivial⟩
theorem bM6:pS 50 0 10=true:=by kernel_rfl
theorem bM7:pS 50 10 10=true:=by kernel_rfl
theorem cIb:(bP (od 50)).all (bZ 50)=true:=jK 50 10 2 (by decide+kernel) ⟨bM6,bM7,trivial⟩
theorem bM8:pS 38 0 10=true:=by kernel_rfl
theorem bM9:pS 38 10 10=true:=by kernel_rfl
theorem cIc:(bP (od 38)).all (bZ 38)=true:=jK 38 10 2 (by decide+kernel) ⟨bM8,bM9,trivial⟩
theorem bNa:pS 34 0 10=true:=by kernel_rfl
theorem bNb:pS 34 10 10=true:=by kernel_rfl
theorem cId:(bP (od 34)).all (bZ 34)=true:=jK 34 10 2 (by decide+kernel) ⟨bNa,bNb,trivial⟩
theorem bNc:pS 18 0 10=true:=by kernel_rfl
theorem cIe:(bP (od 18)).all (bZ 18)=true:=jK 18 10 1 (by decide+kernel) ⟨bNc,trivial⟩
theorem bW3:pS 5 0 10=true:=by kernel_rfl
theorem cMb:(bP (od 5)).all (bZ 5)=true:=jK 5 10 1 (by decide+kernel) ⟨bW3,trivial⟩
theorem bW4:pS 6 0 10=true:=by kernel_rfl
theorem cMc:(bP (od 6)).all (bZ 6)=true:=jK 6 10 1 (by decide+kernel) ⟨bW4,trivial⟩
end Go.Proofs.YtaidcaemdkncgaaGreatDoor
