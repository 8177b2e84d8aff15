/- Contracts of functions of the program, and what proves them (texts: EAr3). -/
import Derived.KernelRfl
import Derived.Test.YtaidcaemdkncgaaGreatDoorZFinSeriesAI
set_option linter.all false
set_option maxRecDepth 100000
set_option maxHeartbeats 8000000
namespace Go.Proofs.YtaidcaemdkncgaaGreatDoor
open Go Go.Lg Go.Num
theorem bKp:pS 55 0 10=true:=by kernel_rfl
theorem bKq:pS 55 10 10=true:=by kernel_rfl
theorem bKr:pS 55 20 10=true:=by kernel_rfl
theorem bKs:pS 55 30 10=true:=by kernel_rfl
theorem cHc:(bP (od 55)).all (bZ 55)=true:=jK 55 10 4 (by decide+kernel) ⟨bKp,bKq,bKr,bKs,trivial⟩
theorem bKt:pS 60 0 10=true:=by kernel_rfl
theorem bKu:pS 60 10 10=true:=by kernel_rfl
theorem cHd:(bP (od 60)).all (bZ 60)=true:=jK 60 10 2 (by decide+kernel) ⟨bKt,bKu,trivial⟩
theorem bKv:pS 46 0 10=true:=by kernel_rfl
theorem bKw:pS 46 10 10=true:=by kernel_rfl
theorem bKx:pS 46 20 10=true:=by kernel_rfl
theorem cHe:(bP (od 46)).all (bZ 46)=true:=jK 46 10 3 (by decide+kernel) ⟨bKv,bKw,bKx,trivial⟩
theorem bKy:pS 42 0 10=true:=by kernel_rfl
theorem bKz:pS 42 10 10=true:=by kernel_rfl
theorem cHf:(bP (od 42)).all (bZ 42)=true:=jK 42 10 2 (by decide+kernel) ⟨bKy,bKz,trivial⟩
theorem bK0:pS 26 0 10=true:=by kernel_rfl
theorem bK1:pS 26 10 10=true:=by kernel_rfl
theorem cHg:(bP (od 26)).all (bZ 26)=true:=jK 26 10 2 (by decide+kernel) ⟨bK0,bK1,trivial⟩
theorem bK2:pS 24 0 10=true:=by kernel_rfl
theorem cHh:(bP (od 24)).all (bZ 24)=true:=jK 24 10 1 (by decide+kernel) ⟨bK2,trivial⟩
theorem bK3:pS 10 0 10=true:=by kernel_rfl
theorem cHi:(bP (od 10)).all (bZ 10)=true:=jK 10 10 1 (by decide+kernel) ⟨bK3,trivial⟩
end Go.Proofs.YtaidcaemdkncgaaGreatDoor
