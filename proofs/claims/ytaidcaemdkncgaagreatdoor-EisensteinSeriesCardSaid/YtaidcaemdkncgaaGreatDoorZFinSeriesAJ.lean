/- Contracts of functions of the program, and what proves them (texts: EAr1). -/
import Derived.KernelRfl
import Derived.Test.YtaidcaemdkncgaaGreatDoorZFinSeriesAI
set_option linter.all false
set_option maxRecDepth 100000
set_option maxHeartbeats 8000000
namespace Go.Proofs.YtaidcaemdkncgaaGreatDoor
open Go Go.Lg Go.Num
theorem bJt:pS 59 0 10=true:=by kernel_rfl
theorem bJu:pS 59 10 10=true:=by kernel_rfl
theorem bJv:pS 59 20 10=true:=by kernel_rfl
theorem bJw:pS 59 30 10=true:=by kernel_rfl
theorem bJx:pS 59 40 10=true:=by kernel_rfl
theorem bJy:pS 59 50 10=true:=by kernel_rfl
theorem cG0:(bP (od 59)).all (bZ 59)=true:=jK 59 10 6 (by decide+kernel) ⟨bJt,bJu,bJv,bJw,bJx,bJy,trivial⟩
theorem bJz:pS 54 0 10=true:=by kernel_rfl
theorem bJ0:pS 54 10 10=true:=by kernel_rfl
theorem cG1:(bP (od 54)).all (bZ 54)=true:=jK 54 10 2 (by decide+kernel) ⟨bJz,bJ0,trivial⟩
theorem bJ1:pS 40 0 10=true:=by kernel_rfl
theorem bJ2:pS 40 10 10=true:=by kernel_rfl
theorem cG2:(bP (od 40)).all (bZ 40)=true:=jK 40 10 2 (by decide+kernel) ⟨bJ1,bJ2,trivial⟩
theorem bJ3:pS 25 0 10=true:=by kernel_rfl
theorem bJ4:pS 25 10 10=true:=by kernel_rfl
theorem cG3:(bP (od 25)).all (bZ 25)=true:=jK 25 10 2 (by decide+kernel) ⟨bJ3,bJ4,trivial⟩
theorem bJ5:pS 17 0 10=true:=by kernel_rfl
theorem bJ6:pS 17 10 10=true:=by kernel_rfl
theorem cG4:(bP (od 17)).all (bZ 17)=true:=jK 17 10 2 (by decide+kernel) ⟨bJ5,bJ6,trivial⟩
theorem bJ7:pS 12 0 10=true:=by kernel_rfl
theorem cG5:(bP (od 12)).all (bZ 12)=true:=jK 12 10 1 (by decide+kernel) ⟨bJ7,trivial⟩
theorem bWw:pS 2 0 10=true:=by kernel_rfl
theorem cL4:(bP (od 2)).all (bZ 2)=true:=jK 2 10 1 (by decide+kernel) ⟨bWw,trivial⟩
end Go.Proofs.YtaidcaemdkncgaaGreatDoor
