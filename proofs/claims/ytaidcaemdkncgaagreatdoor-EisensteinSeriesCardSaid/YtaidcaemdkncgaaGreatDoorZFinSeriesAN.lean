/- Contracts of functions of the program, and what proves them (texts: EAr5). -/
import Derived.KernelRfl
import Derived.Test.YtaidcaemdkncgaaGreatDoorZFinSeriesAI
set_option linter.all false
set_option maxRecDepth 100000
set_option maxHeartbeats 8000000
namespace Go.Proofs.YtaidcaemdkncgaaGreatDoor
open Go Go.Lg Go.Num
theorem bLm:pS 57 0 10=true:=by kernel_rfl
theorem bLn:pS 57 10 10=true:=by kernel_rfl
theorem bLo:pS 57 20 10=true:=by kernel_rfl
theorem bLp:pS 57 30 10=true:=by kernel_rfl
theorem cHq:(bP (od 57)).all (bZ 57)=true:=jK 57 10 4 (by decide+kernel) ⟨bLm,bLn,bLo,bLp,trivial⟩
theorem bLq:pS 52 0 10=true:=by kernel_rfl
theorem bLr:pS 52 10 10=true:=by kernel_rfl
theorem bLs:pS 52 20 10=true:=by kernel_rfl
theorem cHr:(bP (od 52)).all (bZ 52)=true:=jK 52 10 3 (by decide+kernel) ⟨bLq,bLr,bLs,trivial⟩
theorem bLt:pS 39 0 10=true:=by kernel_rfl
theorem bLu:pS 39 10 10=true:=by kernel_rfl
theorem bLv:pS 39 20 10=true:=by kernel_rfl
theorem cHs:(bP (od 39)).all (bZ 39)=true:=jK 39 10 3 (by decide+kernel) ⟨bLt,bLu,bLv,trivial⟩
theorem bLw:pS 32 0 10=true:=by kernel_rfl
theorem bLx:pS 32 10 10=true:=by kernel_rfl
theorem cHt:(bP (od 32)).all (bZ 32)=true:=jK 32 10 2 (by decide+kernel) ⟨bLw,bLx,trivial⟩
theorem bLy:pS 23 0 10=true:=by kernel_rfl
theorem bLz:pS 23 10 10=true:=by kernel_rfl
theorem bL0:pS 23 20 10=true:=by kernel_rfl
theorem cHu:(bP (od 23)).all (bZ 23)=true:=jK 23 10 3 (by decide+kernel) ⟨bLy,bLz,bL0,trivial⟩
theorem bL1:pS 15 0 10=true:=by kernel_rfl
theorem cHv:(bP (od 15)).all (bZ 15)=true:=jK 15 10 1 (by decide+kernel) ⟨bL1,trivial⟩
theorem bWz:pS 8 0 10=true:=by kernel_rfl
theorem cL7:(bP (od 8)).all (bZ 8)=true:=jK 8 10 1 (by decide+kernel) ⟨bWz,trivial⟩
theorem bW0:pS 4 0 10=true:=by kernel_rfl
theorem cL8:(bP (od 4)).all (bZ 4)=true:=jK 4 10 1 (by decide+kernel) ⟨bW0,trivial⟩
end Go.Proofs.YtaidcaemdkncgaaGreatDoor
