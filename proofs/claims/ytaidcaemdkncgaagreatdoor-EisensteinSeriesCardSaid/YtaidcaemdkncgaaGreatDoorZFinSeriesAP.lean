/- Contracts of functions of the program, and what proves them (texts: EAr7). -/
import Derived.KernelRfl
import Derived.Test.YtaidcaemdkncgaaGreatDoorZFinSeriesAI
set_option linter.all false
set_option maxRecDepth 100000
set_option maxHeartbeats 8000000
namespace Go.Proofs.YtaidcaemdkncgaaGreatDoor
open Go Go.Lg Go.Num
theorem bMj:pS 43 0 10=true:=by kernel_rfl
theorem bMk:pS 43 10 10=true:=by kernel_rfl
theorem bMl:pS 43 20 10=true:=by kernel_rfl
theorem bMm:pS 43 30 10=true:=by kernel_rfl
theorem bMn:pS 43 40 10=true:=by kernel_rfl
theorem cH3:(bP (od 43)).all (bZ 43)=true:=jK 43 10 5 (by decide+kernel) ⟨bMj,bMk,bMl,bMm,bMn,trivial⟩
theorem bMo:pS 41 0 10=true:=by kernel_rfl
theorem bMp:pS 41 10 10=true:=by kernel_rfl
theorem bMq:pS 41 20 10=true:=by kernel_rfl
theorem bMr:pS 41 30 10=true:=by kernel_rfl
theorem cH4:(bP (od 41)).all (bZ 41)=true:=jK 41 10 4 (by decide+kernel) ⟨bMo,bMp,bMq,bMr,trivial⟩
theorem bMs:pS 48 0 10=true:=by kernel_rfl
theorem bMt:pS 48 10 10=true:=by kernel_rfl
theorem cH5:(bP (od 48)).all (bZ 48)=true:=jK 48 10 2 (by decide+kernel) ⟨bMs,bMt,trivial⟩
theorem bMu:pS 29 0 10=true:=by kernel_rfl
theorem bMv:pS 29 10 10=true:=by kernel_rfl
theorem bMw:pS 29 20 10=true:=by kernel_rfl
theorem cH6:(bP (od 29)).all (bZ 29)=true:=jK 29 10 3 (by decide+kernel) ⟨bMu,bMv,bMw,trivial⟩
theorem bMx:pS 30 0 10=true:=by kernel_rfl
theorem cH7:(bP (od 30)).all (bZ 30)=true:=jK 30 10 1 (by decide+kernel) ⟨bMx,trivial⟩
theorem bMy:pS 22 0 10=true:=by kernel_rfl
theorem cH8:(bP (od 22)).all (bZ 22)=true:=jK 22 10 1 (by decide+kernel) ⟨bMy,trivial⟩
theorem bW1:pS 9 0 10=true:=by kernel_rfl
theorem cL9:(bP (od 9)).all (bZ 9)=true:=jK 9 10 1 (by decide+kernel) ⟨bW1,trivial⟩
theorem bW2:pS 3 0 10=true:=by kernel_rfl
theorem cMa:(bP (od 3)).all (bZ 3)=true:=jK 3 10 1 (by decide+kernel) ⟨bW2,trivial⟩
end Go.Proofs.YtaidcaemdkncgaaGreatDoor
