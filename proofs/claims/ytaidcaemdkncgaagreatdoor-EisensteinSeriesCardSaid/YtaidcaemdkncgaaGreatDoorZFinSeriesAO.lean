/- Contracts of functions of the program, and what proves them (texts: EAr6). -/
import Derived.KernelRfl
import Derived.Test.YtaidcaemdkncgaaGreatDoorZFinSeriesAI
set_option linter.all false
set_option maxRecDepth 100000
set_option maxHeartbeats 8000000
namespace Go.Proofs.YtaidcaemdkncgaaGreatDoor
open Go Go.Lg Go.Num
theorem bL2:pS 47 0 10=true:=by kernel_rfl
theorem bL3:pS 47 10 10=true:=by kernel_rfl
theorem bL4:pS 47 20 10=true:=by kernel_rfl
theorem bL5:pS 47 30 10=true:=by kernel_rfl
theorem bL6:pS 47 40 10=true:=by kernel_rfl
theorem cHw:(bP (od 47)).all (bZ 47)=true:=jK 47 10 5 (by decide+kernel) ⟨bL2,bL3,bL4,bL5,bL6,trivial⟩
theorem bL7:pS 58 0 10=true:=by kernel_rfl
theorem bL8:pS 58 10 10=true:=by kernel_rfl
theorem bL9:pS 58 20 10=true:=by kernel_rfl
theorem cHx:(bP (od 58)).all (bZ 58)=true:=jK 58 10 3 (by decide+kernel) ⟨bL7,bL8,bL9,trivial⟩
theorem bMa:pS 35 0 10=true:=by kernel_rfl
theorem bMb:pS 35 10 10=true:=by kernel_rfl
theorem bMc:pS 35 20 10=true:=by kernel_rfl
theorem cHy:(bP (od 35)).all (bZ 35)=true:=jK 35 10 3 (by decide+kernel) ⟨bMa,bMb,bMc,trivial⟩
theorem bMd:pS 36 0 10=true:=by kernel_rfl
theorem bMe:pS 36 10 10=true:=by kernel_rfl
theorem cHz:(bP (od 36)).all (bZ 36)=true:=jK 36 10 2 (by decide+kernel) ⟨bMd,bMe,trivial⟩
theorem bMf:pS 19 0 10=true:=by kernel_rfl
theorem bMg:pS 19 10 10=true:=by kernel_rfl
theorem cH0:(bP (od 19)).all (bZ 19)=true:=jK 19 10 2 (by decide+kernel) ⟨bMf,bMg,trivial⟩
theorem bMh:pS 20 0 10=true:=by kernel_rfl
theorem cH1:(bP (od 20)).all (bZ 20)=true:=jK 20 10 1 (by decide+kernel) ⟨bMh,trivial⟩
theorem bMi:pS 14 0 10=true:=by kernel_rfl
theorem cH2:(bP (od 14)).all (bZ 14)=true:=jK 14 10 1 (by decide+kernel) ⟨bMi,trivial⟩
end Go.Proofs.YtaidcaemdkncgaaGreatDoor
