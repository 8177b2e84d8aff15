/- Contracts of functions of the program, and what proves them (texts: EAr2). -/
import Derived.KernelRfl
import Derived.Test.YtaidcaemdkncgaaGreatDoorZFinSeriesAI
set_option linter.all false
set_option maxRecDepth 100000
set_option maxHeartbeats 8000000
namespace Go.Proofs.YtaidcaemdkncgaaGreatDoor
open Go Go.Lg Go.Num
theorem bJ8:pS 53 0 10=true:=by kernel_rfl
theorem bJ9:pS 53 10 10=true:=by kernel_rfl
theorem bKa:pS 53 20 10=true:=by kernel_rfl
theorem bKb:pS 53 30 10=true:=by kernel_rfl
theorem bKc:pS 53 40 10=true:=by kernel_rfl
theorem bKd:pS 53 50 10=true:=by kernel_rfl
theorem cG6:(bP (od 53)).all (bZ 53)=true:=jK 53 10 6 (by decide+kernel) ⟨bJ8,bJ9,bKa,bKb,bKc,bKd,trivial⟩
theorem bKe:pS 45 0 10=true:=by kernel_rfl
theorem bKf:pS 45 10 10=true:=by kernel_rfl
theorem bKg:pS 45 20 10=true:=by kernel_rfl
theorem cG7:(bP (od 45)).all (bZ 45)=true:=jK 45 10 3 (by decide+kernel) ⟨bKe,bKf,bKg,trivial⟩
theorem bKh:pS 31 0 10=true:=by kernel_rfl
theorem bKi:pS 31 10 10=true:=by kernel_rfl
theorem bKj:pS 31 20 10=true:=by kernel_rfl
theorem cG8:(bP (od 31)).all (bZ 31)=true:=jK 31 10 3 (by decide+kernel) ⟨bKh,bKi,bKj,trivial⟩
theorem bKk:pS 27 0 10=true:=by kernel_rfl
theorem bKl:pS 27 10 10=true:=by kernel_rfl
theorem cG9:(bP (od 27)).all (bZ 27)=true:=jK 27 10 2 (by decide+kernel) ⟨bKk,bKl,trivial⟩
theorem bKm:pS 21 0 10=true:=by kernel_rfl
theorem bKn:pS 21 10 10=true:=by kernel_rfl
theorem cHa:(bP (od 21)).all (bZ 21)=true:=jK 21 10 2 (by decide+kernel) ⟨bKm,bKn,trivial⟩
theorem bKo:pS 16 0 10=true:=by kernel_rfl
theorem cHb:(bP (od 16)).all (bZ 16)=true:=jK 16 10 1 (by decide+kernel) ⟨bKo,trivial⟩
theorem bWx:pS 7 0 10=true:=by kernel_rfl
theorem cL5:(bP (od 7)).all (bZ 7)=true:=jK 7 10 1 (by decide+kernel) ⟨bWx,trivial⟩
theorem bWy:pS 1 0 10=true:=by kernel_rfl
theorem cL6:(bP (od 1)).all (bZ 1)=true:=jK 1 10 1 (by decide+kernel) ⟨bWy,trivial⟩
end Go.Proofs.YtaidcaemdkncgaaGreatDoor
