/- Contracts of functions of the program, and what proves them (texts: EAr4). -/
import Derived.KernelRfl
import Derived.Test.YtaidcaemdkncgaaGreatDoorZFinSeriesAI
set_option linter.all false
set_option maxRecDepth 100000
set_option maxHeartbeats 8000000
namespace Go.Proofs.YtaidcaemdkncgaaGreatDoor
open Go Go.Lg Go.Num
theorem bK4:pS 49 0 10=true:=by kernel_rfl
theorem bK5:pS 49 10 10=true:=by kernel_rfl
theorem bK6:pS 49 20 10=true:=by kernel_rfl
theorem bK7:pS 49 30 10=true:=by kernel_rfl
theorem bK8:pS 49 40 10=true:=by kernel_rfl
theorem cHj:(bP (od 49)).all (bZ 49)=true:=jK 49 10 5 (by decide+kernel) ⟨bK4,bK5,bK6,bK7,bK8,trivial⟩
theorem bK9:pS 37 0 10=true:=by kernel_rfl
theorem bLa:pS 37 10 10=true:=by kernel_rfl
theorem bLb:pS 37 20 10=true:=by kernel_rfl
theorem bLc:pS 37 30 10=true:=by kernel_rfl
theorem cHk:(bP (od 37)).all (bZ 37)=true:=jK 37 10 4 (by decide+kernel) ⟨bK9,bLa,bLb,bLc,trivial⟩
theorem bLd:pS 44 0 10=true:=by kernel_rfl
theorem bLe:pS 44 10 10=true:=by kernel_rfl
theorem cHl:(bP (od 44)).all (bZ 44)=true:=jK 44 10 2 (by decide+kernel) ⟨bLd,bLe,trivial⟩
theorem bLf:pS 33 0 10=true:=by kernel_rfl
theorem bLg:pS 33 10 10=true:=by kernel_rfl
theorem cHm:(bP (od 33)).all (bZ 33)=true:=jK 33 10 2 (by decide+kernel) ⟨bLf,bLg,trivial⟩
theorem bLh:pS 28 0 10=true:=by kernel_rfl
theorem bLi:pS 28 10 10=true:=by kernel_rfl
theorem cHn:(bP (od 28)).all (bZ 28)=true:=jK 28 10 2 (by decide+kernel) ⟨bLh,bLi,trivial⟩
theorem bLj:pS 13 0 10=true:=by kernel_rfl
theorem bLk:pS 13 10 10=true:=by kernel_rfl
theorem cHo:(bP (od 13)).all (bZ 13)=true:=jK 13 10 2 (by decide+kernel) ⟨bLj,bLk,trivial⟩
theorem bLl:pS 11 0 10=true:=by kernel_rfl
theorem cHp:(bP (od 11)).all (bZ 11)=true:=jK 11 10 1 (by decide+kernel) ⟨bLl,trivial⟩
end Go.Proofs.YtaidcaemdkncgaaGreatDoor
