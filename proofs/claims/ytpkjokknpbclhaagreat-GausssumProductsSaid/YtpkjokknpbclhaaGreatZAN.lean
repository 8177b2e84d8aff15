/- Contracts of functions of the program, and what proves them (texts: Awk). -/
import Derived.KernelRfl
import Derived.Test.YtpkjokknpbclhaaGreatZAM
set_option linter.all false
namespace Go.Proofs.YtpkjokknpbclhaaGreat
open Go Go.Lg Go.Num
set_option maxRecDepth 100000
noncomputable def bodyB (f : FuncId) : Bool := match Tryz.prog.funcs[f]? with
 | some fn => match fn.body with
   | some c => drawsAll c && fn.name != "runtime.NumGoroutine"
   | none => true
 | none => true
theorem bodies_all : ((List.range Tryz.prog.funcs.size).all fun f => bodyB f || [9].elem f) = true := by kernel_rfl
theorem bodies_ok : BodiesOk Tryz.prog [9] := by
 intro f fn c hf hbad hc
 have hlt : f < Tryz.prog.funcs.size := by
  obtain ⟨h,_⟩ := Array.getElem?_eq_some_iff.1 hf
  exact h
 have h := List.all_eq_true.1 bodies_all f (List.mem_range.2 hlt)
 rw [hbad,Bool.or_false] at h
 unfold bodyB at h
 rw [hf] at h
 simp only [hc,Bool.and_eq_true,bne_iff_ne,ne_eq] at h
 exact ⟨h.2,h.1⟩
end Go.Proofs.YtpkjokknpbclhaaGreat