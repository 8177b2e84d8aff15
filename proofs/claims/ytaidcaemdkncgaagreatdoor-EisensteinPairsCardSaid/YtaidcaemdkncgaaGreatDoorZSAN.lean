/- Contracts of functions of the program, and what proves them (texts: Awk). -/
import Derived.KernelRfl
import Derived.Test.YtaidcaemdkncgaaGreatDoorZSAM
set_option linter.all false
set_option maxRecDepth 100000
set_option maxHeartbeats 8000000
namespace Go.Proofs.YtaidcaemdkncgaaGreatDoor
open Go Go.Lg Go.Num
noncomputable def bNm (f:FuncId):Bool:=match Tryz.prog.funcs[f]? with
 |some fn=>match fn.body with
  |some c=>fP c && fn.name != "runtime.NumGoroutine"
  |none=>true
 |none=>true
theorem aSp:((List.range Tryz.prog.funcs.size).all fun f=>bNm f ||[33,18,290].elem f)=true:=by kernel_rfl
theorem lF:zQ Tryz.prog [33,18,290]:=by
 intro f fn c hf hbad hc
 have hlt:f<Tryz.prog.funcs.size:=by
  obtain⟨h,_⟩:=Array.getElem?_eq_some_iff.1 hf;exact h
 have h:=List.all_eq_true.1 aSp f (List.mem_range.2 hlt);rw[hbad,Bool.or_false]at h
 unfold bNm at h;rw[hf]at h
 simp only[hc,Bool.and_eq_true,bne_iff_ne,ne_eq]at h;exact⟨h.2,h.1⟩
noncomputable def ev (f:Nat) (args:List LV):Option LV:=evP Tryz.prog orc (fun _=>0) [33,18,290] 400 f args
end Go.Proofs.YtaidcaemdkncgaaGreatDoor
