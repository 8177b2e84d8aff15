/- Contracts of functions of the program, and what proves them (texts: Awk). -/
import Derived.KernelRfl
import Derived.Test.YtaidcaemdkncgaaGreatDoorZAM
set_option linter.all false
set_option maxRecDepth 100000
set_option maxHeartbeats 8000000
namespace Go.Proofs.YtaidcaemdkncgaaGreatDoor
open Go Go.Lg Go.Num
noncomputable def bodyB (f : FuncId) : Bool := match Tryz.prog.funcs[f]? with
 | some fn => match fn.body with
   | some c => drawsAll c && fn.name != "runtime.NumGoroutine"
   | none => true
 | none => true
theorem bodies_all : ((List.range Tryz.prog.funcs.size).all fun f => bodyB f || [33,18,290].elem f) = true := by kernel_rfl
theorem bodies_ok : BodiesOk Tryz.prog [33,18,290] := by
 intro f fn c hf hbad hc
 have hlt : f < Tryz.prog.funcs.size := by
  obtain ⟨h,_⟩ := Array.getElem?_eq_some_iff.1 hf
  exact h
 have h := List.all_eq_true.1 bodies_all f (List.mem_range.2 hlt)
 rw [hbad,Bool.or_false] at h
 unfold bodyB at h
 rw [hf] at h
 simp only [hc,Bool.and_eq_true,bne_iff_ne,ne_eq] at h
 exact ⟨h.2,h.1⟩
noncomputable def ev (f : Nat) (args : List LV) : Option LV := evP Tryz.prog orc (fun _ => 0) [33,18,290] 400 f args
theorem ev_good {f : Nat} {args : List LV} {r : LV} (h : ev f args = some r) : PureGood Tryz.prog f args r := evP_sound mix orc_ok bodies_ok h
theorem quad23_good : PureGood Tryz.prog 20 [i64 1,i64 (-23)] (.tup [.agg [.lit (.bool true),.sl 1 [.lit (.int .u32 3)],.lit (.bool false),.sl 1 [.lit (.int .u32 1)]],i64 0]) := ev_good (by kernel_rfl)
theorem psum25_good : PureGood Tryz.prog 52 [i64 2,i64 5] (.tup [.agg [.lit (.bool false),.sl 1 [.lit (.int .u32 30)]],i64 0]) := ev_good (by kernel_rfl)
theorem frac691_good : PureGood Tryz.prog 53 [i64 (-691),i64 2730] (.agg [.lit (.bool true),.sl 1 [.lit (.int .u32 691)],.lit (.bool false),.sl 1 [.lit (.int .u32 2730)]]) := ev_good (by kernel_rfl)
end Go.Proofs.YtaidcaemdkncgaaGreatDoor