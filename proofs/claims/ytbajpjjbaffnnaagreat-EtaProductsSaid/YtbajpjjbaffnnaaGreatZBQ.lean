/- Contracts of functions of the program, and what proves them (texts: AwE). -/
import Derived.KernelRfl
import Derived.Test.YtbajpjjbaffnnaaGreatZAR
set_option linter.all false
namespace Go.Proofs.YtbajpjjbaffnnaaGreat
open Go Go.Lg Go.Num
set_option maxRecDepth 100000
def orcQuo (args : List LV) : Option LV :=
 match args with
 | [.agg l,.agg m] => match rdQ l,rdQ m with
   | some x,some y => fQ (x / y) fun r => bif tiny x && tiny y && tiny r && !(y.num == 0) then some (.tup [wrQ r,.lit (.int .i64 0)]) else none
   | _,_ => none
 | _ => none
theorem orcQuo_ok {args : List LV} {r : LV} (h : orcQuo args = some r) : PureGood Tryz.prog 88 args r := by
 unfold orcQuo at h
 split at h
 ·split at h
  ·rename_i l m x y h1 h2
   rw [fQ_eq] at h
   cases hb : (tiny x && tiny y && tiny (x / y) && !(y.num == 0)) with
   | true =>
     rw [hb] at h
     simp only [Bool.and_eq_true,Bool.not_eq_true',beq_eq_false_iff_ne,ne_eq] at hb
     cases h
     have hx := tiny_lq hb.1.1.1
     have hy := tiny_lq hb.1.1.2
     rw [wrQ_eq hb.1.2,rdQ_ok h1,rdQ_ok h2]
     exact quo_good x y (fun e => hb.2 (by rw [e];rfl)) (by omega) (by omega)
   | false => rw [hb] at h;cases h
  ·cases h
 ·cases h
def orc2 (f : FuncId) (args : List LV) : Option LV := bif Nat.beq f 88 then orcQuo args else orc f args
theorem orc2_ok : OrcOk Tryz.prog orc2 := orc_cons (f0 := 88) (g := orcQuo) (fun _ _ h => orcQuo_ok h) orc_ok
noncomputable def evw (f : Nat) (args : List LV) : Option LV := evPH Tryz.prog orc2 horc (fun _ => 0) [169,194] 400 f args
theorem evw_good {f : Nat} {args : List LV} {r : LV} (h : evw f args = some r) : PureGood Tryz.prog f args r := evPH_sound mix orc2_ok horc_ok bodies_ok h
theorem awake_good : PureGood Tryz.prog 13 [] (.lit (.bool true)) := evw_good (by kernel_rfl)
end Go.Proofs.YtbajpjjbaffnnaaGreat