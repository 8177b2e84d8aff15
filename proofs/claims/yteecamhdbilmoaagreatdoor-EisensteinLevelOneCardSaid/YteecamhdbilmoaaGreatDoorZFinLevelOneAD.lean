/- Contracts of functions of the program, and what proves them (texts: ClsD). -/
import Derived.Test.YteecamhdbilmoaaGreatDoorZAO
set_option linter.all false
namespace Go.Proofs.YteecamhdbilmoaaGreatDoor
open Go Go.Lg Go.ChangeShapes Go.WideShapes Go.ChangeAt Go.RowKit
set_option maxRecDepth 100000
theorem cDat : Tryz.prog.cellsOf 35 = 5 := by kernel_rfl
theorem cIntD : Tryz.prog.cellsOf 3 = 1 := by kernel_rfl
section
variable {H : Type} {enc : TypeId × Value → H} {w : World} {base : Nat} {spare : Nat → Bool} {held : Bool}
def datV (a b c e f : Int) : Value := .agg #[.int .i64 a,.int .i64 b,.int .i64 c,.int .i64 e,.int .i64 f]
def datD (a b c e f : Int) : DataW H := .agg [.lit (.int .i64 a),.lit (.int .i64 b),.lit (.int .i64 c),.lit (.int .i64 e),.lit (.int .i64 f)]
theorem open_dat {r : Reach} {b0 : Nat} {v : Value} {d : DataW H} {ps : List MemPlace} (hval : Value.okWide Tryz.prog w r b0 35 v) (hd : DataW.Trod enc Tryz.prog w base spare held 35 v d ps) :
  ∃ a b c e f,v = datV a b c e f ∧ d = datD a b c e f ∧ ps = [] ∧ (Lit.int .i64 a).wf = true ∧ (Lit.int .i64 b).wf = true ∧ (Lit.int .i64 c).wf = true ∧ (Lit.int .i64 e).wf = true ∧ (Lit.int .i64 f).wf = true := by
 obtain ⟨cs,rfl,h2⟩ := okWide_struct Tryz.underlying35 hval
 rw [cDat] at h2
 obtain ⟨fuel,hf⟩ := hd
 obtain ⟨xs,n,rfl,hx,hlen,hn,hel⟩ := DataW.trod_struct Tryz.underlying35 hf
 obtain ⟨l⟩ := cs
 match l,h2 with
 | [c0,c1,c2,c3,c4],_ =>
   match xs,hn with
   | [x0,x1,x2,x3,x4],_ =>
     have hc : (Value.agg #[c0,c1,c2,c3,c4]).cells = #[c0,c1,c2,c3,c4] := rfl
     have e0 : DataW.trod enc Tryz.prog w base spare held n 3 (([c0,c1,c2,c3,c4].drop 0).take (Tryz.prog.cellsOf 3)) = some x0 := hel 0 _ rfl
     have e1 : DataW.trod enc Tryz.prog w base spare held n 3 (([c0,c1,c2,c3,c4].drop 1).take (Tryz.prog.cellsOf 3)) = some x1 := hel 1 _ rfl
     have e2 : DataW.trod enc Tryz.prog w base spare held n 3 (([c0,c1,c2,c3,c4].drop 2).take (Tryz.prog.cellsOf 3)) = some x2 := hel 2 _ rfl
     have e3 : DataW.trod enc Tryz.prog w base spare held n 3 (([c0,c1,c2,c3,c4].drop 3).take (Tryz.prog.cellsOf 3)) = some x3 := hel 3 _ rfl
     have e4 : DataW.trod enc Tryz.prog w base spare held n 3 (([c0,c1,c2,c3,c4].drop 4).take (Tryz.prog.cellsOf 3)) = some x4 := hel 4 _ rfl
     simp only [hc,cIntD,List.drop_zero,List.drop_succ_cons,List.take_succ_cons,List.take_zero,List.getElem?_cons_zero,List.getElem?_cons_succ] at e0 e1 e2 e3 e4
     obtain ⟨a0,a1,rfl,w0⟩ := DataW.trod_int Tryz.underlying3 e0
     obtain ⟨b0,b1,rfl,w1⟩ := DataW.trod_int Tryz.underlying3 e1
     obtain ⟨g0,g1,rfl,w2⟩ := DataW.trod_int Tryz.underlying3 e2
     obtain ⟨h0,h1,rfl,w3⟩ := DataW.trod_int Tryz.underlying3 e3
     obtain ⟨k0,k1,rfl,w4⟩ := DataW.trod_int Tryz.underlying3 e4
     simp only [List.cons.injEq,and_true] at a1 b1 g1 h1 k1
     subst a1 b1 g1 h1 k1
     obtain ⟨hx1,hx2⟩ := Prod.mk.inj hx
     exact ⟨_,_,_,_,_,rfl,hx1,by simpa using hx2,w0,w1,w2,w3,w4⟩
theorem shut_dat {a b c e f : Int} (w0 : (Lit.int .i64 a).wf = true) (w1 : (Lit.int .i64 b).wf = true) (w2 : (Lit.int .i64 c).wf = true) (w3 : (Lit.int .i64 e).wf = true) (w4 : (Lit.int .i64 f).wf = true) :
  DataW.Trod enc Tryz.prog w base spare held 35 (datV a b c e f) (datD a b c e f) [] := by
 have hc : (datV a b c e f).cells = #[.int .i64 a,.int .i64 b,.int .i64 c,.int .i64 e,.int .i64 f] := rfl
 refine ⟨2,?_⟩
 have := trod_struct_mk (enc := enc) (w := w) (base := base) (spare := spare) (held := held) (n := 1) (cs := [.int .i64 a,.int .i64 b,.int .i64 c,.int .i64 e,.int .i64 f]) (xs := [(.lit (.int .i64 a),[]),(.lit (.int .i64 b),[]),(.lit (.int .i64 c),[]),(.lit (.int .i64 e),[]),(.lit (.int .i64 f),[])]) Tryz.underlying35 (by rw [cDat];rfl) (by
  simp [cIntD,DataW.trod,Tryz.underlying3,w0,w1,w2,w3,w4])
 rw [hc]
 exact this
theorem rep_dat {St : Nat → Prop} {hp : Array Obj} {μ : Nat → Option (Nat × Nat)} (a b c e f : Int) : Rep St hp μ (.agg [.lit (.int .i64 a),.lit (.int .i64 b),.lit (.int .i64 c),.lit (.int .i64 e),.lit (.int .i64 f)]) (datV a b c e f) := by
 refine Rep.agg (us := [.int .i64 a,.int .i64 b,.int .i64 c,.int .i64 e,.int .i64 f]) rfl (by simp [Value.oneCell']) ?_
 intro j x u hc hu
 match j with
 | 0 => simp at hc hu;subst hc;subst hu;exact .lit _
 | 1 => simp at hc hu;subst hc;subst hu;exact .lit _
 | 2 => simp at hc hu;subst hc;subst hu;exact .lit _
 | 3 => simp at hc hu;subst hc;subst hu;exact .lit _
 | 4 => simp at hc hu;subst hc;subst hu;exact .lit _
 | j + 5 => simp at hc
end
end Go.Proofs.YteecamhdbilmoaaGreatDoor