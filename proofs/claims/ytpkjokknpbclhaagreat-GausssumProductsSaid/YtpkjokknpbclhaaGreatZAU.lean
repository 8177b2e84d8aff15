/- Contracts of functions of the program, and what proves them (texts: NumG NumF NumX X0 D1n D4 Q1 Q2 Q3 Q4 Q5 Q6 G6). -/
import Derived.Test.YtpkjokknpbclhaaGreatZAM
import Derived.Test.YtpkjokknpbclhaaGreatZAO
import Derived.Test.YtpkjokknpbclhaaGreatZAP
import Derived.Test.YtpkjokknpbclhaaGreatZAT
set_option linter.all false
namespace Go.Num
def svS (d : Nat → Nat) (x : Nat → Int) (n : Nat) (j : Nat) : Int := if n % d j = 0 then x j else 0
def sv (d : Nat → Nat) (x : Nat → Int) (k n : Nat) : Int := psum (svS d x n) k
def dc (c : List Int) (j : Nat) : Int := ((j + 1 : Nat) : Int) * c.getD j 0
def sS (c : List Int) (n : Nat) : Int := sv (fun j => j + 1) (dc c) c.length n
def qs (s : Nat → Int) (a : Nat → Rat) (n : Nat) : Nat → Rat
 | 0 => 0
 | i + 1 => qs s a n i + (s (i + 1) : Rat) * a (n - 1 - i)
structure ProdOk (c : List Int) (a : Nat → Rat) : Prop where
 len : c.length ≤ 999
 cs : ∀ x ∈ c,-4800 ≤ x ∧ x ≤ 4800
 a0 : a 0 = 1
 step : ∀ n,1 ≤ n → n ≤ c.length → a n = -(qs (sS c) a n n) / ((n : Int) : Rat)
 ba : ∀ n,n ≤ c.length → lq (a n) ≤ 1000
 bq : ∀ n i,1 ≤ n → n ≤ c.length → i ≤ n → lq (qs (sS c) a n i) ≤ 1000
end Go.Num
namespace Go.Num
def vpF (p : Nat) : Nat → Nat → Nat
 | 0,_ => 0
 | f + 1,d => if d % p = 0 then vpF p f (d / p) + 1 else 0
def vp (p d : Nat) : Nat := vpF p d d
def primesT : List Nat := [2,3,5,7,11,13,17,19,23,29,31,37,41,43,47,53,59,61,67,71,73,79,83,89,97,101,103,107,109,113,127,131,137,139,149,151,157,163,167,173,179,181,191,193,197,199,211,223,227,229,233,239,241,251,257,263,269,271,277,281,283,293,307,311,313,317,331,337,347,349,353,359,367,373,379,383,389,397,401,409,419,421,431,433,439,443,449,457,461,463,467,479,487,491,499,503,509,521,523,541,547,557,563,569,571,577,587,593,599]
def below (q : Nat) : List Nat := primesT.filter fun p => Nat.blt p q
theorem tmod_bd (a : Int) {b : Int} (h : 0 < b) : -b < a.tmod b ∧ a.tmod b < b := by
 have h1 := Int.tmod_lt_of_pos a h
 have h2 := Int.lt_tmod_of_pos a h
 omega
end Go.Num
namespace Go.Num
theorem emod_of_tmod (a : Int) {m : Int} (hm : 0 < m) : a % m = if a.tmod m < 0 then a.tmod m + m else a.tmod m := by
 have h1 := Int.mul_tdiv_add_tmod a m
 have h2 := tmod_bd a hm
 have h3 : a % m = (a.tmod m) % m := by
  conv => lhs;rw [← h1]
  exact Int.mul_add_emod_self_left ..
 rw [h3]
 split
 ·rename_i h
  have : a.tmod m % m = (a.tmod m + m) % m := (Int.add_emod_right ..).symm
  rw [this]
  exact Int.emod_eq_of_lt (by omega) (by omega)
 ·exact Int.emod_eq_of_lt (by omega) (by omega)
end Go.Num
namespace Go.Num
end Go.Num
namespace Go.Lg
open Go
theorem mk_pos3 {α : Type} {j : Int} {n m k l : Nat} {x y : α} (h : 0 ≤ j ∧ n ≤ m ∧ k ≤ l) : (if 0 ≤ j ∧ n ≤ m ∧ k ≤ l then x else y) = x := if_pos h
theorem cyc_snoc (a b c d : LV) (n : Nat) : cyc [a,b,c,d] (n * 4 + 4) = cyc [a,b,c,d] (n * 4) ++ [a,b,c,d] := by
 unfold cyc
 have e0 : n * 4 % 4 = 0 := by omega
 have e1 : (n * 4 + 1) % 4 = 1 := by omega
 have e2 : (n * 4 + 2) % 4 = 2 := by omega
 have e3 : (n * 4 + 3) % 4 = 3 := by omega
 rw [List.range_succ,List.range_succ,List.range_succ,List.range_succ]
 simp only [List.map_append,List.map_cons,List.map_nil,List.length_cons,List.length_nil,Nat.zero_add,Nat.reduceAdd,e0,e1,e2,e3,List.append_assoc,List.cons_append,List.nil_append]
 rfl
end Go.Lg
namespace Go.Proofs.YtpkjokknpbclhaaGreat
open Go Go.Lg Go.Num
set_option maxRecDepth 100000
set_option maxHeartbeats 4000000
def oqc : Option Rat → List LV
 | none => [.lit (.bool false),.lit (.slice none 0 0),.lit (.bool false),.lit (.slice none 0 0)]
 | some q => qcells q
def oc (l : List (Option Rat)) : List LV := l.flatMap oqc
theorem oqc_none : oqc none = [.lit (.bool false),.lit (.slice none 0 0),.lit (.bool false),.lit (.slice none 0 0)] := rfl
theorem oqc_some (q : Rat) : oqc (some q) = [sg (q).num,mg (q).num,sg ((q).den : Int),mg ((q).den : Int)] := qcells_sm q
theorem oqc_len (o : Option Rat) : (oqc o).length = 4 := by cases o <;> rfl
theorem oc_len (l : List (Option Rat)) : (oc l).length = l.length * 4 := by induction l with
 | nil => rfl
 | cons a l ih => rw [oc,List.flatMap_cons,List.length_append,oqc_len];rw [oc] at ih;rw [ih,List.length_cons];omega
theorem oc_split : ∀ {l : List (Option Rat)} {j : Nat},j < l.length → ∃ a b,oc l = a ++ oqc (l.getD j none) ++ b ∧ a.length = j * 4 ∧ ∀ o,oc (l.set j o) = a ++ oqc o ++ b
 | [],j,h => by simp at h
 | x :: l,0,_ => ⟨[],oc l,by simp [oc],rfl,fun o => by simp [oc]⟩
 | x :: l,j + 1,h => by
   obtain ⟨a,b,h1,h2,h3⟩ := oc_split (l := l) (j := j) (by simpa using h)
   refine ⟨oqc x ++ a,b,?_,?_,fun o => ?_⟩
   · show oqc x ++ oc l = _
     rw [h1];simp
   · rw [List.length_append,oqc_len,h2];omega
   · show oqc x ++ oc (l.set j o) = _
     rw [h3];simp
theorem oc_td {l : List (Option Rat)} {j : Nat} (h : j < l.length) : ((oc l).drop (j * 4)).take 4 = oqc (l.getD j none) := by
 obtain ⟨a,b,h1,h2,_⟩ := oc_split h
 rw [h1,← h2,List.append_assoc,List.drop_left,← oqc_len (l.getD j none),List.take_left]
theorem oc_set {l : List (Option Rat)} {j : Nat} (h : j < l.length) (q : Rat) : (oc l).take (j * 4) ++ [sg (q).num,mg (q).num,sg ((q).den : Int),mg ((q).den : Int)] ++ (oc l).drop (j * 4 + 4) = oc (l.set j (some q)) := by
 obtain ⟨a,b,h1,h2,h3⟩ := oc_split h
 rw [h3,← oqc_some,h1,← h2]
 have e : a.length + 4 = (a ++ oqc (l.getD j none)).length := by rw [List.length_append,oqc_len]
 rw [e,List.drop_left,List.append_assoc a (oqc (l.getD j none)) b,List.take_left]
theorem oc_zeros : ∀ n,cyc [.lit (.bool false),.lit (.slice none 0 0),.lit (.bool false),.lit (.slice none 0 0)] (n * 4) = oc (List.replicate n none)
 | 0 => by rw [Nat.zero_mul,cyc_0];rfl
 | n + 1 => by
   rw [Nat.add_mul,Nat.one_mul,cyc_snoc,oc_zeros n,List.replicate_succ',oc,oc,List.flatMap_append]
   rfl
attribute [local irreducible] sg mg
theorem oqc_plain (o : Option Rat) : ∀ c ∈ oqc o,plainC c = true := by
 cases o with
 | none => intro c hc;simp [oqc] at hc;rcases hc with rfl | rfl | rfl | rfl <;> rfl
 | some q =>
   rw [oqc_some]
   intro c hc
   simp only [List.mem_cons,List.not_mem_nil,or_false] at hc
   rcases hc with rfl | rfl | rfl | rfl
   · exact s9 _
   · exact s10 _
   · exact s9 _
   · exact s10 _
theorem oc_plain' (l : List (Option Rat)) : ∀ c ∈ oc l,plainC c = true := by
 intro c hc
 simp only [oc,List.mem_flatMap] at hc
 obtain ⟨o,_,ho⟩ := hc
 exact oqc_plain o c ho
theorem oc_plain (l : List (Option Rat)) : (∀ c ∈ oc l,plainC c = true) = True := eq_true (oc_plain' l)
theorem ren_oc {nb : Nat} {ρ : Nat → Nat} (l : List (Option Rat)) : renLs nb ρ (oc l) = some (oc l) := rens_plain (oc_plain' l)
theorem lenL_mg (s : LS) (z : Int) : lenL s (mg z) = some (digs z.natAbs).length := by with_unfolding_all rfl
def smO := And.intro oc_len (And.intro @oc_td (And.intro oqc_none (And.intro oqc_some (And.intro oc_zeros (And.intro oc_plain (And.intro @ren_oc @mk_pos3))))))
end Go.Proofs.YtpkjokknpbclhaaGreat
namespace Go.Num
end Go.Num
namespace Go.Proofs.YtpkjokknpbclhaaGreat
open Go Go.Lg Go.Num
set_option maxRecDepth 100000
set_option maxHeartbeats 4000000
attribute [local irreducible] Go.Lg.lrun Go.Lg.lwp Go.Lg.exThen Go.Lg.exBlk Go.Lg.keep Go.Lg.goodPost sg mg bq
end Go.Proofs.YtpkjokknpbclhaaGreat
namespace Go.Proofs.YtpkjokknpbclhaaGreat
open Go Go.Lg Go.Num
set_option maxRecDepth 100000
set_option maxHeartbeats 4000000
attribute [local irreducible] Go.Lg.lrun Go.Lg.lwp Go.Lg.exThen Go.Lg.exBlk Go.Lg.keep Go.Lg.goodPost sg mg bq
def bp (n k : Nat) : List Rat := (List.range k).map fun j => ((ch n j : Int) : Rat) * bq (n - j)
def trimQ (f : List Rat) : List Rat := (f.reverse.dropWhile (· == 0)).reverse
theorem trimQ_snoc_nz (f : List Rat) {c : Rat} (h : c ≠ 0) : trimQ (f ++ [c]) = f ++ [c] := by
 simp [trimQ,h]
theorem trimQ_snoc_z (f : List Rat) : trimQ (f ++ [0]) = trimQ f := by
 simp [trimQ]
theorem trimQ_nil : trimQ [] = [] := rfl
theorem snoc_of {f : List Rat} (h : 0 < f.length) : f = f.take (f.length - 1) ++ [f.getD (f.length - 1) 0] := by
 have h1 : f.getD (f.length - 1) 0 = f[f.length - 1] := by simp [show f.length - 1 < f.length by omega]
 rw [h1,List.take_append_getElem (by omega),show f.length - 1 + 1 = f.length by omega,List.take_length]
theorem num_z (q : Rat) : q.num = 0 ↔ q = 0 := Rat.num_eq_zero
theorem qc_h1 {l : List Rat} {j : Nat} (h : j < l.length) : ((qc l).drop (j * 4 + 1)).head? = some (mg (l.getD j 0).num) := by
 rw [← List.drop_drop,qc_drop,List.drop_eq_getElem_cons h]
 have : l.getD j 0 = l[j] := by simp [h]
 rw [this]
 simp only [qc,List.flatMap_cons,qcells_sm]
 simp
theorem qc_takes (l : List Rat) (k : Nat) : (qc l).take (k * 4) = qc (l.take k) := by
 by_cases h : k ≤ l.length
 ·conv => lhs;rw [← List.take_append_drop k l]
  rw [qc,List.flatMap_append]
  rw [List.take_append_of_le_length (by have := qc_len (l.take k);rw [qc] at this;rw [this,List.length_take];omega),List.take_of_length_le (by have := qc_len (l.take k);rw [qc] at this;rw [this,List.length_take];omega)]
  rfl
 ·rw [List.take_of_length_le (by rw [qc_len];omega),List.take_of_length_le (by omega)]
theorem qtrim_good (f : List Rat) (hl : f.length ≤ 1000000000) : PureGood Tryz.prog 111 [encF f] (encF (trimQ f)) := by
 rw [encF_qc]
 refine good_of_lwp mix Tryz.func111 rfl (by decide) (nt := 24) rfl (rs := [.tmp 2]) rfl (nle rfl) ?_
 (repeat (first|apply zO (by decide +kernel)|apply zP (by decide +kernel)|(apply zS;(case h=>constructor<;>decide))|((first|apply l_go rfl|apply c_dec|apply zT rfl (by decide) rfl);(case hs=>(simp (disch := first|omega|exact kD rfl|exact kX rfl) only [smY,simprocAttr,bl,i64,smT];exact rfl));first|refine c_bt ?_|refine c_bf ?_|refine zq ?_|(case hg=>assumption))))
 refine w_loop (α := {g : List Rat // trimQ g = trimQ f ∧ g.length ≤ f.length}) (fun g => st 24 (lk [(0,.sl g.1.length (qc g.1)),(2,nilL)]) (lkH []) 0) (fun g => g.1.length) ⟨f,rfl,Nat.le_refl _⟩ ?_ ?_
 ·(refine Sub.plain ?_;simp only [smF,dg,renL,renLs,simprocAttr,bl,i64,smT])
 ·rintro ⟨g,hg,hgl⟩
  simp only [st]
  by_cases h0 : 0 < g.length
  ·have hg' := snoc_of h0
   have hh := qc_h1 (l := g) (j := g.length - 1) (by omega)
   by_cases hz : g.getD (g.length - 1) 0 = 0
   ·have hd : (digs 0).length = 0 := by simp [digs_zero]
    rw [hz,show (0 : Rat).num = 0 from rfl] at hh
    (repeat (first|apply zO (by decide +kernel)|apply zP (by decide +kernel)|(apply zS;(case h=>constructor<;>decide))|((first|apply l_go rfl|apply c_dec|apply zT rfl (by decide) rfl);(case hs=>(simp (disch := first|omega|exact kD rfl|exact kX rfl) only [smY,simprocAttr,bl,i64,smT,lenL_mg,hh,Int.natAbs_zero];exact rfl));first|refine c_bt ?_|refine c_bf ?_|refine zq ?_|(case hg=>assumption))))
    rw [hz] at hg'
    have hg2 : trimQ (g.take (g.length - 1)) = trimQ f := by rw [← hg,hg',trimQ_snoc_z,← hg']
    have hgl2 : (g.take (g.length - 1)).length = g.length - 1 := by rw [List.length_take];omega
    refine ⟨⟨g.take (g.length - 1),hg2,by omega⟩,?_,by simp only;omega⟩
    simp only [hgl2,← qc_takes]
    (refine Sub.plain ?_;simp only [smF,dg,renL,renLs,simprocAttr,bl,i64,smT])
   ·have hzn : (g.getD (g.length - 1) 0).num ≠ 0 := fun e => hz ((num_z _).1 e)
    have hd : (digs (g.getD (g.length - 1) 0).num.natAbs).length ≠ 0 := fun e => hzn (by have := digs_eq_nil.1 (List.eq_nil_of_length_eq_zero e);omega)
    have hfin : trimQ g = g := by
     conv => lhs;rw [hg']
     rw [trimQ_snoc_nz _ hz,← hg']
    rw [← hg,hfin,encF_qc]
    generalize (g.getD (g.length - 1) 0).num = z at *
    (repeat (first|apply zO (by decide +kernel)|apply zP (by decide +kernel)|(apply zS;(case h=>constructor<;>decide))|((first|apply l_go rfl|apply c_dec|apply zT rfl (by decide) rfl);(case hs=>(simp (disch := first|omega|exact kD rfl|exact kX rfl) only [smY,simprocAttr,bl,i64,smT,lenL_mg,hh];exact rfl));first|refine c_bt ?_|refine c_bf ?_|refine zq ?_|(case hg=>assumption))))
    ((first|apply g_ret|apply g_end);case hres => (simp only [smR];simp (disch := first|omega|exact kD rfl|exact kX rfl) only [smY,simprocAttr,bl,i64,smT];exact rfl))
    simp (disch := first|omega|exact kD rfl|exact kX rfl) only [smY,simprocAttr,bl,i64,smT]
  ·have : g = [] := List.length_eq_zero_iff.1 (by omega)
   subst this
   rw [trimQ_nil] at hg
   rw [← hg]
   (repeat (first|apply zO (by decide +kernel)|apply zP (by decide +kernel)|(apply zS;(case h=>constructor<;>decide))|((first|apply l_go rfl|apply c_dec|apply zT rfl (by decide) rfl);(case hs=>(simp (disch := first|omega|exact kD rfl|exact kX rfl) only [smY,simprocAttr,bl,i64,smT];exact rfl));first|refine c_bt ?_|refine c_bf ?_|refine zq ?_|(case hg=>assumption))))
   ((first|apply g_ret|apply g_end);case hres => (simp only [smR];simp (disch := first|omega|exact kD rfl|exact kX rfl) only [smY,simprocAttr,bl,i64,smT];exact rfl))
   simp (disch := first|omega|exact kD rfl|exact kX rfl) only [smY,simprocAttr,bl,i64,smT]
   rfl
theorem cyc_length (z : List LV) (n : Nat) : (cyc z n).length = n := by simp [cyc]
def z4 : List LV := [bl false,.lit (.slice none 0 0),bl false,.lit (.slice none 0 0)]
def fillC (f : List Rat) (k : Nat) : List LV := qc (f.take k) ++ (cyc z4 (f.length * 4)).drop (k * 4)
theorem fillC_zero (f : List Rat) : fillC f 0 = cyc z4 (f.length * 4) := by simp [fillC,qc]
theorem fillC_all (f : List Rat) : fillC f f.length = qc f := by
 rw [fillC,List.take_length,List.drop_of_length_le (by rw [cyc_length];omega),List.append_nil]
theorem fillC_len {f : List Rat} {k : Nat} (h : k ≤ f.length) : (fillC f k).length = f.length * 4 := by
 rw [fillC,List.length_append,qc_len,List.length_take,List.length_drop,cyc_length]
 omega
theorem fillC_step {f : List Rat} {k : Nat} (h : k < f.length) {c : Rat} (hc : f.getD k 0 = c) : (fillC f k).take (k * 4) ++ [sg c.num,mg c.num,sg (c.den : Int),mg (c.den : Int)] ++ (fillC f k).drop (k * 4 + 4) = fillC f (k + 1) := by
 have e1 : (qc (f.take k)).length = k * 4 := by rw [qc_len,List.length_take];omega
 have e2 : f.take (k + 1) = f.take k ++ [c] := by
  rw [List.take_succ_eq_append_getElem h]
  have : f.getD k 0 = f[k] := by simp [h]
  rw [← this,hc]
 rw [fillC,List.take_append_of_le_length (by omega),List.take_of_length_le (by omega),List.drop_append,List.drop_of_length_le (by omega),e1,List.nil_append,List.drop_drop,fillC,e2,← qc_app,show k * 4 + 4 - k * 4 = 4 by omega,show k * 4 + 4 = (k + 1) * 4 by omega]
theorem fillC_plain (f : List Rat) (k : Nat) : ∀ c ∈ fillC f k,plainC c = true := by
 intro c hc
 rcases List.mem_append.1 hc with h | h
 ·exact qc_all (Q := fun c => plainC c = true) s9 s10 _ c h
 ·have h1 := List.mem_of_mem_drop h
  simp only [cyc,List.mem_map,List.mem_range] at h1
  obtain ⟨i,_,rfl⟩ := h1
  have : i % z4.length < 4 := Nat.mod_lt _ (by decide)
  generalize i % z4.length = j at *
  match j,this with
  | 0,_ => rfl
  | 1,_ => rfl
  | 2,_ => rfl
  | 3,_ => rfl
theorem qpnorm_good (f : List Rat) (hl : f.length ≤ 100000000) (hf : ∀ c ∈ f,lq c ≤ 100000) : PureGood Tryz.prog 118 [encF f] (encF (trimQ f)) := by
 have ht := qtrim_good f (by omega)
 rw [encF_qc] at *
 refine good_of_lwp mix Tryz.func118 rfl (by decide) (nt := 24) rfl (rs := [.tmp 2]) rfl (nle rfl) ?_
 (repeat (first|apply zO (by decide +kernel)|apply zP (by decide +kernel)|(apply zS;(case h=>constructor<;>decide))|((first|apply l_go rfl|apply c_dec|apply zT rfl (by decide) rfl);(case hs=>(simp (disch := first|omega|exact kD rfl|exact kX rfl) only [smY,simprocAttr,bl,i64,smT];exact rfl));first|refine c_bt ?_|refine c_bf ?_|refine zq ?_|(case hg=>assumption))))
 refine w_loop (α := {k : Nat // k ≤ f.length}) (fun k => st 24 (lk [(0,.sl f.length (qc f)),(2,nilL),(3,.own 0 0 f.length 4),(9,.sl f.length (qc f)),(10,i64 f.length),(11,i64 k.1)]) (lkH [(0,⟨68,fillC f k.1,false⟩)]) 1) (fun k => f.length - k.1) ⟨0,by omega⟩ ?_ ?_
 ·(refine Sub.heap1 3 ?_ (by simp only [smF,dg,renL,renLs,simprocAttr,bl,i64,smT];exact rfl) ?_ ?_;all_goals (first | exact dgs_plain _ | with_reducible rfl | (simp only [smF,dg,renL,renLs,simprocAttr,bl,i64,smT];done) | (simp only [smF,dg,renL,renLs,simprocAttr,bl,i64,smT]) | skip))
  ·rw [fillC_zero];rfl
  ·exact fillC_plain _ _
 ·rintro ⟨k,hk⟩
  simp only [st]
  by_cases h : k < f.length
  ·have hm : lq (f.getD k 0) ≤ 100000 := by
    have : f.getD k 0 = f[k] := by simp [h]
    rw [this]
    exact hf _ (List.getElem_mem _)
   have hn := qnorm_good (f.getD k 0) (by omega)
   have hfl := fillC_len hk
   generalize hc : f.getD k 0 = c at *
   have hst := fillC_step h hc
   rw [encQ_sm] at hn
   generalize fillC f k = L at *
   (repeat (first|apply zO (by decide +kernel)|apply zP (by decide +kernel)|(apply zS;(case h=>constructor<;>decide))|((first|apply l_go rfl|apply c_dec|apply zT rfl (by decide) rfl);(case hs=>(simp (disch := first|omega|exact kD rfl|exact kX rfl) only [smY,simprocAttr,bl,i64,smT,hc];exact rfl));first|refine c_bt ?_|refine c_bf ?_|refine zq ?_|(case hg=>assumption))))
   refine ⟨⟨k + 1,by omega⟩,?_,by simp only;omega⟩
   (refine Sub.heap1 0 ?_ (by simp only [smF,dg,renL,renLs,simprocAttr,bl,i64,smT];exact rfl) ?_ ?_;all_goals (first | exact dgs_plain _ | with_reducible rfl | (simp only [smF,dg,renL,renLs,simprocAttr,bl,i64,smT];done) | (simp only [smF,dg,renL,renLs,simprocAttr,bl,i64,smT]) | skip))
   ·exact hst
   ·exact fillC_plain _ _
  ·obtain rfl : k = f.length := by omega
   rw [fillC_all]
   (repeat (first|apply zO (by decide +kernel)|apply zP (by decide +kernel)|(apply zS;(case h=>constructor<;>decide))|((first|apply l_go rfl|apply c_dec|apply zT rfl (by decide) rfl);(case hs=>(simp (disch := first|omega|exact kD rfl|exact kX rfl) only [smY,simprocAttr,bl,i64,smT];exact rfl));first|refine c_bt ?_|refine c_bf ?_|refine zq ?_|(case hg=>assumption))))
   ((first|apply g_ret|apply g_end);case hres => (simp only [smR];simp (disch := first|omega|exact kD rfl|exact kX rfl) only [smY,simprocAttr,bl,i64,smT];exact rfl))
   simp (disch := first|omega|exact kD rfl|exact kX rfl) only [smY,simprocAttr,bl,i64,smT]
   rfl
end Go.Proofs.YtpkjokknpbclhaaGreat
namespace Go.Proofs.YtpkjokknpbclhaaGreat
open Go Go.Lg Go.Num
set_option maxRecDepth 100000
set_option maxHeartbeats 4000000
attribute [local irreducible] Go.Lg.lrun Go.Lg.lwp Go.Lg.exThen Go.Lg.exBlk Go.Lg.keep Go.Lg.goodPost sg mg
def lastQ (f : List Rat) : Prop := ∀ _ : 0 < f.length,f.getD (f.length - 1) 0 ≠ 0
theorem trimQ_last {f : List Rat} (h : lastQ f) : trimQ f = f := by
 by_cases h0 : 0 < f.length
 ·have hg := snoc_of h0
  conv => lhs;rw [hg]
  rw [trimQ_snoc_nz _ (h h0),← hg]
 ·obtain rfl : f = [] := List.length_eq_zero_iff.1 (by omega)
  rfl
theorem trim_h {f : List Rat} (hf : lastQ f) (hl : f.length ≤ 1000000) (nb : Nat) : HGood Tryz.prog 111 [.own 0 0 f.length 4] (lkH [(0,⟨68,qc f,false⟩)]) nb (.own 0 0 f.length 4) (lkH [(0,⟨68,qc f,false⟩)]) (nb + 100) := by
 refine heap_of_lwp mix Tryz.func111 rfl (by decide) (nt := 24) rfl (rs := [.tmp 2]) rfl (nle rfl) ?_
 by_cases h0 : 0 < f.length
 ·have hh := qc_h1 (l := f) (j := f.length - 1) (by omega)
  have hz := hf h0
  have hzn : (f.getD (f.length - 1) 0).num ≠ 0 := fun e => hz ((num_z _).1 e)
  have hd : (digs (f.getD (f.length - 1) 0).num.natAbs).length ≠ 0 := fun e => hzn (by have := digs_eq_nil.1 (List.eq_nil_of_length_eq_zero e);omega)
  have hh2 : (qc f)[(f.length - 1) * 4 + 1]? = some (mg (f.getD (f.length - 1) 0).num) := by rw [← List.head?_drop];exact hh
  generalize (f.getD (f.length - 1) 0).num = z at *
  (repeat (first|apply zO (by decide +kernel)|apply zP (by decide +kernel)|(apply zS;(case h=>constructor<;>decide))|((first|apply l_go rfl|apply c_dec|apply zT rfl (by decide) rfl);(case hs=>(simp (disch := first|omega|exact kD rfl|exact kX rfl) only [smY,simprocAttr,bl,i64,smT];exact rfl));first|refine c_bt ?_|refine c_bf ?_|refine zq ?_|(case hg=>assumption))))
  refine loop_done (e := .exit 0) (s' := ?_) (by simp) (fun Φ hΦ => ?_) ?_
  rotate_left
  ·(repeat (first|apply zO (by decide +kernel)|apply zP (by decide +kernel)|(apply zS;(case h=>constructor<;>decide))|((first|apply l_go rfl|apply c_dec|apply zT rfl (by decide) rfl);(case hs=>(simp (disch := first|omega|exact kD rfl|exact kX rfl) only [smY,simprocAttr,bl,i64,smT,lenL_mg,hh2];exact rfl));first|refine c_bt ?_|refine c_bf ?_|refine zq ?_|(case hg=>assumption))))
   exact hΦ
  ·(repeat (first|apply zO (by decide +kernel)|apply zP (by decide +kernel)|(apply zS;(case h=>constructor<;>decide))|((first|apply l_go rfl|apply c_dec|apply zT rfl (by decide) rfl);(case hs=>(simp (disch := first|omega|exact kD rfl|exact kX rfl) only [smY,simprocAttr,bl,i64,smT];exact rfl));first|refine c_bt ?_|refine c_bf ?_|refine zq ?_|(case hg=>assumption))))
   exact ⟨by simp only [smR];try rfl,rfl,by simp only [List.length_cons,List.length_nil];omega⟩
 ·obtain rfl : f = [] := List.length_eq_zero_iff.1 (by omega)
  (repeat (first|apply zO (by decide +kernel)|apply zP (by decide +kernel)|(apply zS;(case h=>constructor<;>decide))|((first|apply l_go rfl|apply c_dec|apply zT rfl (by decide) rfl);(case hs=>(simp (disch := first|omega|exact kD rfl|exact kX rfl) only [smY,simprocAttr,bl,i64,smT];exact rfl));first|refine c_bt ?_|refine c_bf ?_|refine zq ?_|(case hg=>assumption))))
  refine loop_done (e := .exit 0) (s' := ?_) (by simp) (fun Φ hΦ => ?_) ?_
  rotate_left
  ·(repeat (first|apply zO (by decide +kernel)|apply zP (by decide +kernel)|(apply zS;(case h=>constructor<;>decide))|((first|apply l_go rfl|apply c_dec|apply zT rfl (by decide) rfl);(case hs=>(simp (disch := first|omega|exact kD rfl|exact kX rfl) only [smY,simprocAttr,bl,i64,smT];exact rfl));first|refine c_bt ?_|refine c_bf ?_|refine zq ?_|(case hg=>assumption))))
   exact hΦ
  ·(repeat (first|apply zO (by decide +kernel)|apply zP (by decide +kernel)|(apply zS;(case h=>constructor<;>decide))|((first|apply l_go rfl|apply c_dec|apply zT rfl (by decide) rfl);(case hs=>(simp (disch := first|omega|exact kD rfl|exact kX rfl) only [smY,simprocAttr,bl,i64,smT];exact rfl));first|refine c_bt ?_|refine c_bf ?_|refine zq ?_|(case hg=>assumption))))
   exact ⟨by simp only [smR];try rfl,rfl,by simp only [List.length_cons,List.length_nil];omega⟩
theorem l_hcall' {P : Program} [Laid P] {base i : Nat} {ok : Nat → Nat → Bool} {ops : Array Oper} {o : Oper} {rest : List Oper} {n nb d m : Nat} {F : Nat → LV} {H H' : Nat → Option Blk} {K : LS → Prop} {c : Call} {f : FuncId} {args : List LV} {r : LV} {nb' : Nat}
  (hm : max nb (base + ops.size) = m) (hop : o.op = .call c) (hcal : c.callee = .value (.func f)) (hd : o.dst = some d) (hn : d < n) (hw : wantedL ops o ⟨n,F,H,nb⟩ = some true) (hargs : c.args.toList.map (opnd ⟨n,F,H,nb⟩) = args)
  (hg : HGood P f args H m r H' nb') (hle : m ≤ nb')
  (hk : lrun P true base ok ops (i + 1) rest ⟨n,upd F d r,H',nb'⟩ K) : lrun P true base ok ops i (o :: rest) ⟨n,F,H,nb⟩ K := by
 subst hm
 exact l_hcall hop hcal rfl hd hn hw (by rw [List.append_nil,hargs];exact hg) hle hk
theorem qpnorm_new (f : List Rat) (hla : lastQ f) (hl : f.length ≤ 1000000) (hf : ∀ c ∈ f,lq c ≤ 100000) : NewGood Tryz.prog 118 [encF f] f.length 4 68 (qc f) := by
 rw [encF_qc]
 refine new_of_lwp mix Tryz.func118 rfl (by decide) (nt := 24) rfl (rs := [.tmp 2]) rfl (nle rfl) (qc_all s9 s10 _) ?_
 (repeat (first|apply zO (by decide +kernel)|apply zP (by decide +kernel)|(apply zS;(case h=>constructor<;>decide))|((first|apply l_go rfl|apply c_dec|apply zT rfl (by decide) rfl);(case hs=>(simp (disch := first|omega|exact kD rfl|exact kX rfl) only [smY,simprocAttr,bl,i64,smT];exact rfl));first|refine c_bt ?_|refine c_bf ?_|refine zq ?_|(case hg=>assumption))))
 refine w_loop (α := {k : Nat // k ≤ f.length}) (fun k => st 24 (lk [(0,.sl f.length (qc f)),(2,nilL),(3,.own 0 0 f.length 4),(9,.sl f.length (qc f)),(10,i64 f.length),(11,i64 k.1)]) (lkH [(0,⟨68,fillC f k.1,false⟩)]) 1) (fun k => f.length - k.1) ⟨0,by omega⟩ ?_ ?_
 ·(refine Sub.heap1 3 ?_ (by simp only [smF,dg,renL,renLs,simprocAttr,bl,i64,smT];exact rfl) ?_ ?_;all_goals (first | exact dgs_plain _ | with_reducible rfl | (simp only [smF,dg,renL,renLs,simprocAttr,bl,i64,smT];done) | (simp only [smF,dg,renL,renLs,simprocAttr,bl,i64,smT]) | skip))
  ·rw [fillC_zero];rfl
  ·exact fillC_plain _ _
 ·rintro ⟨k,hk⟩
  simp only [st]
  by_cases h : k < f.length
  ·have hm : lq (f.getD k 0) ≤ 100000 := by
    have : f.getD k 0 = f[k] := by simp [h]
    rw [this]
    exact hf _ (List.getElem_mem _)
   have hn := qnorm_good (f.getD k 0) (by omega)
   have hfl := fillC_len hk
   generalize hc : f.getD k 0 = c at *
   have hst := fillC_step h hc
   rw [encQ_sm] at hn
   generalize fillC f k = L at *
   (repeat (first|apply zO (by decide +kernel)|apply zP (by decide +kernel)|(apply zS;(case h=>constructor<;>decide))|((first|apply l_go rfl|apply c_dec|apply zT rfl (by decide) rfl);(case hs=>(simp (disch := first|omega|exact kD rfl|exact kX rfl) only [smY,simprocAttr,bl,i64,smT,hc];exact rfl));first|refine c_bt ?_|refine c_bf ?_|refine zq ?_|(case hg=>assumption))))
   refine ⟨⟨k + 1,by omega⟩,?_,by simp only;omega⟩
   (refine Sub.heap1 0 ?_ (by simp only [smF,dg,renL,renLs,simprocAttr,bl,i64,smT];exact rfl) ?_ ?_;all_goals (first | exact dgs_plain _ | with_reducible rfl | (simp only [smF,dg,renL,renLs,simprocAttr,bl,i64,smT];done) | (simp only [smF,dg,renL,renLs,simprocAttr,bl,i64,smT]) | skip))
   ·exact hst
   ·exact fillC_plain _ _
  ·obtain rfl : k = f.length := by omega
   rw [fillC_all]
   (repeat (first|apply zO (by decide +kernel)|apply zP (by decide +kernel)|(apply zS;(case h=>constructor<;>decide))|((first|apply l_go rfl|apply c_dec|apply zT rfl (by decide) rfl);(case hs=>(simp (disch := first|omega|exact kD rfl|exact kX rfl) only [smY,simprocAttr,bl,i64,smT];exact rfl));first|refine c_bt ?_|refine c_bf ?_|refine zq ?_|(case hg=>assumption))))
   refine l_hcall' (by simp only [List.size_toArray,List.length_cons,List.length_nil,Nat.reduceAdd,Nat.max_def,Nat.reduceLeDiff,↓reduceIte];exact rfl) rfl rfl rfl (by decide) rfl (by simp (disch := first|omega|exact kD rfl|exact kX rfl) only [smY,simprocAttr,bl,i64,smT];try exact rfl) (trim_h hla hl _) (by omega) ?_
   (repeat (first|apply zO (by decide +kernel)|apply zP (by decide +kernel)|(apply zS;(case h=>constructor<;>decide))|((first|apply l_go rfl|apply c_dec|apply zT rfl (by decide) rfl);(case hs=>(simp (disch := first|omega|exact kD rfl|exact kX rfl) only [smY,simprocAttr,bl,i64,smT];exact rfl));first|refine c_bt ?_|refine c_bf ?_|refine zq ?_|(case hg=>assumption))))
   exact ⟨0,by simp only [smR];try rfl,rfl⟩
end Go.Proofs.YtpkjokknpbclhaaGreat
namespace Go.Proofs.YtpkjokknpbclhaaGreat
open Go Go.Lg Go.Num
set_option maxRecDepth 100000
set_option maxHeartbeats 8000000
def subO (c : Rat) : List Rat → List Rat → Nat → Option (List Rat)
 | [],r,_ => some r
 | b :: g,r,i => bif tiny (c * b) && tiny (r.getD i 0 - c * b) then subO c g (r.set i (r.getD i 0 - c * b)) (i + 1) else none
def divO (g : List Rat) (gl : Rat) : Nat → List (Option Rat) → List Rat → Option (List (Option Rat) × List Rat)
 | 0,q,r => some (q,r)
 | k + 1,q,r => bif tiny (r.getD (k + g.length - 1) 0 / gl) then (if r.getD (k + g.length - 1) 0 / gl = 0 then divO g gl k (q.set k (some (r.getD (k + g.length - 1) 0 / gl))) r else match subO (r.getD (k + g.length - 1) 0 / gl) g r k with
   | some r' => divO g gl k (q.set k (some (r.getD (k + g.length - 1) 0 / gl))) r'
   | none => none) else none
theorem oc_some : ∀ l : List Rat,oc (l.map some) = qc l
 | [] => rfl
 | a :: l => by
   have := oc_some l
   simp only [oc,qc,List.map_cons,List.flatMap_cons] at this ⊢
   rw [this]
   rfl
def tinyL (l : List Rat) : Prop := ∀ q ∈ l,tiny q = true
theorem tinyL_get {l : List Rat} (h : tinyL l) {i : Nat} (hi : i < l.length) : lq (l.getD i 0) ≤ 200 := by
 have : l.getD i 0 = l[i] := by simp [hi]
 rw [this]
 exact tiny_lq (h _ (List.getElem_mem hi))
theorem tinyL_set {l : List Rat} (h : tinyL l) {i : Nat} {q : Rat} (hq : tiny q = true) : tinyL (l.set i q) := by
 intro x hx
 rcases List.mem_or_eq_of_mem_set hx with h1 | rfl
 ·exact h x h1
 ·exact hq
theorem qc_set {l : List Rat} {j : Nat} (h : j < l.length) (v : Rat) : (qc l).take (j * 4) ++ [sg (v).num,mg (v).num,sg ((v).den : Int),mg ((v).den : Int)] ++ (qc l).drop (j * 4 + 4) = qc (l.set j v) := by
 rw [← oc_some,oc_set (by simpa using h) v,← oc_some,List.map_set]
theorem divO_zero (g : List Rat) (gl : Rat) (q : List (Option Rat)) (r : List Rat) : divO g gl 0 q r = some (q,r) := rfl
theorem divO_succ {g : List Rat} {gl : Rat} {k : Nat} {q : List (Option Rat)} {r : List Rat} {x : List (Option Rat) × List Rat} (h : divO g gl (k + 1) q r = some x) : tiny (r.getD (k + g.length - 1) 0 / gl) = true ∧ (r.getD (k + g.length - 1) 0 / gl = 0 ∧ divO g gl k (q.set k (some (r.getD (k + g.length - 1) 0 / gl))) r = some x ∨ r.getD (k + g.length - 1) 0 / gl ≠ 0 ∧ ∃ r',subO (r.getD (k + g.length - 1) 0 / gl) g r k = some r' ∧ divO g gl k (q.set k (some (r.getD (k + g.length - 1) 0 / gl))) r' = some x) := by
 rw [divO] at h
 cases ht : tiny (r.getD (k + g.length - 1) 0 / gl) with
 | false => rw [ht,cond_false] at h;cases h
 | true =>
   rw [ht,cond_true] at h
   refine ⟨rfl,?_⟩
   split at h
   · rename_i hz
     exact .inl ⟨hz,h⟩
   · rename_i hz
     split at h
     · rename_i r' hr
       exact .inr ⟨hz,r',hr,h⟩
     · cases h
theorem subO_nil (c : Rat) (r : List Rat) (i : Nat) : subO c [] r i = some r := rfl
theorem subO_cons {c b : Rat} {g r r' : List Rat} {i : Nat} (h : subO c (b :: g) r i = some r') : tiny (c * b) = true ∧ tiny (r.getD i 0 - c * b) = true ∧ subO c g (r.set i (r.getD i 0 - c * b)) (i + 1) = some r' := by
 rw [subO] at h
 cases ht : (tiny (c * b) && tiny (r.getD i 0 - c * b)) with
 | false => rw [ht,cond_false] at h;cases h
 | true =>
   rw [ht,cond_true] at h
   rw [Bool.and_eq_true] at ht
   exact ⟨ht.1,ht.2,h⟩
attribute [local irreducible] Go.Lg.lrun Go.Lg.lwp Go.Lg.exThen Go.Lg.exBlk Go.Lg.keep Go.Lg.goodPost sg mg tiny subO divO oc
theorem qzero_good (q : Rat) (h : lq q ≤ 100000) : PureGood Tryz.prog 115 [encQ q] (bl (decide (q = 0))) := by
 have g := qsign_good q (by omega)
 have hs : q.num.sign = 0 ↔ q = 0 := by rw [Int.sign_eq_zero_iff_zero,Rat.num_eq_zero]
 rw [encQ_sm] at *
 by_cases h0 : q = 0
 ·rw [dec_t h0]
  rw [hs.2 h0] at g
  simp only [i64,bl] at *
  refine good_of_lwp mix Tryz.func115 rfl (by decide) (nt := 6) rfl (rs := [.tmp 2]) rfl (nle rfl) ?_
  (repeat (first|apply zO (by decide +kernel)|apply zP (by decide +kernel)|(apply zS;(case h=>constructor<;>decide))|((first|apply l_go rfl|apply c_dec|apply zT rfl (by decide) rfl);(case hs=>(simp (disch := first|omega|exact kD rfl|exact kX rfl) only [smY,simprocAttr,bl,i64,smT];exact rfl));first|refine c_bt ?_|refine c_bf ?_|refine zq ?_|(case hg=>assumption))))
  ((first|apply g_ret|apply g_end);case hres => (simp only [smR];simp (disch := first|omega|exact kD rfl|exact kX rfl) only [smY,simprocAttr,bl,i64,smT];exact rfl))
  simp (disch := first|omega|exact kD rfl|exact kX rfl) only [smY,simprocAttr,bl,i64,smT]
 ·rw [dec_f h0]
  have h1 : ¬ q.num.sign = 0 := fun e => h0 (hs.1 e)
  generalize q.num.sign = s at *
  simp only [i64,bl] at *
  refine good_of_lwp mix Tryz.func115 rfl (by decide) (nt := 6) rfl (rs := [.tmp 2]) rfl (nle rfl) ?_
  (repeat (first|apply zO (by decide +kernel)|apply zP (by decide +kernel)|(apply zS;(case h=>constructor<;>decide))|((first|apply l_go rfl|apply c_dec|apply zT rfl (by decide) rfl);(case hs=>(simp (disch := first|omega|exact kD rfl|exact kX rfl) only [smY,simprocAttr,bl,i64,smT];exact rfl));first|refine c_bt ?_|refine c_bf ?_|refine zq ?_|(case hg=>assumption))))
  ((first|apply g_ret|apply g_end);case hres => (simp only [smR];simp (disch := first|omega|exact kD rfl|exact kX rfl) only [smY,simprocAttr,bl,i64,smT];exact rfl))
  simp (disch := first|omega|exact kD rfl|exact kX rfl) only [smY,simprocAttr,bl,i64,smT]
theorem qdivide_short (f g : List Rat) (lf : lastQ f) (tf : tinyL f) (hl : f.length < g.length) (hg : g.length ≤ 1000) : PureGood Tryz.prog 119 [encF f,encF g] (.tup [.sl 0 [],encF f]) := by
 have gn := qpnorm_good f (by omega) (fun c hc => by have := tiny_lq (tf c hc);omega)
 rw [trimQ_last lf] at gn
 simp only [encF_qc] at *
 refine good_of_lwp mix Tryz.func119 rfl (by decide) (nt := 87) rfl (rs := [.tmp 4,.tmp 5]) rfl (nle rfl) ?_
 (repeat (first|apply zO (by decide +kernel)|apply zP (by decide +kernel)|(apply zS;(case h=>constructor<;>decide))|((first|apply l_go rfl|apply c_dec|apply zT rfl (by decide) rfl);(case hs=>(simp (disch := first|omega|exact kD rfl|exact kX rfl) only [smY,simprocAttr,bl,i64,smT];exact rfl));first|refine c_bt ?_|refine c_bf ?_|refine zq ?_|(case hg=>assumption))))
 ((first|apply g_ret|apply g_end);case hres => (simp only [smR];simp (disch := first|omega|exact kD rfl|exact kX rfl) only [smY,simprocAttr,bl,i64,smT];exact rfl))
 simp (disch := first|omega|exact kD rfl|exact kX rfl) only [smY,simprocAttr,bl,i64,smT]
theorem qdivide_long (f g Q R : List Rat) (D : Nat) (lf : lastQ f) (tf : tinyL f) (tg : tinyL g) (hG : 1 ≤ g.length) (hg : g.length ≤ 1000) (hf : f.length ≤ 1000) (hD : f.length + 1 = D + g.length) (hD1 : 1 ≤ D) (h0 : g.getD (g.length - 1) 0 ≠ 0)
  (h : divO g (g.getD (g.length - 1) 0) D (List.replicate D none) f = some (Q.map some,R)) (hQ : Q.length ≤ 1000) (hR : R.length ≤ 1000) : PureGood Tryz.prog 119 [encF f,encF g] (.tup [encF (trimQ Q),encF (trimQ R)]) := by
 have gn := qpnorm_new f lf (by omega) (fun c hc => by have := tiny_lq (tf c hc);omega)
 have t1 := qtrim_good Q (by omega)
 have t2 := qtrim_good R (by omega)
 have hDz : ((f.length : Int) - (g.length : Int) + 1).toNat = D := by omega
 have lgl := tinyL_get tg (i := g.length - 1) (by omega)
 simp only [encF_qc] at *
 refine good_of_lwp mix Tryz.func119 rfl (by decide) (nt := 87) rfl (rs := [.tmp 4,.tmp 5]) rfl (nle rfl) ?_
 (repeat (first|apply zO (by decide +kernel)|apply zP (by decide +kernel)|(apply zS;(case h=>constructor<;>decide))|((first|apply l_go rfl|apply c_dec|apply zT rfl (by decide) rfl);(case hs=>(simp (disch := first|omega|exact kD rfl|exact kX rfl) only [smY,simprocAttr,bl,i64,smT];exact rfl));first|refine c_bt ?_|refine c_bf ?_|refine zq ?_|(case hg=>assumption))))
 refine l_ncall (by simp only [List.size_toArray,List.length_cons,List.length_nil,Nat.reduceAdd,Nat.max_def,Nat.reduceLeDiff,↓reduceIte];exact rfl) rfl rfl rfl (by decide) rfl (by simp (disch := first|omega|exact kD rfl|exact kX rfl) only [smY,simprocAttr,bl,i64,smT];try exact rfl) gn (by simp [plainC]) (by simp [upd]) ?_
 (repeat (first|apply zO (by decide +kernel)|apply zP (by decide +kernel)|(apply zS;(case h=>constructor<;>decide))|((first|apply l_go rfl|apply c_dec|apply zT rfl (by decide) rfl);(case hs=>(simp (disch := first|omega|exact kD rfl|exact kX rfl) only [smY,simprocAttr,bl,i64,smT,smO,hDz];exact rfl));first|refine c_bt ?_|refine c_bf ?_|refine zq ?_|(case hg=>assumption))))
 refine w_loop (α := {x : Nat × List (Option Rat) × List Rat // x.1 ≤ D ∧ x.2.1.length = D ∧ x.2.2.length = f.length ∧ tinyL x.2.2 ∧ divO g (g.getD (g.length - 1) 0) x.1 x.2.1 x.2.2 = some (Q.map some,R)}) (fun x => st 87 (lk [(0,.sl f.length (qc f)),(1,.sl g.length (qc g)),(4,.own 0 0 D 4),(5,.own 1 0 f.length 4),(6,i64 ((x.1.1 : Int) - 1))]) (lkH [(0,⟨68,oc x.1.2.1,false⟩),(1,⟨68,qc x.1.2.2,false⟩)]) 2) (fun x => x.1.1) ⟨(D,List.replicate D none,f),Nat.le_refl _,by simp,rfl,tf,h⟩ ?_ ?_
 ·(refine Sub.heapL [17,5] rfl (by decide) ?_ (by simp only [smL];decide) ?_ ?_;all_goals (first|(simp only [plainC,smF,dg,renL,renLs,simprocAttr,bl,i64,smT,smO,hDz];done) | (simp only [smF,dg,renL,renLs,simprocAttr,bl,i64,smT,smO,hDz];(repeat' apply And.intro);all_goals rfl) | (simp only [smF,dg,renL,renLs,simprocAttr,bl,i64,smT,smO,hDz]) | skip))
  all_goals (first | done | ((repeat' apply And.intro);all_goals (first | trivial | rfl)))
 ·rintro ⟨⟨k,q,r⟩,hk,hq,hr,tr,hd⟩
  simp only at hk hq hr tr hd
  simp only [st]
  by_cases hk0 : k = 0
  ·subst hk0
   rw [divO_zero] at hd
   injection hd with hd
   injection hd with hd1 hd2
   subst hd1 hd2
   rw [List.length_map] at hq
   rw [oc_some]
   rw [hq] at t1
   rw [hr] at t2
   (repeat (first|apply zO (by decide +kernel)|apply zP (by decide +kernel)|(apply zS;(case h=>constructor<;>decide))|((first|apply l_go rfl|apply c_dec|apply zT rfl (by decide) rfl);(case hs=>(simp (disch := first|omega|exact kD rfl|exact kX rfl) only [smY,simprocAttr,bl,i64,smT,smO];exact rfl));first|refine c_bt ?_|refine c_bf ?_|refine zq ?_|(case hg=>assumption))))
   ((first|apply g_ret|apply g_end);case hres => (simp only [smR];simp (disch := first|omega|exact kD rfl|exact kX rfl) only [smY,simprocAttr,bl,i64,smT,smO];exact rfl))
   simp (disch := first|omega|exact kD rfl|exact kX rfl) only [smY,simprocAttr,bl,i64,smT,smO]
  ·obtain ⟨k,rfl⟩ : ∃ j,k = j + 1 := ⟨k - 1,by omega⟩
   obtain ⟨tc,hd⟩ := divO_succ hd
   have la := tinyL_get tr (i := k + g.length - 1) (by omega)
   have gq := quo_good (r.getD (k + g.length - 1) 0) (g.getD (g.length - 1) 0) h0 (by omega) (by omega)
   have gz := qzero_good (r.getD (k + g.length - 1) 0 / g.getD (g.length - 1) 0) (by have := tiny_lq tc;omega)
   have lc := tiny_lq tc
   generalize hc : r.getD (k + g.length - 1) 0 / g.getD (g.length - 1) 0 = c at *
   generalize ha : r.getD (k + g.length - 1) 0 = a at *
   generalize hgl : g.getD (g.length - 1) 0 = gl at *
   have hk1 : ((k + 1 : Nat) : Int) - 1 = k := by omega
   have hset := oc_set (l := q) (j := k) (by omega) c
   have hgs : (q.set k (some c)).getD k none = some c := by simp [show k < q.length by omega]
   have hql : (q.set k (some c)).length = D := by simp [hq]
   simp only [encQ_sm] at gq gz
   rcases hd with ⟨c0,hd⟩ | ⟨c0,r',hs,hd⟩
   ·rw [dec_t c0] at gz
    simp only [i64,bl] at *
    (repeat (first|apply zO (by decide +kernel)|apply zP (by decide +kernel)|(apply zS;(case h=>constructor<;>decide))|((first|apply l_go rfl|apply c_dec|apply zT rfl (by decide) rfl);(case hs=>(simp (disch := first|omega|exact kD rfl|exact kX rfl) only [smY,simprocAttr,bl,i64,smT,smO,ha,hgl,hk1,hset,hgs];exact rfl));first|refine c_bt ?_|refine c_bf ?_|refine zq ?_|(case hg=>assumption))))
    refine ⟨⟨(k,q.set k (some c),r),by simp only;omega,by simp only;exact hql,hr,tr,hd⟩,?_,by simp only;omega⟩
    (refine Sub.heapL [0,1] rfl (by decide) ?_ (by simp only [smL];decide) ?_ ?_;all_goals (first|(simp only [plainC,smF,dg,renL,renLs,simprocAttr,bl,i64,smT,smO];done) | (simp only [smF,dg,renL,renLs,simprocAttr,bl,i64,smT,smO];(repeat' apply And.intro);all_goals rfl) | (simp only [smF,dg,renL,renLs,simprocAttr,bl,i64,smT,smO]) | skip))
    all_goals (first | done | ((repeat' apply And.intro);all_goals (first | trivial | rfl)))
   ·rw [dec_f c0] at gz
    simp only [i64,bl] at *
    (repeat (first|apply zO (by decide +kernel)|apply zP (by decide +kernel)|(apply zS;(case h=>constructor<;>decide))|((first|apply l_go rfl|apply c_dec|apply zT rfl (by decide) rfl);(case hs=>(simp (disch := first|omega|exact kD rfl|exact kX rfl) only [smY,simprocAttr,bl,i64,smT,smO,ha,hgl,hk1,hset,hgs];exact rfl));first|refine c_bt ?_|refine c_bf ?_|refine zq ?_|(case hg=>assumption))))
    refine w_loop (α := {x : Nat × List Rat // x.1 ≤ g.length ∧ x.2.length = f.length ∧ tinyL x.2 ∧ subO c (g.drop x.1) x.2 (k + x.1) = some r'}) (fun x => st 87 (lk [(0,.sl f.length (qc f)),(1,.sl g.length (qc g)),(4,.own 0 0 D 4),(5,.own 1 0 f.length 4),(6,i64 k),(57,.sl g.length (qc g)),(58,i64 g.length),(59,i64 x.1.1)]) (lkH [(0,⟨68,oc (q.set k (some c)),false⟩),(1,⟨68,qc x.1.2,false⟩)]) 2) (fun x => g.length - x.1.1) ⟨(0,r),by simp,hr,tr,hs⟩ ?_ ?_
    ·(refine Sub.heapL [0,1] rfl (by decide) ?_ (by simp only [smL];decide) ?_ ?_;all_goals (first|(simp only [plainC,smF,dg,renL,renLs,simprocAttr,bl,i64,smT,smO];done) | (simp only [smF,dg,renL,renLs,simprocAttr,bl,i64,smT,smO];(repeat' apply And.intro);all_goals rfl) | (simp only [smF,dg,renL,renLs,simprocAttr,bl,i64,smT,smO]) | skip))
     all_goals (first | done | ((repeat' apply And.intro);all_goals (first | trivial | rfl)))
    ·rintro ⟨⟨j,y⟩,hj,hy,ty,hsub⟩
     simp only at hj hy ty hsub
     simp only [st]
     by_cases hlt : j < g.length
     ·rw [List.drop_eq_getElem_cons hlt] at hsub
      obtain ⟨u1,u2,u3⟩ := subO_cons hsub
      have hgj : g.getD j 0 = g[j] := by simp [hlt]
      rw [← hgj] at u1 u2 u3
      have lb := tinyL_get tg hlt
      have ly := tinyL_get ty (i := k + j) (by omega)
      have lm := tiny_lq u1
      have gm := qmul_good c (g.getD j 0) (by omega) (by omega)
      have gs := qsub_good (y.getD (k + j) 0) (c * g.getD j 0) (by omega) (by omega)
      have hys := qc_set (l := y) (j := k + j) (by omega) (y.getD (k + j) 0 - c * g.getD j 0)
      have hyl : (y.set (k + j) (y.getD (k + j) 0 - c * g.getD j 0)).length = f.length := by simp [hy]
      have tys := tinyL_set (i := k + j) ty u2
      have hkj : ((k : Int) + (j : Int)) = ((k + j : Nat) : Int) := by simp
      have hkb : k + j < y.length := by omega
      have hgd : (qc (y.set (k + j) (y.getD (k + j) 0 - c * g.getD j 0))).length = f.length * 4 := by rw [qc_len,hyl]
      generalize hv : y.getD (k + j) 0 - c * g.getD j 0 = v at *
      generalize hmm : c * g.getD j 0 = mm at *
      generalize hb : g.getD j 0 = b at *
      generalize hx : y.getD (k + j) 0 = x at *
      simp only [encQ_sm] at gm gs
      (repeat (first|apply zO (by decide +kernel)|apply zP (by decide +kernel)|(apply zS;(case h=>constructor<;>decide))|((first|apply l_go rfl|apply c_dec|apply zT rfl (by decide) rfl);(case hs=>(simp (disch := first|omega|exact kD rfl|exact kX rfl) only [smY,simprocAttr,bl,i64,smT,smO,hb,hx,hgs,hkj,hys];exact rfl));first|refine c_bt ?_|refine c_bf ?_|refine zq ?_|(case hg=>assumption))))
      refine ⟨⟨(j + 1,y.set (k + j) v),by simp only;omega,by simp only;exact hyl,tys,by simp only;exact u3⟩,?_,by simp only;omega⟩
      (refine Sub.heapL [0,1] rfl (by decide) ?_ (by simp only [smL];decide) ?_ ?_;all_goals (first|(simp only [plainC,smF,dg,renL,renLs,simprocAttr,bl,i64,smT,smO];done) | (simp only [smF,dg,renL,renLs,simprocAttr,bl,i64,smT,smO];(repeat' apply And.intro);all_goals rfl) | (simp only [smF,dg,renL,renLs,simprocAttr,bl,i64,smT,smO]) | skip))
      all_goals done
     ·obtain rfl : j = g.length := by omega
      rw [List.drop_length,subO_nil] at hsub
      injection hsub with hsub
      subst hsub
      (repeat (first|apply zO (by decide +kernel)|apply zP (by decide +kernel)|(apply zS;(case h=>constructor<;>decide))|((first|apply l_go rfl|apply c_dec|apply zT rfl (by decide) rfl);(case hs=>(simp (disch := first|omega|exact kD rfl|exact kX rfl) only [smY,simprocAttr,bl,i64,smT,smO];exact rfl));first|refine c_bt ?_|refine c_bf ?_|refine zq ?_|(case hg=>assumption))))
      refine ⟨⟨(k,q.set k (some c),y),by simp only;omega,by simp only;exact hql,hy,ty,hd⟩,?_,by simp only;omega⟩
      (refine Sub.heapL [0,1] rfl (by decide) ?_ (by simp only [smL];decide) ?_ ?_;all_goals (first|(simp only [plainC,smF,dg,renL,renLs,simprocAttr,bl,i64,smT,smO];done) | (simp only [smF,dg,renL,renLs,simprocAttr,bl,i64,smT,smO];(repeat' apply And.intro);all_goals rfl) | (simp only [smF,dg,renL,renLs,simprocAttr,bl,i64,smT,smO]) | skip))
      all_goals (first | done | ((repeat' apply And.intro);all_goals (first | trivial | rfl)))
end Go.Proofs.YtpkjokknpbclhaaGreat
namespace Go.Proofs.YtpkjokknpbclhaaGreat
open Go Go.Lg Go.Num
set_option maxRecDepth 100000
def rz (l : List Int) : List Rat := l.map fun (z : Int) => (z : Rat)
def okZ (z : Int) : Bool := Nat.ble z.natAbs 4611686018427387904
theorem rz_len (l : List Int) : (rz l).length = l.length := by simp [rz]
theorem okZ_tinyI {z : Int} (h : okZ z = true) : tinyI z = true := by
 unfold okZ at h
 unfold tinyI
 rw [Nat.ble_eq] at *
 have : (4611686018427387905 : Nat) ≤ 4294967296 ^ 100 := by decide +kernel
 omega
theorem okZ_tiny {z : Int} (h : okZ z = true) : tiny (z : Rat) = true := by
 have := okZ_tinyI h
 unfold tinyI at this
 unfold tiny
 rw [Bool.and_eq_true]
 refine ⟨?_,?_⟩
 ·rw [Rat.num_intCast];exact this
 ·rw [Rat.den_intCast];decide +kernel
def zipZ (c : Int) : List Int → List Int → Option (List Int)
 | [],r => some r
 | _ :: _,[] => none
 | b :: g,x :: r => fInt (c * b) fun m => fInt (x - m) fun v => bif okZ m && okZ v then match zipZ c g r with
   | some l => some (v :: l)
   | none => none else none
theorem zipZ_ok {c : Int} : ∀ {g r l : List Int},zipZ c g r = some l → l.length = r.length ∧ ∀ lo : List Int,subO (c : Rat) (rz g) (rz (lo ++ r)) lo.length = some (rz (lo ++ l))
 | [],r,l,h => by
   cases h
   exact ⟨rfl,fun lo => rfl⟩
 | _ :: _,[],l,h => by cases h
 | b :: g,x :: r,l,h => by
   unfold zipZ at h
   rw [fInt_eq,fInt_eq] at h
   cases hb : (okZ (c * b) && okZ (x - c * b)) with
   | false => rw [hb,cond_false] at h;cases h
   | true =>
     rw [hb,cond_true] at h
     rw [Bool.and_eq_true] at hb
     split at h
     · rename_i l' hl
       cases h
       obtain ⟨e1,e2⟩ := zipZ_ok hl
       refine ⟨by simp [e1],fun lo => ?_⟩
       have e3 := e2 (lo ++ [x - c * b])
       have hx : (rz (lo ++ x :: r)).getD lo.length 0 = (x : Rat) := by simp [rz]
       have hset : (rz (lo ++ x :: r)).set lo.length ((x - c * b : Int) : Rat) = rz (lo ++ [x - c * b] ++ r) := by simp [rz]
       show subO (c : Rat) ((b : Rat) :: rz g) _ _ = _
       rw [subO,hx,← Rat.intCast_mul,← Rat.intCast_sub,okZ_tiny hb.1,okZ_tiny hb.2]
       show subO _ _ _ _ = _
       rw [hset]
       simp only [List.length_append,List.length_cons,List.length_nil] at e3
       rw [e3]
       simp
     · cases h
def divZ (g : List Int) (G : Nat) : List Int → List Int → List Int → Option (List Int × List Int)
 | [],hi,q => some (q,hi)
 | x :: lo,hi,q => fInt ((x :: hi).getD (G - 1) 0) fun c => bif okZ c then (bif Nat.beq c.natAbs 0 then divZ g G lo (x :: hi) (c :: q) else match zipZ c g (x :: hi) with
   | some h2 => divZ g G lo h2 (c :: q)
   | none => none) else none
theorem divZ_ok {g : List Int} (hG : 1 ≤ g.length) : ∀ {lo hi q Q R : List Int}, divZ g g.length lo hi q = some (Q, R) → hi.length + 1 = g.length + (hi.length + 1 - g.length) → g.length ≤ hi.length + 1 →
  divO (rz g) 1 lo.length (List.replicate lo.length none ++ (rz q).map some) (rz (lo.reverse ++ hi)) = some ((rz Q).map some,rz R) ∧ Q.length = lo.length + q.length ∧ R.length = lo.length + hi.length
 | [],hi,q,Q,R,h,_,_ => by
   cases h
   exact ⟨rfl,by simp,by simp⟩
 | x :: lo,hi,q,Q,R,h,_,hle => by
   unfold divZ at h
   rw [fInt_eq] at h
   generalize hc : (x :: hi).getD (g.length - 1) 0 = c at h
   cases hk : okZ c with
   | false => rw [hk,cond_false] at h;cases h
   | true =>
     rw [hk,cond_true] at h
     have hr : lo.reverse ++ x :: hi = (x :: lo).reverse ++ hi := by simp
     have hget : (rz ((x :: lo).reverse ++ hi)).getD (lo.length + (rz g).length - 1) 0 = (c : Rat) := by
       rw [← hr,rz_len,← hc]
       have e : lo.length + g.length - 1 = lo.reverse.length + (g.length - 1) := by rw [List.length_reverse];omega
       rw [e]
       simp only [rz,List.getD,List.getElem?_map,List.getElem?_append_right (Nat.le_add_right _ _),Nat.add_sub_cancel_left]
       cases (x :: hi)[g.length - 1]? <;> rfl
     have hset : (List.replicate (lo.length + 1) none ++ (rz q).map some).set lo.length (some (c : Rat)) = List.replicate lo.length none ++ (rz (c :: q)).map some := by
       rw [List.replicate_succ',List.append_assoc,List.set_append_right _ _ (by simp),List.length_replicate,Nat.sub_self]
       rfl
     have hd1 : (c : Rat) / 1 = c := by rw [Rat.div_def,show (1 : Rat)⁻¹ = 1 from by decide +kernel,Rat.mul_one]
     cases h0 : Nat.beq c.natAbs 0 with
     | true =>
       rw [h0,cond_true] at h
       have hc0 : (c : Rat) = 0 := by
         have := Nat.eq_of_beq_eq_true h0
         have : c = 0 := by omega
         rw [this];rfl
       obtain ⟨e1,e2,e3⟩ := divZ_ok hG h (by simp;omega) (by simp;omega)
       refine ⟨?_,by simp only [List.length_cons] at *;omega,by simp only [List.length_cons] at *;omega⟩
       rw [List.length_cons,divO,hget,hd1,okZ_tiny hk,cond_true,if_pos hc0,hset,← hr]
       exact e1
     | false =>
       rw [h0,cond_false] at h
       have hc0 : ¬ (c : Rat) = 0 := fun e => by
         have : c = 0 := Rat.intCast_inj.1 (e.trans Rat.intCast_zero.symm)
         rw [this] at h0
         cases h0
       split at h
       · rename_i h2 hz
         obtain ⟨z1,z2⟩ := zipZ_ok hz
         simp only [List.length_cons] at z1
         obtain ⟨e1,e2,e3⟩ := divZ_ok hG h (by omega) (by omega)
         refine ⟨?_,by simp only [List.length_cons] at *;omega,by simp only [List.length_cons] at *;omega⟩
         rw [List.length_cons,divO,hget,hd1,okZ_tiny hk,cond_true,if_neg hc0,hset,← hr]
         have := z2 lo.reverse
         rw [List.length_reverse] at this
         rw [this]
         exact e1
       · cases h
end Go.Proofs.YtpkjokknpbclhaaGreat
namespace Go.Proofs.YtpkjokknpbclhaaGreat
open Go Go.Lg Go.Num
set_option maxRecDepth 100000
def rdZs : Nat → List LV → Option (List Int)
 | 0,[] => some []
 | k + 1,a :: b :: c :: d :: r => match rdI a b,rdI c d,rdZs k r with
   | some z,some (.ofNat e),some l => bif Nat.beq e 1 && okZ z then some (z :: l) else none
   | _,_,_ => none
 | _,_ => none
theorem qcells_int (z : Int) : qcells (z : Rat) = [sg z,mg z,sg 1,mg 1] := by
 rw [qcells_sm,Rat.num_intCast,Rat.den_intCast]
 rfl
theorem rdZs_ok : ∀ {k : Nat} {cs : List LV} {l : List Int},rdZs k cs = some l → cs = qc (rz l) ∧ k = l.length ∧ ∀ z ∈ l,okZ z = true
 | 0,[],l,h => by cases h;exact ⟨rfl,rfl,by simp⟩
 | 0,_ :: _,l,h => by cases h
 | k + 1,[],l,h => by cases h
 | k + 1,[_],l,h => by cases h
 | k + 1,[_,_],l,h => by cases h
 | k + 1,[_,_,_],l,h => by cases h
 | k + 1,a :: b :: c :: d :: r,l,h => by
   unfold rdZs at h
   split at h
   · rename_i z e l' h1 h2 h3
     cases hb : (Nat.beq e 1 && okZ z) with
     | false => rw [hb,cond_false] at h;cases h
     | true =>
       rw [hb,cond_true] at h
       cases h
       rw [Bool.and_eq_true] at hb
       have he := Nat.eq_of_beq_eq_true hb.1
       subst he
       obtain ⟨e1,e2⟩ := rdI_ok h1
       obtain ⟨e3,e4⟩ := rdI_ok h2
       obtain ⟨e5,e6,e7⟩ := rdZs_ok h3
       refine ⟨?_,by simp [e6],by simpa using ⟨hb.2,e7⟩⟩
       show _ = qcells (z : Rat) ++ qc (rz l')
       rw [← e5,qcells_int,e1,e2,e3,e4]
       rfl
   · cases h
def wrZc (l : List Int) : List LV := l.flatMap fun z => wrI z ++ wrI 1
def wrZL (l : List Int) : LV := .sl l.length (wrZc l)
theorem wrZc_eq : ∀ {l : List Int},(∀ z ∈ l,okZ z = true) → wrZc l = qc (rz l)
 | [],_ => rfl
 | z :: l,h => by
   have h1 := wh_enc (okZ_tinyI (h z (by simp)))
   rw [encQ_sm,Rat.num_intCast,Rat.den_intCast] at h1
   injection h1 with h1
   have h2 := wrZc_eq (l := l) (fun x hx => h x (by simp [hx]))
   show (wrI z ++ wrI 1) ++ wrZc l = qcells (z : Rat) ++ qc (rz l)
   rw [h2,h1,qcells_int]
   rfl
theorem wrZL_eq {l : List Int} (h : ∀ z ∈ l,okZ z = true) : wrZL l = encF (rz l) := by
 rw [wrZL,wrZc_eq h,encF_qc,rz_len]
def dropZ : List Int → List Int
 | [] => []
 | z :: l => bif Nat.beq z.natAbs 0 then dropZ l else z :: l
def trimZ (l : List Int) : List Int := (dropZ l.reverse).reverse
theorem dropZ_eq : ∀ l : List Int,rz (dropZ l) = (rz l).dropWhile (· == 0)
 | [] => rfl
 | z :: l => by
   unfold dropZ
   cases hb : Nat.beq z.natAbs 0 with
   | true =>
     have := Nat.eq_of_beq_eq_true hb
     have hz : z = 0 := by omega
     subst hz
     rw [cond_true,dropZ_eq l]
     rfl
   | false =>
     have hz : (z : Rat) ≠ 0 := fun e => by
       have : z = 0 := Rat.intCast_inj.1 (e.trans Rat.intCast_zero.symm)
       rw [this] at hb
       cases hb
     rw [cond_false]
     show _ = List.dropWhile _ ((z : Rat) :: rz l)
     rw [List.dropWhile_cons_of_neg (by simpa using hz)]
     rfl
theorem trimZ_eq (l : List Int) : rz (trimZ l) = trimQ (rz l) := by
 unfold trimZ trimQ
 rw [show (rz l).reverse = rz l.reverse by simp [rz],← dropZ_eq]
 simp [rz]
theorem dropZ_sub : ∀ {l : List Int} {z : Int},z ∈ dropZ l → z ∈ l
 | [],z,h => h
 | x :: l,z,h => by
   unfold dropZ at h
   cases hb : Nat.beq x.natAbs 0 with
   | true => rw [hb,cond_true] at h;exact List.mem_cons_of_mem _ (dropZ_sub h)
   | false => rw [hb,cond_false] at h;exact h
theorem trimZ_sub {l : List Int} {z : Int} (h : z ∈ trimZ l) : z ∈ l := by
 have := List.mem_reverse.1 h
 exact List.mem_reverse.1 (dropZ_sub this)
def allZ (l : List Int) : Bool := l.all okZ
def orcTr (args : List LV) : Option LV := match args with
 | [.sl n cs] => match rdZs n cs with
   | some f => bif Nat.ble n 1000 then some (wrZL (trimZ f)) else none
   | none => none
 | _ => none
theorem orcTr_ok {fid : FuncId} (hg : ∀ f : List Rat,f.length ≤ 1000 → (∀ c ∈ f,lq c ≤ 200) → PureGood Tryz.prog fid [encF f] (encF (trimQ f))) {args : List LV} {r : LV} (h : orcTr args = some r) : PureGood Tryz.prog fid args r := by
 unfold orcTr at h
 split at h
 ·rename_i n cs
  split at h
  ·rename_i f hf
   obtain ⟨rfl,rfl,h3⟩ := rdZs_ok hf
   cases hb : Nat.ble f.length 1000 with
   | false => rw [hb,cond_false] at h;cases h
   | true =>
     rw [hb,cond_true] at h
     cases h
     rw [Nat.ble_eq] at hb
     have := hg (rz f) (by rw [rz_len];exact hb) (fun c hc => by
       obtain ⟨z,hz,rfl⟩ := List.mem_map.1 hc
       exact tiny_lq (okZ_tiny (h3 z hz)))
     rw [wrZL_eq (fun z hz => h3 z (trimZ_sub hz)),trimZ_eq,← rz_len,← encF_qc]
     exact this
  ·cases h
 ·cases h
def orcDv (args : List LV) : Option LV := match args with
 | [.sl n cs,.sl k ds] => match rdZs n cs,rdZs k ds with
   | some f, some g => bif Nat.ble 1 k && Nat.ble k 1000 && Nat.ble n 1000 && (g.getD (k - 1) 0 == 1) && (Nat.beq n 0 || !(f.getD (n - 1) 0 == 0)) then
       (bif Nat.blt n k then some (.tup [.sl 0 [],.sl n cs]) else match divZ g k (f.take (n + 1 - k)).reverse (f.drop (n + 1 - k)) [] with
         | some (Q,R) => bif allZ Q && allZ R then some (.tup [wrZL (trimZ Q),wrZL (trimZ R)]) else none
         | none => none) else none
   | _,_ => none
 | _ => none
theorem orcDv_ok {args : List LV} {r : LV} (h : orcDv args = some r) : PureGood Tryz.prog 119 args r := by
 unfold orcDv at h
 split at h
 ·rename_i n cs k ds
  split at h
  ·rename_i f g hf hg
   obtain ⟨rfl,rfl,f3⟩ := rdZs_ok hf
   obtain ⟨rfl,rfl,g3⟩ := rdZs_ok hg
   generalize hcond : (Nat.ble 1 g.length && Nat.ble g.length 1000 && Nat.ble f.length 1000 && (g.getD (g.length - 1) 0 == 1) && (Nat.beq f.length 0 || !(f.getD (f.length - 1) 0 == 0))) = q at h
   cases q with
   | false => rw [cond_false] at h;cases h
   | true =>
     rw [cond_true] at h
     simp only [Bool.and_eq_true,Bool.or_eq_true,Bool.not_eq_true',Nat.ble_eq,Nat.beq_eq,beq_iff_eq,beq_eq_false_iff_ne,ne_eq] at hcond
     obtain ⟨⟨⟨⟨c1,c2⟩,c3⟩,c4⟩,c5⟩ := hcond
     have tf : tinyL (rz f) := fun c hc => by
       obtain ⟨z,hz,rfl⟩ := List.mem_map.1 hc
       exact okZ_tiny (f3 z hz)
     have tg : tinyL (rz g) := fun c hc => by
       obtain ⟨z,hz,rfl⟩ := List.mem_map.1 hc
       exact okZ_tiny (g3 z hz)
     have getz : ∀ (l : List Int) (i : Nat),(rz l).getD i 0 = ((l.getD i 0 : Int) : Rat) := by
       intro l i
       simp only [rz,List.getD,List.getElem?_map]
       cases l[i]? <;> rfl
     have lf : lastQ (rz f) := by
       intro h0
       rw [rz_len] at h0 ⊢
       rw [getz]
       intro e
       have := Rat.intCast_inj.1 (e.trans Rat.intCast_zero.symm)
       rcases c5 with c5 | c5
       · omega
       · exact c5 this
     have hgl : (rz g).getD ((rz g).length - 1) 0 = 1 := by rw [rz_len,getz,c4];rfl
     cases hlt : Nat.blt f.length g.length with
     | true =>
       rw [hlt,cond_true] at h
       cases h
       have hlt : f.length < g.length := Nat.le_of_ble_eq_true hlt
       have := qdivide_short (rz f) (rz g) lf tf (by rw [rz_len,rz_len];exact hlt) (by rw [rz_len];exact c2)
       rw [encF_qc,encF_qc,rz_len,rz_len] at this
       exact this
     | false =>
       rw [hlt,cond_false] at h
       have hlt : ¬ f.length < g.length := fun e => by
         have : Nat.blt f.length g.length = true := Nat.ble_eq_true_of_le e
         rw [this] at hlt
         cases hlt
       split at h
       · rename_i Q R hd
         cases hall : (allZ Q && allZ R) with
         | false => rw [hall,cond_false] at h;cases h
         | true =>
           rw [hall,cond_true] at h
           cases h
           rw [Bool.and_eq_true] at hall
           have hQ := List.all_eq_true.1 hall.1
           have hR := List.all_eq_true.1 hall.2
           have hlo : (f.take (f.length + 1 - g.length)).reverse.length = f.length + 1 - g.length := by rw [List.length_reverse,List.length_take];omega
           have hhi : (f.drop (f.length + 1 - g.length)).length = g.length - 1 := by rw [List.length_drop];omega
           obtain ⟨e1,e2,e3⟩ := divZ_ok c1 hd (by omega) (by omega)
           rw [hlo] at e1 e2 e3
           rw [hhi] at e3
           rw [List.reverse_reverse,List.take_append_drop] at e1
           have hnil : List.replicate (f.length + 1 - g.length) none ++ (rz ([] : List Int)).map some = List.replicate (f.length + 1 - g.length) none := by simp [rz]
           rw [hnil] at e1
           have := qdivide_long (rz f) (rz g) (rz Q) (rz R) (f.length + 1 - g.length) lf tf tg (by rw [rz_len];exact c1) (by rw [rz_len];exact c2) (by rw [rz_len];exact c3) (by rw [rz_len,rz_len];omega) (by omega)
             (by rw [hgl];decide +kernel) (by rw [hgl];exact e1) (by rw [rz_len,e2];simp;omega) (by rw [rz_len,e3];omega)
           rw [wrZL_eq (fun z hz => hQ z (trimZ_sub hz)),wrZL_eq (fun z hz => hR z (trimZ_sub hz)),trimZ_eq,trimZ_eq]
           rw [encF_qc (rz f),encF_qc (rz g),rz_len,rz_len] at this
           exact this
       · cases h
  ·cases h
 ·cases h
def orcP (f : FuncId) (args : List LV) : Option LV := bif Nat.beq f 119 then orcDv args else bif Nat.beq f 118 then orcTr args else bif Nat.beq f 111 then orcTr args else orcA f args
theorem orcP_ok : OrcOk Tryz.prog orcP := by
 intro f args r h
 exact orc_cons (f0 := 119) (g := orcDv) (fun _ _ h => orcDv_ok h) (orc_cons (f0 := 118) (g := orcTr) (fun _ _ h => orcTr_ok (fun f h1 h2 => qpnorm_good f (by omega) (fun c hc => by have := h2 c hc;omega)) h) (orc_cons (f0 := 111) (g := orcTr) (fun _ _ h => orcTr_ok (fun f h1 h2 => qtrim_good f (by omega)) h) orcA_ok)) f args r h
end Go.Proofs.YtpkjokknpbclhaaGreat
namespace Go.Proofs.YtpkjokknpbclhaaGreat
open Go Go.Lg Go.Num
set_option maxRecDepth 100000
set_option maxHeartbeats 8000000
def subI (c : Int) : List Int → List Int → Nat → Option (List Int)
 | [],r,_ => some r
 | b :: g,r,i => bif okZ (c * b) && okZ (r.getD i 0 - c * b) then subI c g (r.set i (r.getD i 0 - c * b)) (i + 1) else none
def divI (g : List Int) : Nat → List Int → List Int → Option (List Int × List Int)
 | 0,q,r => some (q,r)
 | k + 1,q,r => bif okZ (r.getD (k + g.length - 1) 0) then match subI (r.getD (k + g.length - 1) 0) g r k with
   | some r' => divI g k (q.set k (r.getD (k + g.length - 1) 0)) r'
   | none => none else none
theorem divI_succ {g : List Int} {k : Nat} {q r : List Int} {x : List Int × List Int} (h : divI g (k + 1) q r = some x) : okZ (r.getD (k + g.length - 1) 0) = true ∧ ∃ r',subI (r.getD (k + g.length - 1) 0) g r k = some r' ∧ divI g k (q.set k (r.getD (k + g.length - 1) 0)) r' = some x := by
 rw [divI] at h
 cases ht : okZ (r.getD (k + g.length - 1) 0) with
 | false => rw [ht,cond_false] at h;cases h
 | true =>
   rw [ht,cond_true] at h
   refine ⟨rfl,?_⟩
   split at h
   · rename_i r' hr
     exact ⟨r',hr,h⟩
   · cases h
theorem subI_cons {c b : Int} {g r r' : List Int} {i : Nat} (h : subI c (b :: g) r i = some r') : okZ (c * b) = true ∧ okZ (r.getD i 0 - c * b) = true ∧ subI c g (r.set i (r.getD i 0 - c * b)) (i + 1) = some r' := by
 rw [subI] at h
 cases ht : (okZ (c * b) && okZ (r.getD i 0 - c * b)) with
 | false => rw [ht,cond_false] at h;cases h
 | true =>
   rw [ht,cond_true] at h
   rw [Bool.and_eq_true] at ht
   exact ⟨ht.1,ht.2,h⟩
theorem okZ_bd {z : Int} (h : okZ z = true) : -4611686018427387904 ≤ z ∧ z ≤ 4611686018427387904 := by
 unfold okZ at h
 rw [Nat.ble_eq] at h
 omega
theorem okL_set {l : List Int} (h : ∀ z ∈ l,okZ z = true) {i : Nat} {q : Int} (hq : okZ q = true) : ∀ z ∈ l.set i q,okZ z = true := by
 intro x hx
 rcases List.mem_or_eq_of_mem_set hx with h1 | rfl
 ·exact h x h1
 ·exact hq
attribute [local irreducible] Go.Lg.lrun Go.Lg.lwp Go.Lg.exThen Go.Lg.exBlk Go.Lg.keep Go.Lg.goodPost subI divI ec okZ
theorem rdivide29_good (f g Q R : List Int) (D : Nat) (of : ∀ z ∈ f, okZ z = true) (og : ∀ z ∈ g, okZ z = true) (hG : 2 ≤ g.length) (hg : g.length ≤ 1000) (hf : f.length ≤ 1000) (hD : f.length + 1 = D + g.length) (hD1 : 1 ≤ D)
  (h : divI g D (List.replicate D 0) f = some (Q,R)) : PureGood Tryz.prog 54 [.sl f.length (ec f),.sl g.length (ec g)] (.tup [.sl D (ec Q),.sl (g.length - 1) (ec (R.take (g.length - 1)))]) := by
 have hDz : ((f.length : Int) - (g.length : Int) + 1).toNat = D := by omega
 have hmx : (if (f.length : Int) - (g.length : Int) + 1 > 0 then (f.length : Int) - (g.length : Int) + 1 else 0) = (D : Int) := by rw [if_pos (by omega)];omega
 have hmn : (if (g.length : Int) - 1 < (f.length : Int) then (g.length : Int) - 1 else (f.length : Int)) = ((g.length - 1 : Nat) : Int) := by rw [if_pos (by omega)];omega
 refine good_of_lwp mix Tryz.func54 rfl (by decide) (nt := 71) rfl (rs := [.tmp 4,.tmp 5]) rfl (nle rfl) ?_
 (repeat (first|apply zO (by decide +kernel)|apply zP (by decide +kernel)|(apply zS;(case h=>constructor<;>decide))|((first|apply l_go rfl|apply c_dec|apply zT rfl (by decide) rfl);(case hs=>(simp (disch := first|omega|exact kD rfl|exact kX rfl) only [smY,simprocAttr,bl,i64,smE,hDz,hmx,hmn,ec_zeros];exact rfl));first|refine c_bt ?_|refine c_bf ?_|refine zq ?_|(case hg=>assumption))))
 refine w_loop (α := {x : Nat × List Int × List Int // x.1 ≤ D ∧ x.2.1.length = D ∧ x.2.2.length = f.length ∧ (∀ z ∈ x.2.2,okZ z = true) ∧ divI g x.1 x.2.1 x.2.2 = some (Q,R)}) (fun x => st 71 (lk [(0,.sl f.length (ec f)),(1,.sl g.length (ec g)),(6,.own 0 0 f.length 1),(7,.own 1 0 D 1),(8,i64 ((x.1.1 : Int) - 1))]) (lkH [(0,⟨3,ec x.1.2.2,false⟩),(1,⟨3,ec x.1.2.1,false⟩)]) 2) (fun x => x.1.1) ⟨(D,List.replicate D 0,f),Nat.le_refl _,by simp,rfl,of,h⟩ ?_ ?_
 ·(refine Sub.heapL [4,13] rfl (by decide) ?_ (by simp only [smL];decide) ?_ ?_;all_goals (first|(simp only [plainC,smF,dg,renL,renLs,simprocAttr,bl,i64,smE,hDz,hmx,hmn,ec_zeros];done) | (simp only [smF,dg,renL,renLs,simprocAttr,bl,i64,smE,hDz,hmx,hmn,ec_zeros];(repeat' apply And.intro);all_goals rfl) | (simp only [smF,dg,renL,renLs,simprocAttr,bl,i64,smE,hDz,hmx,hmn,ec_zeros]) | skip))
  all_goals (first | done | ((repeat' apply And.intro);all_goals (first | trivial | rfl)))
 ·rintro ⟨⟨k,q,r⟩,hk,hq,hr,or,hd⟩
  simp only at hk hq hr or hd
  simp only [st]
  by_cases hk0 : k = 0
  ·subst hk0
   have hd : some (q,r) = some (Q,R) := by rw [← hd,divI]
   injection hd with hd
   injection hd with hd1 hd2
   subst hd1 hd2
   (repeat (first|apply zO (by decide +kernel)|apply zP (by decide +kernel)|(apply zS;(case h=>constructor<;>decide))|((first|apply l_go rfl|apply c_dec|apply zT rfl (by decide) rfl);(case hs=>(simp (disch := first|omega|exact kD rfl|exact kX rfl) only [smY,simprocAttr,bl,i64,smE,hmn];exact rfl));first|refine c_bt ?_|refine c_bf ?_|refine zq ?_|(case hg=>assumption))))
   ((first|apply g_ret|apply g_end);case hres => (simp only [smR];simp (disch := first|omega|exact kD rfl|exact kX rfl) only [smY,simprocAttr,bl,i64,smE,hmn];exact rfl))
   simp (disch := first|omega|exact kD rfl|exact kX rfl) only [smY,simprocAttr,bl,i64,smE,hmn]
   rw [List.take_of_length_le (by omega)]
  ·obtain ⟨k,rfl⟩ : ∃ j,k = j + 1 := ⟨k - 1,by omega⟩
   obtain ⟨oc',r',hs,hd⟩ := divI_succ hd
   have hk1 : ((k + 1 : Nat) : Int) - 1 = k := by omega
   have hcb := okZ_bd oc'
   generalize hc : r.getD (k + g.length - 1) 0 = c at *
   have hql : (q.set k c).length = D := by simp [hq]
   have hgs : (q.set k c).getD k 0 = c := by simp [show k < q.length by omega]
   (repeat (first|apply zO (by decide +kernel)|apply zP (by decide +kernel)|(apply zS;(case h=>constructor<;>decide))|((first|apply l_go rfl|apply c_dec|apply zT rfl (by decide) rfl);(case hs=>(simp (disch := first|omega|exact kD rfl|exact kX rfl) only [smY,simprocAttr,bl,i64,smE,hc,hk1,hgs];exact rfl));first|refine c_bt ?_|refine c_bf ?_|refine zq ?_|(case hg=>assumption))))
   refine w_loop (α := {x : Nat × List Int // x.1 ≤ g.length ∧ x.2.length = f.length ∧ (∀ z ∈ x.2,okZ z = true) ∧ subI c (g.drop x.1) x.2 (k + x.1) = some r'}) (fun x => st 71 (lk [(0,.sl f.length (ec f)),(1,.sl g.length (ec g)),(6,.own 0 0 f.length 1),(7,.own 1 0 D 1),(8,i64 k),(9,i64 x.1.1)]) (lkH [(0,⟨3,ec x.1.2,false⟩),(1,⟨3,ec (q.set k c),false⟩)]) 2) (fun x => g.length - x.1.1) ⟨(0,r),by simp,hr,or,hs⟩ ?_ ?_
   ·(refine Sub.heapL [0,1] rfl (by decide) ?_ (by simp only [smL];decide) ?_ ?_;all_goals (first|(simp only [plainC,smF,dg,renL,renLs,simprocAttr,bl,i64,smE];done) | (simp only [smF,dg,renL,renLs,simprocAttr,bl,i64,smE];(repeat' apply And.intro);all_goals rfl) | (simp only [smF,dg,renL,renLs,simprocAttr,bl,i64,smE]) | skip))
    all_goals (first | done | ((repeat' apply And.intro);all_goals (first | trivial | rfl)))
   ·rintro ⟨⟨j,y⟩,hj,hy,oy,hsub⟩
    simp only at hj hy oy hsub
    simp only [st]
    by_cases hlt : j < g.length
    ·rw [List.drop_eq_getElem_cons hlt] at hsub
     obtain ⟨u1,u2,u3⟩ := subI_cons hsub
     have hgj : g.getD j 0 = g[j] := by simp [hlt]
     rw [← hgj] at u1 u2 u3
     have b1 := okZ_bd u1
     have b2 := okZ_bd u2
     have hyl : (y.set (k + j) (y.getD (k + j) 0 - c * g.getD j 0)).length = f.length := by simp [hy]
     have oys := okL_set (i := k + j) oy u2
     have hkj : ((k : Int) + (j : Int)) = ((k + j : Nat) : Int) := by simp
     have hkb : k + j < y.length := by omega
     generalize hv : y.getD (k + j) 0 - c * g.getD j 0 = v at *
     generalize hmm : c * g.getD j 0 = mm at *
     generalize hb : g.getD j 0 = b at *
     generalize hx : y.getD (k + j) 0 = x at *
     (repeat (first|apply zO (by decide +kernel)|apply zP (by decide +kernel)|(apply zS;(case h=>constructor<;>decide))|((first|apply l_go rfl|apply c_dec|apply zT rfl (by decide) rfl);(case hs=>(simp (disch := first|omega|exact kD rfl|exact kX rfl) only [smY,simprocAttr,bl,i64,smE,hb,hx,hgs,hkj,hmm,hv];exact rfl));first|refine c_bt ?_|refine c_bf ?_|refine zq ?_|(case hg=>assumption))))
     refine ⟨⟨(j + 1,y.set (k + j) v),by simp only;omega,by simp only;exact hyl,oys,by simp only;exact u3⟩,?_,by simp only;omega⟩
     (refine Sub.heapL [0,1] rfl (by decide) ?_ (by simp only [smL];decide) ?_ ?_;all_goals (first|(simp only [plainC,smF,dg,renL,renLs,simprocAttr,bl,i64,smE];done) | (simp only [smF,dg,renL,renLs,simprocAttr,bl,i64,smE];(repeat' apply And.intro);all_goals rfl) | (simp only [smF,dg,renL,renLs,simprocAttr,bl,i64,smE]) | skip))
     all_goals (first | done | ((repeat' apply And.intro);all_goals (first | trivial | rfl)))
    ·obtain rfl : j = g.length := by omega
     rw [List.drop_length,subI] at hsub
     injection hsub with hsub
     subst hsub
     (repeat (first|apply zO (by decide +kernel)|apply zP (by decide +kernel)|(apply zS;(case h=>constructor<;>decide))|((first|apply l_go rfl|apply c_dec|apply zT rfl (by decide) rfl);(case hs=>(simp (disch := first|omega|exact kD rfl|exact kX rfl) only [smY,simprocAttr,bl,i64,smE];exact rfl));first|refine c_bt ?_|refine c_bf ?_|refine zq ?_|(case hg=>assumption))))
     refine ⟨⟨(k,q.set k c,y),by simp only;omega,by simp only;exact hql,hy,oy,hd⟩,?_,by simp only;omega⟩
     (refine Sub.heapL [0,1] rfl (by decide) ?_ (by simp only [smL];decide) ?_ ?_;all_goals (first|(simp only [plainC,smF,dg,renL,renLs,simprocAttr,bl,i64,smE];done) | (simp only [smF,dg,renL,renLs,simprocAttr,bl,i64,smE];(repeat' apply And.intro);all_goals rfl) | (simp only [smF,dg,renL,renLs,simprocAttr,bl,i64,smE]) | skip))
     all_goals (first | done | ((repeat' apply And.intro);all_goals (first | trivial | rfl)))
end Go.Proofs.YtpkjokknpbclhaaGreat
namespace Go.Proofs.YtpkjokknpbclhaaGreat
open Go Go.Lg Go.Num
set_option maxRecDepth 100000
def okA (l : List Int) : Prop := ∀ z ∈ l,okZ z = true
theorem okA_cons {x : Int} {l : List Int} : okA (x :: l) ↔ okZ x = true ∧ okA l := by simp [okA]
theorem getD_mid (lo : List Int) (x : Int) (r : List Int) : (lo ++ x :: r).getD lo.length 0 = x := by simp
theorem set_mid (lo : List Int) (x v : Int) (r : List Int) : (lo ++ x :: r).set lo.length v = (lo ++ [v]) ++ r := by simp
theorem zipZ_I {c : Int} : ∀ {g r l : List Int},zipZ c g r = some l → okA r → okA l ∧ l.length = r.length ∧ ∀ lo : List Int,subI c g (lo ++ r) lo.length = some (lo ++ l)
 | [],r,l,h,ho => by
   cases h
   exact ⟨ho,rfl,fun lo => rfl⟩
 | _ :: _,[],l,h,_ => by cases h
 | b :: g,x :: r,l,h,ho => by
   unfold zipZ at h
   rw [fInt_eq,fInt_eq] at h
   cases hb : (okZ (c * b) && okZ (x - c * b)) with
   | false => rw [hb,cond_false] at h;cases h
   | true =>
     rw [hb,cond_true] at h
     have hb' := hb
     rw [Bool.and_eq_true] at hb'
     split at h
     · rename_i l' hl
       cases h
       obtain ⟨e0,e1,e2⟩ := zipZ_I hl (okA_cons.1 ho).2
       refine ⟨okA_cons.2 ⟨hb'.2,e0⟩,by simp [e1],fun lo => ?_⟩
       have e3 := e2 (lo ++ [x - c * b])
       rw [subI,getD_mid,hb,cond_true,set_mid]
       simp only [List.length_append,List.length_cons,List.length_nil] at e3
       rw [e3]
       simp
     · cases h
theorem subI_zero : ∀ {g r : List Int},okA r → g.length ≤ r.length → ∀ lo : List Int,subI 0 g (lo ++ r) lo.length = some (lo ++ r)
 | [],r,_,_,lo => rfl
 | _ :: _,[],_,h,_ => by simp at h
 | b :: g,x :: r,ho,h,lo => by
   have e3 := subI_zero (g := g) (okA_cons.1 ho).2 (by simpa using h) (lo ++ [x])
   rw [subI,getD_mid,Int.zero_mul,Int.sub_zero,(okA_cons.1 ho).1,show okZ 0 = true from rfl,set_mid]
   simp only [List.length_append,List.length_cons,List.length_nil] at e3
   show subI _ _ _ _ = _
   rw [e3]
   simp
theorem divZ_I {g : List Int} (hG : 1 ≤ g.length) : ∀ {lo hi q Q R : List Int}, divZ g g.length lo hi q = some (Q, R) → okA lo → okA hi → g.length ≤ hi.length + 1 →
  divI g lo.length (List.replicate lo.length 0 ++ q) (lo.reverse ++ hi) = some (Q,R)
 | [],hi,q,Q,R,h,_,_,_ => by
   cases h
   rfl
 | x :: lo,hi,q,Q,R,h,ol,oh,hle => by
   unfold divZ at h
   rw [fInt_eq] at h
   generalize hc : (x :: hi).getD (g.length - 1) 0 = c at h
   obtain ⟨ox,ol⟩ := okA_cons.1 ol
   have oxh : okA (x :: hi) := okA_cons.2 ⟨ox,oh⟩
   cases hk : okZ c with
   | false => rw [hk,cond_false] at h;cases h
   | true =>
     rw [hk,cond_true] at h
     have hr : lo.reverse ++ x :: hi = (x :: lo).reverse ++ hi := by simp
     have hget : ((x :: lo).reverse ++ hi).getD (lo.length + g.length - 1) 0 = c := by
       rw [← hr,← hc]
       have e : lo.length + g.length - 1 = lo.reverse.length + (g.length - 1) := by rw [List.length_reverse];omega
       rw [e]
       simp only [List.getD,List.getElem?_append_right (Nat.le_add_right _ _),Nat.add_sub_cancel_left]
     have hset : (List.replicate (lo.length + 1) 0 ++ q).set lo.length c = List.replicate lo.length 0 ++ (c :: q) := by
       rw [List.replicate_succ',List.append_assoc,List.set_append_right _ _ (by simp),List.length_replicate,Nat.sub_self]
       rfl
     have hrl : lo.reverse.length = lo.length := List.length_reverse
     cases h0 : Nat.beq c.natAbs 0 with
     | true =>
       rw [h0,cond_true] at h
       have hc0 : c = 0 := by
         have := Nat.eq_of_beq_eq_true h0
         omega
       have e1 := divZ_I hG h ol oxh (by simp;omega)
       have e2 := subI_zero (g := g) oxh (by simp;omega) lo.reverse
       rw [hrl,← hc0] at e2
       rw [List.length_cons,divI,hget,hk,cond_true,← hr,e2,hset]
       exact e1
     | false =>
       rw [h0,cond_false] at h
       split at h
       · rename_i h2 hz
         obtain ⟨z0,z1,z2⟩ := zipZ_I hz oxh
         simp only [List.length_cons] at z1
         have e1 := divZ_I hG h ol z0 (by omega)
         have e2 := z2 lo.reverse
         rw [hrl] at e2
         rw [List.length_cons,divI,hget,hk,cond_true,← hr,e2,hset]
         exact e1
       · cases h
def rdZi : List LV → Option (List Int)
 | [] => some []
 | .lit (.int .i64 z) :: cs => match rdZi cs with
   | some l => bif okZ z then some (z :: l) else none
   | none => none
 | _ => none
theorem rdZi_ok : ∀ {cs : List LV} {l : List Int},rdZi cs = some l → cs = ec l ∧ okA l
 | [],l,h => by cases h;exact ⟨rfl,by simp [okA]⟩
 | c :: cs,l,h => by
   unfold rdZi at h
   split at h
   · simp_all
   · rename_i z cs' he
     simp only [List.cons.injEq] at he
     obtain ⟨rfl,rfl⟩ := he
     split at h
     · rename_i l' hl
       cases hb : okZ z with
       | false => rw [hb,cond_false] at h;cases h
       | true =>
         rw [hb,cond_true] at h
         cases h
         obtain ⟨e1,e2⟩ := rdZi_ok hl
         exact ⟨by rw [e1];rfl,okA_cons.2 ⟨hb,e2⟩⟩
     · cases h
   · cases h
def orcDi (args : List LV) : Option LV := match args with
 | [.sl n cs,.sl k ds] => match rdZi cs,rdZi ds with
   | some f, some g => bif Nat.beq n f.length && Nat.beq k g.length && Nat.ble 2 k && Nat.ble k 1000 && Nat.ble n 1000 && Nat.ble k n then
       (match divZ g k (f.take (n + 1 - k)).reverse (f.drop (n + 1 - k)) [] with
         | some (Q,R) => some (.tup [.sl (n + 1 - k) (ec Q),.sl (k - 1) (ec (R.take (k - 1)))])
         | none => none) else none
   | _,_ => none
 | _ => none
theorem orcDi_ok {args : List LV} {r : LV} (h : orcDi args = some r) : PureGood Tryz.prog 54 args r := by
 unfold orcDi at h
 split at h
 ·rename_i n cs k ds
  split at h
  ·rename_i f g hf hg
   obtain ⟨rfl,of⟩ := rdZi_ok hf
   obtain ⟨rfl,og⟩ := rdZi_ok hg
   generalize hcond : (Nat.beq n f.length && Nat.beq k g.length && Nat.ble 2 k && Nat.ble k 1000 && Nat.ble n 1000 && Nat.ble k n) = q at h
   cases q with
   | false => rw [cond_false] at h;cases h
   | true =>
     rw [cond_true] at h
     simp only [Bool.and_eq_true,Nat.ble_eq,Nat.beq_eq] at hcond
     obtain ⟨⟨⟨⟨⟨rfl,rfl⟩,c1⟩,c2⟩,c3⟩,c4⟩ := hcond
     split at h
     · rename_i Q R hd
       cases h
       have hlo : (f.take (f.length + 1 - g.length)).reverse.length = f.length + 1 - g.length := by rw [List.length_reverse,List.length_take];omega
       have hhi : (f.drop (f.length + 1 - g.length)).length = g.length - 1 := by rw [List.length_drop];omega
       have e1 := divZ_I (by omega) hd (fun z hz => of z (List.mem_of_mem_take (List.mem_reverse.1 hz))) (fun z hz => of z (List.mem_of_mem_drop hz)) (by omega)
       rw [hlo,List.reverse_reverse,List.take_append_drop,List.append_nil] at e1
       exact rdivide29_good f g Q R _ of og c1 c2 c3 (by omega) (by omega) e1
     · cases h
  ·cases h
 ·cases h
def orcP2 (f : FuncId) (args : List LV) : Option LV := bif Nat.beq f 54 then orcDi args else orcP f args
theorem orcP2_ok : OrcOk Tryz.prog orcP2 := orc_cons (f0 := 54) (g := orcDi) (fun _ _ h => orcDi_ok h) orcP_ok
end Go.Proofs.YtpkjokknpbclhaaGreat
namespace Go.Proofs.YtpkjokknpbclhaaGreat
open Go Go.Lg Go.Num
set_option maxRecDepth 100000
def cycT : List (List Int) := [[],[-1,1],[1,1],[1,1,1],[1,0,1],[1,1,1,1,1],[1,-1,1],[1,1,1,1,1,1,1],[1,0,0,0,1],[1,0,0,1,0,0,1],[1,-1,1,-1,1],[1,1,1,1,1,1,1,1,1,1,1],[1,0,-1,0,1],[1,1,1,1,1,1,1,1,1,1,1,1,1],[1,-1,1,-1,1,-1,1],[1,-1,0,1,-1,1,0,-1,1],[1,0,0,0,0,0,0,0,1],[],[1,0,0,-1,0,0,1],[],[1,0,-1,0,1,0,-1,0,1],[1,-1,0,1,-1,0,1,0,-1,1,0,-1,1],[1,-1,1,-1,1,-1,1,-1,1,-1,1],[],[1,0,0,0,-1,0,0,0,1],[],[1,-1,1,-1,1,-1,1,-1,1,-1,1,-1,1],[],[1,0,-1,0,1,0,-1,0,1,0,-1,0,1],[],[1,1,0,-1,-1,-1,0,1,1],[],[],[],[],[],[1,0,0,0,0,0,-1,0,0,0,0,0,1],[],[],[],[],[],[1,1,0,-1,-1,0,1,0,-1,-1,0,1,1]]
def cyF (n : Nat) : List Int := cycT.getD n []
def rdI2 : List LV → Option (List Int)
 | [] => some []
 | a :: b :: cs => match rdI a b,rdI2 cs with
   | some z,some l => bif okZ z then some (z :: l) else none
   | _,_ => none
 | _ => none
def wrI2 (l : List Int) : List LV := l.flatMap wrI
theorem rdI2_ok : ∀ {cs : List LV} {l : List Int},rdI2 cs = some l → cs = wrI2 l
 | [],l,h => by cases h;rfl
 | [_],l,h => by cases h
 | a :: b :: cs,l,h => by
   unfold rdI2 at h
   split at h
   · rename_i z l' h1 h2
     cases hb : okZ z with
     | false => rw [hb,cond_false] at h;cases h
     | true =>
       rw [hb,cond_true] at h
       cases h
       obtain ⟨rfl,rfl⟩ := rdI_ok h1
       have e := wrI_enc (okZ_tinyI hb)
       rw [encI_sm] at e
       injection e with e
       show _ = wrI z ++ wrI2 l'
       rw [← rdI2_ok h2,e]
       rfl
   · cases h
def eqZ : List Int → List Int → Bool
 | [],[] => true
 | a :: l,b :: m => (a == b) && eqZ l m
 | _,_ => false
theorem eqZ_ok : ∀ {l m : List Int},eqZ l m = true → l = m
 | [],[],_ => rfl
 | [],_ :: _,h => by cases h
 | _ :: _,[],h => by cases h
 | a :: l,b :: m,h => by
   unfold eqZ at h
   rw [Bool.and_eq_true] at h
   rw [eq_of_beq h.1,eqZ_ok h.2]
noncomputable def chkFi (n : Nat) : Bool := match evo orcP2 42 [.lit (.int .i64 (.ofNat n))] with
 | some (.tup [.agg [.sl k cs],.lit (.int .i64 (.ofNat e))]) => match rdI2 cs with
   | some l => Nat.beq k (cyF n).length && Nat.beq e 0 && eqZ l (cyF n)
   | none => false
 | _ => false
noncomputable def chkCy (n : Nat) : Bool := match evo orcP2 55 [.lit (.int .i64 (.ofNat n))] with
 | some (.sl k cs) => match rdZi cs with
   | some l => Nat.beq k (cyF n).length && eqZ l (cyF n)
   | none => false
 | _ => false
noncomputable def chkFC (n : Nat) : Bool := chkFi n && chkCy n
def nFC : List Nat := [1,2,3,4,5,6,7,8,9,10,11,12,13,14,15,16,18,20,21,22,24,26,28,30,36,42]
end Go.Proofs.YtpkjokknpbclhaaGreat