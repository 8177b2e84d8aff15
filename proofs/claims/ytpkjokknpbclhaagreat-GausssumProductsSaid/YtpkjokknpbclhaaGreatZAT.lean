/- Contracts of functions of the program, and what proves them (texts: G1c NumJ G2 G3 F2 G4 G5). -/
import Derived.KernelRfl
import Derived.Test.YtpkjokknpbclhaaGreatZAM
import Derived.Test.YtpkjokknpbclhaaGreatZAQ
import Derived.Test.YtpkjokknpbclhaaGreatZAR
import Derived.Test.YtpkjokknpbclhaaGreatZAS
set_option linter.all false
namespace Go.Proofs.YtpkjokknpbclhaaGreat
open Go Go.Lg Go.Num
set_option maxRecDepth 100000
theorem pg_mem : ∀ m ∈ [1,2,3,4,5,6,7,8,9,10,11,12,13,14,15,16,17,18,19,20,21,22,23,24,25,26,27,28,29,30,31,32,33,34,35,36,37,38,39,40,41,42,43,44,45,46,47,48,49,50,51,52,53,54,55,56,57,58,59,60],chkPG m = true := by
 simp only [List.forall_mem_cons]
 exact ⟨pg_1,pg_2,pg_3,pg_4,pg_5,pg_6,pg_7,pg_8,pg_9,pg_10,pg_11,pg_12,pg_13,pg_14,pg_15,pg_16,pg_17,pg_18,pg_19,pg_20,pg_21,pg_22,pg_23,pg_24,pg_25,pg_26,pg_27,pg_28,pg_29,pg_30,pg_31,pg_32,pg_33,pg_34,pg_35,pg_36,pg_37,pg_38,pg_39,pg_40,pg_41,pg_42,pg_43,pg_44,pg_45,pg_46,pg_47,pg_48,pg_49,pg_50,pg_51,pg_52,pg_53,pg_54,pg_55,pg_56,pg_57,pg_58,pg_59,pg_60,by simp⟩
theorem pg_all {m : Nat} (h1 : 1 ≤ m) (h2 : m ≤ 60) : chkPt m = true ∧ chkGn m = true := by
 have h := pg_mem m (by
  have : m ∈ List.range' 1 60 := by rw [List.mem_range'_1];omega
  exact this)
 exact (Bool.and_eq_true _ _ ▸ h)
theorem parts_good {m : Nat} (h1 : 1 ≤ m) (h2 : m ≤ 60) : PureGood Tryz.prog 37 [i64 m] (nlv (od m).length (pt m)) := by
 have h := (pg_all h1 h2).1
 unfold chkPt at h
 split at h
 ·rename_i v e
  rw [← isN_ok h]
  exact evo_good orcN_ok e
 ·cases h
theorem gens_good {m : Nat} (h1 : 1 ≤ m) (h2 : m ≤ 60) : PureGood Tryz.prog 50 [i64 m] (.tup [nlv (od m).length (gn m),nlv (od m).length (od m)]) := by
 have h := (pg_all h1 h2).2
 unfold chkGn at h
 split at h
 ·rename_i v w e
  rw [Bool.and_eq_true] at h
  rw [← isN_ok h.1,← isN_ok h.2]
  exact evo_good orcN_ok e
 ·cases h
def orcPt (args : List LV) : Option LV := match args with
 | [.lit (.int .i64 (.ofNat m))] => bif Nat.ble 1 m && Nat.ble m 60 then some (nlv (od m).length (pt m)) else none
 | _ => none
def orcGn (args : List LV) : Option LV := match args with
 | [.lit (.int .i64 (.ofNat m))] => bif Nat.ble 1 m && Nat.ble m 60 then some (.tup [nlv (od m).length (gn m),nlv (od m).length (od m)]) else none
 | _ => none
theorem orcPt_ok {args : List LV} {r : LV} (h : orcPt args = some r) : PureGood Tryz.prog 37 args r := by
 unfold orcPt at h
 split at h
 ·rename_i m
  cases hb : (Nat.ble 1 m && Nat.ble m 60) with
  | true =>
    rw [hb] at h
    cases h
    rw [Bool.and_eq_true,Nat.ble_eq,Nat.ble_eq] at hb
    exact parts_good hb.1 hb.2
  | false => rw [hb] at h;cases h
 ·cases h
theorem orcGn_ok {args : List LV} {r : LV} (h : orcGn args = some r) : PureGood Tryz.prog 50 args r := by
 unfold orcGn at h
 split at h
 ·rename_i m
  cases hb : (Nat.ble 1 m && Nat.ble m 60) with
  | true =>
    rw [hb] at h
    cases h
    rw [Bool.and_eq_true,Nat.ble_eq,Nat.ble_eq] at hb
    exact gens_good hb.1 hb.2
  | false => rw [hb] at h;cases h
 ·cases h
def orcG (f : FuncId) (args : List LV) : Option LV := bif Nat.beq f 37 then orcPt args else bif Nat.beq f 50 then orcGn args else orcN f args
theorem orcG_ok : OrcOk Tryz.prog orcG := by
 intro f args r h
 exact orc_cons (f0 := 37) (g := orcPt) (fun _ _ h => orcPt_ok h) (orc_cons (f0 := 50) (g := orcGn) (fun _ _ h => orcGn_ok h) orcN_ok) f args r h
end Go.Proofs.YtpkjokknpbclhaaGreat
namespace Go.Num
set_option maxRecDepth 100000
def prodN : List Nat → List (List Nat)
 | [] => [[]]
 | o :: os => (List.range o).flatMap fun k => (prodN os).map (k :: ·)
theorem mem_prodN : ∀ (os l : List Nat),l.length = os.length → (∀ i,i < l.length → l.getD i 0 < os.getD i 0) → l ∈ prodN os
 | [],[],_,_ => by simp [prodN]
 | [],_ :: _,h,_ => by simp at h
 | _ :: _,[],h,_ => by simp at h
 | o :: os,k :: l,h,hi => by
   have h0 := hi 0 (by simp)
   have hr := mem_prodN os l (by simpa using h) (fun i hl => by
     have := hi (i + 1) (by simpa using hl)
     simpa using this)
   simp only [prodN,List.mem_flatMap,List.mem_range,List.mem_map]
   exact ⟨k,by simpa using h0,l,hr,rfl⟩
def ExOk (os : List Nat) (l : List Int) : Prop := ∀ i,i < l.length → 0 ≤ l.getD i 0 ∧ l.getD i 0 < (os.getD i 0 : Int)
theorem exOk_nat {os : List Nat} {l : List Int} (hl : l.length = os.length) (h : ExOk os l) : ∃ v ∈ prodN os,l = v.map fun (d : Nat) => (d : Int) := by
 have e : l = (l.map Int.toNat).map fun (d : Nat) => (d : Int) := by
  rw [List.map_map]
  apply List.ext_getElem
  ·simp
  ·intro i h1 h2
   have := h i h1
   simp only [List.getD,List.getElem?_eq_getElem h1,Option.getD_some] at this
   simp only [List.getElem_map,Function.comp_apply]
   omega
 refine ⟨l.map Int.toNat,mem_prodN _ _ (by simp [hl]) (fun i hi => ?_),e⟩
 have hi' : i < l.length := by simpa using hi
 have := h i hi'
 simp only [List.getD,List.getElem?_eq_getElem hi',Option.getD_some] at this
 simp only [List.getD,List.getElem?_map,List.getElem?_eq_getElem hi',Option.map_some,Option.getD_some] at this ⊢
 omega
theorem all_parts {α : Type} {l : List α} {f : α → Bool} (M k : Nat) (hk : l.length ≤ k * M) (h : ∀ j,j < k → (((l.drop (j * M)).take M).all f) = true) : l.all f = true := by
 rw [List.all_eq_true]
 intro x hx
 obtain ⟨i,hi,rfl⟩ := List.getElem_of_mem hx
 have hM : 0 < M := by
  rcases Nat.eq_zero_or_pos M with h0 | h0
  ·subst h0;omega
  ·exact h0
 have hd := Nat.div_add_mod i M
 have hml := Nat.mod_lt i hM
 have hj : i / M < k := (Nat.div_lt_iff_lt_mul hM).2 (by omega)
 have e := Nat.mul_comm M (i / M)
 refine List.all_eq_true.1 (h (i / M) hj) _ (List.mem_iff_getElem?.2 ⟨i % M,?_⟩)
 rw [List.getElem?_take,if_pos hml,List.getElem?_drop,show i / M * M + i % M = i by omega,List.getElem?_eq_getElem hi]
end Go.Num
namespace Go.Proofs.YtpkjokknpbclhaaGreat
open Go Go.Lg Go.Num
set_option maxRecDepth 100000
set_option maxHeartbeats 4000000
def cerr (m : Int) (l : List Int) : Int := if 1 ≤ m ∧ m ≤ 60 then (if l.length = (od m.toNat).length then (if ∀ i,i < l.length → 0 ≤ l.getD i 0 ∧ l.getD i 0 < ((od m.toNat).getD i 0 : Int) then 0 else 3) else 4) else 2
def tbB (m : Nat) : Bool := Nat.beq (pt m).length (3 * (od m).length) && Nat.beq (gn m).length (od m).length && Nat.ble (od m).length 3 && (pt m).all (fun a => Nat.ble a 60) && (gn m).all (fun a => Nat.ble a 60) && (od m).all (fun a => Nat.ble 1 a && Nat.ble a 60) && (List.range (od m).length).all (fun i => Nat.beq ((pt m).getD (3 * i + 1) 0) ((od m).getD i 0) && Nat.ble 2 ((pt m).getD (3 * i + 2) 0)) && (Nat.ble m 2 || Nat.ble 1 (od m).length) && (Nat.ble 3 m || Nat.beq (od m).length 0)
theorem tb_all : (List.range 61).all tbB = true := by decide +kernel
theorem tb {m : Nat} (h : m ≤ 60) : (pt m).length = 3 * (od m).length ∧ (gn m).length = (od m).length ∧ (od m).length ≤ 3 ∧ (∀ a ∈ pt m,a ≤ 60) ∧ (∀ a ∈ gn m,a ≤ 60) ∧ (∀ a ∈ od m,1 ≤ a ∧ a ≤ 60) ∧ (∀ i,i < (od m).length → (pt m).getD (3 * i + 1) 0 = (od m).getD i 0 ∧ 2 ≤ (pt m).getD (3 * i + 2) 0) ∧ (m ≤ 2 ∨ 1 ≤ (od m).length) ∧ (3 ≤ m ∨ (od m).length = 0) := by
 have h := List.all_eq_true.1 tb_all m (List.mem_range.2 (by omega))
 unfold tbB at h
 simp only [Bool.and_eq_true,Nat.beq_eq,Nat.ble_eq,List.all_eq_true,Bool.or_eq_true,List.mem_range] at h
 obtain ⟨⟨⟨⟨⟨⟨⟨⟨a1,a2⟩,a3⟩,a4⟩,a5⟩,a6⟩,a7⟩,a8⟩,a9⟩ := h
 exact ⟨a1,a2,a3,a4,a5,a6,a7,a8,a9⟩
theorem getD_le {l : List Nat} {B i : Nat} (h : ∀ a ∈ l,a ≤ B) : l.getD i 0 ≤ B := by
 by_cases hi : i < l.length
 ·have : l.getD i 0 = l[i] := by simp [hi]
  rw [this]
  exact h _ (List.getElem_mem hi)
 ·have : l.getD i 0 = 0 := by simp [hi]
  omega
theorem od_pos {m i : Nat} (h : m ≤ 60) (hi : i < (od m).length) : 1 ≤ (od m).getD i 0 ∧ (od m).getD i 0 ≤ 60 := by
 have : (od m).getD i 0 = (od m)[i] := by simp [hi]
 rw [this]
 exact (tb h).2.2.2.2.2.1 _ (List.getElem_mem hi)
theorem nI_len (l : List Nat) : (nI l).length = l.length := by simp [nI]
theorem nI_get (l : List Nat) (i : Nat) : (nI l).getD i 0 = (l.getD i 0 : Int) := by
 simp only [nI,List.getD,List.getElem?_map]
 cases l[i]? <;> rfl
theorem tr_td (l : List Nat) (i : Nat) (h : 3 * i + 2 < l.length) : ec (((nI l).drop (i * 3)).take 3) = [.lit (.int .i64 (l.getD (3 * i) 0 : Int)),.lit (.int .i64 (l.getD (3 * i + 1) 0 : Int)),.lit (.int .i64 (l.getD (3 * i + 2) 0 : Int))] := by
 apply List.ext_getElem
 ·simp [ec,nI];omega
 ·intro j h1 h2
  have hj : j < 3 := by simpa using h2
  match j,hj with
  | 0,_ => simp [ec,nI,show i * 3 < l.length by omega,Nat.mul_comm]
  | 1,_ => simp [ec,nI,show i * 3 + 1 < l.length by omega,show 3 * i = i * 3 by omega]
  | 2,_ => simp [ec,nI,show i * 3 + 2 < l.length by omega,show 3 * i = i * 3 by omega]
attribute [local irreducible] Go.Lg.lrun Go.Lg.lwp Go.Lg.exThen Go.Lg.exBlk Go.Lg.keep Go.Lg.goodPost ec pt gn od
theorem within_good (m : Int) (hm : -9223372036854775808 ≤ m ∧ m ≤ 9223372036854775807) : PureGood Tryz.prog 60 [i64 m] (bl (decide (1 ≤ m ∧ m ≤ 60))) := by
 by_cases h1 : 1 ≤ m
 ·by_cases h2 : m ≤ 60
  ·rw [dec_t ⟨h1,h2⟩]
   simp only [i64,bl]
   refine good_of_lwp mix Tryz.func60 rfl (by decide) (nt := 9) rfl (rs := [.tmp 2]) rfl (nle rfl) ?_
   (repeat (first|apply zO (by decide +kernel)|apply zP (by decide +kernel)|(apply zS;(case h=>constructor<;>decide))|((first|apply l_go rfl|apply c_dec|apply zT rfl (by decide) rfl);(case hs=>(simp (disch := first|omega|exact kD rfl|exact kX rfl) only [smY,simprocAttr,bl,i64,smE];exact rfl));first|refine c_bt ?_|refine c_bf ?_|refine zq ?_|(case hg=>assumption))))
   ((first|apply g_ret|apply g_end);case hres => (simp only [smR];simp (disch := first|omega|exact kD rfl|exact kX rfl) only [smY,simprocAttr,bl,i64,smE];exact rfl))
   simp (disch := first|omega|exact kD rfl|exact kX rfl) only [smY,simprocAttr,bl,i64,smE]
  ·rw [dec_f (fun e => h2 e.2)]
   simp only [i64,bl]
   refine good_of_lwp mix Tryz.func60 rfl (by decide) (nt := 9) rfl (rs := [.tmp 2]) rfl (nle rfl) ?_
   (repeat (first|apply zO (by decide +kernel)|apply zP (by decide +kernel)|(apply zS;(case h=>constructor<;>decide))|((first|apply l_go rfl|apply c_dec|apply zT rfl (by decide) rfl);(case hs=>(simp (disch := first|omega|exact kD rfl|exact kX rfl) only [smY,simprocAttr,bl,i64,smE];exact rfl));first|refine c_bt ?_|refine c_bf ?_|refine zq ?_|(case hg=>assumption))))
   ((first|apply g_ret|apply g_end);case hres => (simp only [smR];simp (disch := first|omega|exact kD rfl|exact kX rfl) only [smY,simprocAttr,bl,i64,smE];exact rfl))
   simp (disch := first|omega|exact kD rfl|exact kX rfl) only [smY,simprocAttr,bl,i64,smE]
 ·rw [dec_f (fun e => h1 e.1)]
  simp only [i64,bl]
  refine good_of_lwp mix Tryz.func60 rfl (by decide) (nt := 9) rfl (rs := [.tmp 2]) rfl (nle rfl) ?_
  (repeat (first|apply zO (by decide +kernel)|apply zP (by decide +kernel)|(apply zS;(case h=>constructor<;>decide))|((first|apply l_go rfl|apply c_dec|apply zT rfl (by decide) rfl);(case hs=>(simp (disch := first|omega|exact kD rfl|exact kX rfl) only [smY,simprocAttr,bl,i64,smE];exact rfl));first|refine c_bt ?_|refine c_bf ?_|refine zq ?_|(case hg=>assumption))))
  ((first|apply g_ret|apply g_end);case hres => (simp only [smR];simp (disch := first|omega|exact kD rfl|exact kX rfl) only [smY,simprocAttr,bl,i64,smE];exact rfl))
  simp (disch := first|omega|exact kD rfl|exact kX rfl) only [smY,simprocAttr,bl,i64,smE]
theorem modulus_good (m : Int) (hm : -9223372036854775808 ≤ m ∧ m ≤ 9223372036854775807) : PureGood Tryz.prog 59 [i64 m] (i64 (if 1 ≤ m ∧ m ≤ 60 then 0 else 2)) := by
 by_cases h1 : 1 ≤ m
 ·by_cases h2 : m ≤ 60
  ·rw [if_pos ⟨h1,h2⟩]
   simp only [i64,bl]
   refine good_of_lwp mix Tryz.func59 rfl (by decide) (nt := 9) rfl (rs := [.tmp 2]) rfl (nle rfl) ?_
   (repeat (first|apply zO (by decide +kernel)|apply zP (by decide +kernel)|(apply zS;(case h=>constructor<;>decide))|((first|apply l_go rfl|apply c_dec|apply zT rfl (by decide) rfl);(case hs=>(simp (disch := first|omega|exact kD rfl|exact kX rfl) only [smY,simprocAttr,bl,i64,smE];exact rfl));first|refine c_bt ?_|refine c_bf ?_|refine zq ?_|(case hg=>assumption))))
   ((first|apply g_ret|apply g_end);case hres => (simp only [smR];simp (disch := first|omega|exact kD rfl|exact kX rfl) only [smY,simprocAttr,bl,i64,smE];exact rfl))
   simp (disch := first|omega|exact kD rfl|exact kX rfl) only [smY,simprocAttr,bl,i64,smE]
  ·rw [if_neg (fun e => h2 e.2)]
   simp only [i64,bl]
   refine good_of_lwp mix Tryz.func59 rfl (by decide) (nt := 9) rfl (rs := [.tmp 2]) rfl (nle rfl) ?_
   (repeat (first|apply zO (by decide +kernel)|apply zP (by decide +kernel)|(apply zS;(case h=>constructor<;>decide))|((first|apply l_go rfl|apply c_dec|apply zT rfl (by decide) rfl);(case hs=>(simp (disch := first|omega|exact kD rfl|exact kX rfl) only [smY,simprocAttr,bl,i64,smE];exact rfl));first|refine c_bt ?_|refine c_bf ?_|refine zq ?_|(case hg=>assumption))))
   ((first|apply g_ret|apply g_end);case hres => (simp only [smR];simp (disch := first|omega|exact kD rfl|exact kX rfl) only [smY,simprocAttr,bl,i64,smE];exact rfl))
   simp (disch := first|omega|exact kD rfl|exact kX rfl) only [smY,simprocAttr,bl,i64,smE]
 ·rw [if_neg (fun e => h1 e.1)]
  simp only [i64,bl]
  refine good_of_lwp mix Tryz.func59 rfl (by decide) (nt := 9) rfl (rs := [.tmp 2]) rfl (nle rfl) ?_
  (repeat (first|apply zO (by decide +kernel)|apply zP (by decide +kernel)|(apply zS;(case h=>constructor<;>decide))|((first|apply l_go rfl|apply c_dec|apply zT rfl (by decide) rfl);(case hs=>(simp (disch := first|omega|exact kD rfl|exact kX rfl) only [smY,simprocAttr,bl,i64,smE];exact rfl));first|refine c_bt ?_|refine c_bf ?_|refine zq ?_|(case hg=>assumption))))
  ((first|apply g_ret|apply g_end);case hres => (simp only [smR];simp (disch := first|omega|exact kD rfl|exact kX rfl) only [smY,simprocAttr,bl,i64,smE];exact rfl))
  simp (disch := first|omega|exact kD rfl|exact kX rfl) only [smY,simprocAttr,bl,i64,smE]
theorem dcheck_good (m : Int) (l : List Int) (hm : -9223372036854775808 ≤ m ∧ m ≤ 9223372036854775807) (hl : l.length ≤ 1000000) : PureGood Tryz.prog 36 [.agg [i64 m,.sl l.length (ec l)]] (i64 (cerr m l)) := by
 have gw := within_good m hm
 unfold cerr
 by_cases h1 : 1 ≤ m ∧ m ≤ 60
 ·rw [if_pos h1]
  rw [dec_t h1] at gw
  obtain ⟨n,rfl⟩ : ∃ n : Nat,m = n := ⟨m.toNat,by omega⟩
  rw [Int.toNat_natCast]
  have gp := parts_good (m := n) (by omega) (by omega)
  obtain ⟨t1,t2,t3,t4,t5,t6,t7,t8,t9⟩ := tb (m := n) (by omega)
  by_cases h2 : l.length = (od n).length
  ·rw [if_pos h2]
   rw [nlv_eq] at gp
   rw [← h2] at gp
   simp only [i64,bl] at *
   refine good_of_lwp mix Tryz.func36 rfl (by decide) (nt := 43) rfl (rs := [.tmp 2]) rfl (nle rfl) ?_
   (repeat (first|apply zO (by decide +kernel)|apply zP (by decide +kernel)|(apply zS;(case h=>constructor<;>decide))|((first|apply l_go rfl|apply c_dec|apply zT rfl (by decide) rfl);(case hs=>(simp (disch := first|omega|exact kD rfl|exact kX rfl) only [smY,simprocAttr,bl,i64,smE];exact rfl));first|refine c_bt ?_|refine c_bf ?_|refine zq ?_|(case hg=>assumption))))
   refine w_loop (α := {i : Nat // i ≤ l.length ∧ ∀ j,j < i → 0 ≤ l.getD j 0 ∧ l.getD j 0 < ((od n).getD j 0 : Int)}) (fun i => st 43 (lk [(1,.ptr 0 0),(2,i64 0),(19,.sl l.length (ec (nI (pt n)))),(20,i64 l.length),(21,i64 i.1)]) (lkH [(0,⟨24,[i64 n,.sl l.length (ec l)],false⟩)]) 1) (fun i => l.length - i.1) ⟨0,by simp⟩ ?_ ?_
   ·(refine Sub.heap1 0 ?_ (by simp only [smF,dg,renL,renLs,simprocAttr,bl,i64,smE];exact rfl) ?_ ?_;all_goals (first | exact dgs_plain _ | with_reducible rfl | (simp only [smF,dg,renL,renLs,simprocAttr,bl,i64,smE];done) | (simp only [smF,dg,renL,renLs,simprocAttr,bl,i64,smE]) | skip))
    all_goals (first | exact ⟨rfl,rfl⟩ | done)
   ·rintro ⟨i,hi,hj⟩
    simp only [st]
    by_cases hlt : i < l.length
    ·have hX := tr_td (pt n) i (by omega)
     have hY := (t7 i (by omega)).1
     rw [hY] at hX
     have hp := nI_len (pt n)
     generalize (pt n).getD (3 * i) 0 = ra at *
     generalize (pt n).getD (3 * i + 2) 0 = rc at *
     by_cases c1 : l.getD i 0 < 0
     ·rw [if_neg (fun h => by have := h i hlt;omega)]
      (repeat (first|apply zO (by decide +kernel)|apply zP (by decide +kernel)|(apply zS;(case h=>constructor<;>decide))|((first|apply l_go rfl|apply c_dec|apply zT rfl (by decide) rfl);(case hs=>(simp (disch := first|omega|exact kD rfl|exact kX rfl) only [smY,simprocAttr,bl,i64,smE,hX,hp,t1];exact rfl));first|refine c_bt ?_|refine c_bf ?_|refine zq ?_|(case hg=>assumption))))
      ((first|apply g_ret|apply g_end);case hres => (simp only [smR];simp (disch := first|omega|exact kD rfl|exact kX rfl) only [smY,simprocAttr,bl,i64,smE,hX,hp,t1];exact rfl))
      simp (disch := first|omega|exact kD rfl|exact kX rfl) only [smY,simprocAttr,bl,i64,smE,hX,hp,t1]
     ·by_cases c2 : ((od n).getD i 0 : Int) ≤ l.getD i 0
      ·rw [if_neg (fun h => by have := h i hlt;omega)]
       (repeat (first|apply zO (by decide +kernel)|apply zP (by decide +kernel)|(apply zS;(case h=>constructor<;>decide))|((first|apply l_go rfl|apply c_dec|apply zT rfl (by decide) rfl);(case hs=>(simp (disch := first|omega|exact kD rfl|exact kX rfl) only [smY,simprocAttr,bl,i64,smE,hX,hp,t1];exact rfl));first|refine c_bt ?_|refine c_bf ?_|refine zq ?_|(case hg=>assumption))))
       ((first|apply g_ret|apply g_end);case hres => (simp only [smR];simp (disch := first|omega|exact kD rfl|exact kX rfl) only [smY,simprocAttr,bl,i64,smE,hX,hp,t1];exact rfl))
       simp (disch := first|omega|exact kD rfl|exact kX rfl) only [smY,simprocAttr,bl,i64,smE,hX,hp,t1]
      ·(repeat (first|apply zO (by decide +kernel)|apply zP (by decide +kernel)|(apply zS;(case h=>constructor<;>decide))|((first|apply l_go rfl|apply c_dec|apply zT rfl (by decide) rfl);(case hs=>(simp (disch := first|omega|exact kD rfl|exact kX rfl) only [smY,simprocAttr,bl,i64,smE,hX,hp,t1];exact rfl));first|refine c_bt ?_|refine c_bf ?_|refine zq ?_|(case hg=>assumption))))
       refine ⟨⟨i + 1,by omega,fun j hji => ?_⟩,?_,by simp only;omega⟩
       ·rcases Nat.lt_or_ge j i with h5 | h5
        ·exact hj j h5
        ·obtain rfl : j = i := by omega
         omega
       ·(refine Sub.heap1 0 ?_ (by simp only [smF,dg,renL,renLs,simprocAttr,bl,i64,smE];exact rfl) ?_ ?_;all_goals (first | exact dgs_plain _ | with_reducible rfl | (simp only [smF,dg,renL,renLs,simprocAttr,bl,i64,smE];done) | (simp only [smF,dg,renL,renLs,simprocAttr,bl,i64,smE]) | skip))
        all_goals (first | exact ⟨rfl,rfl⟩ | done)
    ·obtain rfl : i = l.length := by omega
     rw [if_pos hj]
     (repeat (first|apply zO (by decide +kernel)|apply zP (by decide +kernel)|(apply zS;(case h=>constructor<;>decide))|((first|apply l_go rfl|apply c_dec|apply zT rfl (by decide) rfl);(case hs=>(simp (disch := first|omega|exact kD rfl|exact kX rfl) only [smY,simprocAttr,bl,i64,smE];exact rfl));first|refine c_bt ?_|refine c_bf ?_|refine zq ?_|(case hg=>assumption))))
     ((first|apply g_ret|apply g_end);case hres => (simp only [smR];simp (disch := first|omega|exact kD rfl|exact kX rfl) only [smY,simprocAttr,bl,i64,smE];exact rfl))
     simp (disch := first|omega|exact kD rfl|exact kX rfl) only [smY,simprocAttr,bl,i64,smE]
  ·rw [if_neg h2]
   rw [nlv_eq] at gp
   simp only [i64,bl] at *
   refine good_of_lwp mix Tryz.func36 rfl (by decide) (nt := 43) rfl (rs := [.tmp 2]) rfl (nle rfl) ?_
   (repeat (first|apply zO (by decide +kernel)|apply zP (by decide +kernel)|(apply zS;(case h=>constructor<;>decide))|((first|apply l_go rfl|apply c_dec|apply zT rfl (by decide) rfl);(case hs=>(simp (disch := first|omega|exact kD rfl|exact kX rfl) only [smY,simprocAttr,bl,i64,smE];exact rfl));first|refine c_bt ?_|refine c_bf ?_|refine zq ?_|(case hg=>assumption))))
   ((first|apply g_ret|apply g_end);case hres => (simp only [smR];simp (disch := first|omega|exact kD rfl|exact kX rfl) only [smY,simprocAttr,bl,i64,smE];exact rfl))
   simp (disch := first|omega|exact kD rfl|exact kX rfl) only [smY,simprocAttr,bl,i64,smE]
 ·rw [if_neg h1]
  rw [dec_f h1] at gw
  simp only [i64,bl] at *
  refine good_of_lwp mix Tryz.func36 rfl (by decide) (nt := 43) rfl (rs := [.tmp 2]) rfl (nle rfl) ?_
  (repeat (first|apply zO (by decide +kernel)|apply zP (by decide +kernel)|(apply zS;(case h=>constructor<;>decide))|((first|apply l_go rfl|apply c_dec|apply zT rfl (by decide) rfl);(case hs=>(simp (disch := first|omega|exact kD rfl|exact kX rfl) only [smY,simprocAttr,bl,i64,smE];exact rfl));first|refine c_bt ?_|refine c_bf ?_|refine zq ?_|(case hg=>assumption))))
  ((first|apply g_ret|apply g_end);case hres => (simp only [smR];simp (disch := first|omega|exact kD rfl|exact kX rfl) only [smY,simprocAttr,bl,i64,smE];exact rfl))
  simp (disch := first|omega|exact kD rfl|exact kX rfl) only [smY,simprocAttr,bl,i64,smE]
end Go.Proofs.YtpkjokknpbclhaaGreat
namespace Go.Proofs.YtpkjokknpbclhaaGreat
open Go Go.Lg Go.Num
set_option maxRecDepth 100000
set_option maxHeartbeats 4000000
attribute [local irreducible] Go.Lg.lrun Go.Lg.lwp Go.Lg.exThen Go.Lg.exBlk Go.Lg.keep Go.Lg.goodPost ec pt gn od
theorem rcheck28_good (m : Int) (l : List Int) (hm : -9223372036854775808 ≤ m ∧ m ≤ 9223372036854775807) (hl : l.length ≤ 1000000) : PureGood Tryz.prog 32 [.agg [i64 m,.sl l.length (ec l)]] (i64 (cerr m l)) := by
 have gw := modulus_good m hm
 unfold cerr
 by_cases h1 : 1 ≤ m ∧ m ≤ 60
 ·rw [if_pos h1]
  rw [if_pos h1] at gw
  obtain ⟨n,rfl⟩ : ∃ n : Nat,m = n := ⟨m.toNat,by omega⟩
  rw [Int.toNat_natCast]
  have gp := gens_good (m := n) (by omega) (by omega)
  obtain ⟨t1,t2,t3,t4,t5,t6,t7,t8,t9⟩ := tb (m := n) (by omega)
  by_cases h2 : l.length = (od n).length
  ·rw [if_pos h2]
   rw [nlv_eq,nlv_eq] at gp
   rw [← h2] at gp
   have hp := nI_len (od n)
   simp only [i64,bl] at *
   refine good_of_lwp mix Tryz.func32 rfl (by decide) (nt := 49) rfl (rs := [.tmp 2]) rfl (nle rfl) ?_
   (repeat (first|apply zO (by decide +kernel)|apply zP (by decide +kernel)|(apply zS;(case h=>constructor<;>decide))|((first|apply l_go rfl|apply c_dec|apply zT rfl (by decide) rfl);(case hs=>(simp (disch := first|omega|exact kD rfl|exact kX rfl) only [smY,simprocAttr,bl,i64,smE];exact rfl));first|refine c_bt ?_|refine c_bf ?_|refine zq ?_|(case hg=>assumption))))
   refine w_loop (α := {i : Nat // i ≤ l.length ∧ ∀ j,j < i → 0 ≤ l.getD j 0 ∧ l.getD j 0 < ((od n).getD j 0 : Int)}) (fun i => st 49 (lk [(1,.ptr 0 0),(2,i64 0),(5,.sl l.length (ec (nI (od n)))),(6,i64 i.1)]) (lkH [(0,⟨24,[i64 n,.sl l.length (ec l)],false⟩)]) 1) (fun i => l.length - i.1) ⟨0,by simp⟩ ?_ ?_
   ·(refine Sub.heap1 0 ?_ (by simp only [smF,dg,renL,renLs,simprocAttr,bl,i64,smE];exact rfl) ?_ ?_;all_goals (first | exact dgs_plain _ | with_reducible rfl | (simp only [smF,dg,renL,renLs,simprocAttr,bl,i64,smE];done) | (simp only [smF,dg,renL,renLs,simprocAttr,bl,i64,smE]) | skip))
    all_goals (first | exact ⟨rfl,rfl⟩ | done)
   ·rintro ⟨i,hi,hj⟩
    simp only [st]
    by_cases hlt : i < l.length
    ·have hX := nI_get (od n) i
     by_cases c1 : l.getD i 0 < 0
     ·rw [if_neg (fun h => by have := h i hlt;omega)]
      (repeat (first|apply zO (by decide +kernel)|apply zP (by decide +kernel)|(apply zS;(case h=>constructor<;>decide))|((first|apply l_go rfl|apply c_dec|apply zT rfl (by decide) rfl);(case hs=>(simp (disch := first|omega|exact kD rfl|exact kX rfl) only [smY,simprocAttr,bl,i64,smE,hX,hp];exact rfl));first|refine c_bt ?_|refine c_bf ?_|refine zq ?_|(case hg=>assumption))))
      ((first|apply g_ret|apply g_end);case hres => (simp only [smR];simp (disch := first|omega|exact kD rfl|exact kX rfl) only [smY,simprocAttr,bl,i64,smE,hX,hp];exact rfl))
      simp (disch := first|omega|exact kD rfl|exact kX rfl) only [smY,simprocAttr,bl,i64,smE,hX,hp]
     ·by_cases c2 : ((od n).getD i 0 : Int) ≤ l.getD i 0
      ·rw [if_neg (fun h => by have := h i hlt;omega)]
       (repeat (first|apply zO (by decide +kernel)|apply zP (by decide +kernel)|(apply zS;(case h=>constructor<;>decide))|((first|apply l_go rfl|apply c_dec|apply zT rfl (by decide) rfl);(case hs=>(simp (disch := first|omega|exact kD rfl|exact kX rfl) only [smY,simprocAttr,bl,i64,smE,hX,hp];exact rfl));first|refine c_bt ?_|refine c_bf ?_|refine zq ?_|(case hg=>assumption))))
       ((first|apply g_ret|apply g_end);case hres => (simp only [smR];simp (disch := first|omega|exact kD rfl|exact kX rfl) only [smY,simprocAttr,bl,i64,smE,hX,hp];exact rfl))
       simp (disch := first|omega|exact kD rfl|exact kX rfl) only [smY,simprocAttr,bl,i64,smE,hX,hp]
      ·(repeat (first|apply zO (by decide +kernel)|apply zP (by decide +kernel)|(apply zS;(case h=>constructor<;>decide))|((first|apply l_go rfl|apply c_dec|apply zT rfl (by decide) rfl);(case hs=>(simp (disch := first|omega|exact kD rfl|exact kX rfl) only [smY,simprocAttr,bl,i64,smE,hX,hp];exact rfl));first|refine c_bt ?_|refine c_bf ?_|refine zq ?_|(case hg=>assumption))))
       refine ⟨⟨i + 1,by omega,fun j hji => ?_⟩,?_,by simp only;omega⟩
       ·rcases Nat.lt_or_ge j i with h5 | h5
        ·exact hj j h5
        ·obtain rfl : j = i := by omega
         omega
       ·(refine Sub.heap1 0 ?_ (by simp only [smF,dg,renL,renLs,simprocAttr,bl,i64,smE];exact rfl) ?_ ?_;all_goals (first | exact dgs_plain _ | with_reducible rfl | (simp only [smF,dg,renL,renLs,simprocAttr,bl,i64,smE];done) | (simp only [smF,dg,renL,renLs,simprocAttr,bl,i64,smE]) | skip))
        all_goals (first | exact ⟨rfl,rfl⟩ | done)
    ·obtain rfl : i = l.length := by omega
     rw [if_pos hj]
     (repeat (first|apply zO (by decide +kernel)|apply zP (by decide +kernel)|(apply zS;(case h=>constructor<;>decide))|((first|apply l_go rfl|apply c_dec|apply zT rfl (by decide) rfl);(case hs=>(simp (disch := first|omega|exact kD rfl|exact kX rfl) only [smY,simprocAttr,bl,i64,smE];exact rfl));first|refine c_bt ?_|refine c_bf ?_|refine zq ?_|(case hg=>assumption))))
     ((first|apply g_ret|apply g_end);case hres => (simp only [smR];simp (disch := first|omega|exact kD rfl|exact kX rfl) only [smY,simprocAttr,bl,i64,smE];exact rfl))
     simp (disch := first|omega|exact kD rfl|exact kX rfl) only [smY,simprocAttr,bl,i64,smE]
  ·rw [if_neg h2]
   rw [nlv_eq,nlv_eq] at gp
   simp only [i64,bl] at *
   refine good_of_lwp mix Tryz.func32 rfl (by decide) (nt := 49) rfl (rs := [.tmp 2]) rfl (nle rfl) ?_
   (repeat (first|apply zO (by decide +kernel)|apply zP (by decide +kernel)|(apply zS;(case h=>constructor<;>decide))|((first|apply l_go rfl|apply c_dec|apply zT rfl (by decide) rfl);(case hs=>(simp (disch := first|omega|exact kD rfl|exact kX rfl) only [smY,simprocAttr,bl,i64,smE];exact rfl));first|refine c_bt ?_|refine c_bf ?_|refine zq ?_|(case hg=>assumption))))
   ((first|apply g_ret|apply g_end);case hres => (simp only [smR];simp (disch := first|omega|exact kD rfl|exact kX rfl) only [smY,simprocAttr,bl,i64,smE];exact rfl))
   simp (disch := first|omega|exact kD rfl|exact kX rfl) only [smY,simprocAttr,bl,i64,smE]
 ·rw [if_neg h1]
  rw [if_neg h1] at gw
  simp only [i64,bl] at *
  refine good_of_lwp mix Tryz.func32 rfl (by decide) (nt := 49) rfl (rs := [.tmp 2]) rfl (nle rfl) ?_
  (repeat (first|apply zO (by decide +kernel)|apply zP (by decide +kernel)|(apply zS;(case h=>constructor<;>decide))|((first|apply l_go rfl|apply c_dec|apply zT rfl (by decide) rfl);(case hs=>(simp (disch := first|omega|exact kD rfl|exact kX rfl) only [smY,simprocAttr,bl,i64,smE];exact rfl));first|refine c_bt ?_|refine c_bf ?_|refine zq ?_|(case hg=>assumption))))
  ((first|apply g_ret|apply g_end);case hres => (simp only [smR];simp (disch := first|omega|exact kD rfl|exact kX rfl) only [smY,simprocAttr,bl,i64,smE];exact rfl))
  simp (disch := first|omega|exact kD rfl|exact kX rfl) only [smY,simprocAttr,bl,i64,smE]
theorem many_good (m : Int) (l : List Int) : PureGood Tryz.prog 6 [.agg [i64 m,.sl l.length (ec l)]] (bl (decide (100 < l.length))) := by
 by_cases h : 100 < l.length
 ·rw [dec_t h]
  simp only [i64,bl]
  refine good_of_lwp mix Tryz.func6 rfl (by decide) (nt := 7) rfl (rs := [.tmp 2]) rfl (nle rfl) ?_
  (repeat (first|apply zO (by decide +kernel)|apply zP (by decide +kernel)|(apply zS;(case h=>constructor<;>decide))|((first|apply l_go rfl|apply c_dec|apply zT rfl (by decide) rfl);(case hs=>(simp (disch := first|omega|exact kD rfl|exact kX rfl) only [smY,simprocAttr,bl,i64,smE];exact rfl));first|refine c_bt ?_|refine c_bf ?_|refine zq ?_|(case hg=>assumption))))
  ((first|apply g_ret|apply g_end);case hres => (simp only [smR];simp (disch := first|omega|exact kD rfl|exact kX rfl) only [smY,simprocAttr,bl,i64,smE];exact rfl))
  simp (disch := first|omega|exact kD rfl|exact kX rfl) only [smY,simprocAttr,bl,i64,smE]
 ·rw [dec_f h]
  simp only [i64,bl]
  refine good_of_lwp mix Tryz.func6 rfl (by decide) (nt := 7) rfl (rs := [.tmp 2]) rfl (nle rfl) ?_
  (repeat (first|apply zO (by decide +kernel)|apply zP (by decide +kernel)|(apply zS;(case h=>constructor<;>decide))|((first|apply l_go rfl|apply c_dec|apply zT rfl (by decide) rfl);(case hs=>(simp (disch := first|omega|exact kD rfl|exact kX rfl) only [smY,simprocAttr,bl,i64,smE];exact rfl));first|refine c_bt ?_|refine c_bf ?_|refine zq ?_|(case hg=>assumption))))
  ((first|apply g_ret|apply g_end);case hres => (simp only [smR];simp (disch := first|omega|exact kD rfl|exact kX rfl) only [smY,simprocAttr,bl,i64,smE];exact rfl))
  simp (disch := first|omega|exact kD rfl|exact kX rfl) only [smY,simprocAttr,bl,i64,smE]
theorem copy_good (m : Int) (l : List Int) (hm : -9223372036854775808 ≤ m ∧ m ≤ 9223372036854775807) (hl : l.length ≤ 1000000) : PureGood Tryz.prog 9 [.agg [i64 m,.sl l.length (ec l)]] (.agg [i64 m,.sl l.length (ec l)]) := by
 simp only [i64,bl]
 refine good_of_lwp mix Tryz.func9 rfl (by decide) (nt := 10) rfl (rs := [.cell 2 24]) rfl (nle rfl) ?_
 (repeat (first|apply zO (by decide +kernel)|apply zP (by decide +kernel)|(apply zS;(case h=>constructor<;>decide))|((first|apply l_go rfl|apply c_dec|apply zT rfl (by decide) rfl);(case hs=>(simp (disch := first|omega|exact kD rfl|exact kX rfl) only [smY,simprocAttr,bl,i64,smE];exact rfl));first|refine c_bt ?_|refine c_bf ?_|refine zq ?_|(case hg=>assumption))))
 ((first|apply g_ret|apply g_end);case hres => (simp only [smR];simp (disch := first|omega|exact kD rfl|exact kX rfl) only [smY,simprocAttr,bl,i64,smE];exact rfl))
 simp (disch := first|omega|exact kD rfl|exact kX rfl) only [smY,simprocAttr,bl,i64,smE]
 rw [List.take_length]
end Go.Proofs.YtpkjokknpbclhaaGreat
namespace Go.Num
end Go.Num
namespace Go.Proofs.YtpkjokknpbclhaaGreat
open Go Go.Lg Go.Num
set_option maxRecDepth 100000
set_option maxHeartbeats 4000000
attribute [local irreducible] Go.Lg.lrun Go.Lg.lwp Go.Lg.exThen Go.Lg.exBlk Go.Lg.keep Go.Lg.goodPost
attribute [local irreducible] sg mg
theorem qadd_none (q : Rat) (h : lq q ≤ 34359738368) : PureGood Tryz.prog 116 [.agg [sg 0,mg 0,sg 0,mg 0],encQ q] (encQ q) := by
 have h1 := isign_good 0 (by unfold len;simp [digs_zero])
 have h2 := qnorm_good q (by omega)
 have e0 : (0 : Int).sign = 0 := rfl
 rw [e0] at h1
 simp only [encQ_sm,encI_sm,i64] at *
 refine good_of_lwp mix Tryz.func116 rfl (by decide) (nt := 54) rfl (rs := [.cell 4 68]) rfl (nle rfl) ?_
 (repeat (first|apply zO (by decide +kernel)|apply zP (by decide +kernel)|(apply zS;(case h=>constructor<;>decide))|((first|apply l_go rfl|apply c_dec|apply zT rfl (by decide) rfl);(case hs=>(simp (disch := first|omega|exact kD rfl|exact kX rfl) only [smY,simprocAttr,bl,i64,smT];exact rfl));first|refine c_bt ?_|refine c_bf ?_|refine zq ?_|(case hg=>assumption))))
 ((first|apply g_ret|apply g_end);case hres => (simp only [smR];simp (disch := first|omega|exact kD rfl|exact kX rfl) only [smY,simprocAttr,bl,i64,smT];exact rfl))
 simp (disch := first|omega|exact kD rfl|exact kX rfl) only [smY,simprocAttr,bl,i64,smT]
end Go.Proofs.YtpkjokknpbclhaaGreat
namespace Go.Proofs.YtpkjokknpbclhaaGreat
open Go Go.Lg Go.Num
set_option maxRecDepth 100000
set_option maxHeartbeats 4000000
attribute [local irreducible] Go.Lg.lrun Go.Lg.lwp Go.Lg.exThen Go.Lg.exBlk Go.Lg.keep Go.Lg.goodPost ec pt gn od cerr
structure ChB (m : Int) (l : List Int) : Prop where
 m1 : -9223372036854775808 ≤ m ∧ m ≤ 9223372036854775807
 ln : l.length ≤ 1000000
theorem order_err {m : Int} {l : List Int} (hb : ChB m l) (he : ¬ cerr m l = 0) : PureGood Tryz.prog 29 [.agg [i64 m,.sl l.length (ec l)]] (.tup [i64 0,i64 (cerr m l)]) := by
 have g1 := dcheck_good m l hb.m1 hb.ln
 have g2 := rcheck28_good m l hb.m1 hb.ln
 generalize cerr m l = e at *
 simp only [i64,bl] at *
 refine good_of_lwp mix Tryz.func29 rfl (by decide) (nt := 43) rfl (rs := [.tmp 2,.tmp 3]) rfl (nle rfl) ?_
 (repeat (first|apply zO (by decide +kernel)|apply zP (by decide +kernel)|(apply zS;(case h=>constructor<;>decide))|((first|apply l_go rfl|apply c_dec|apply zT rfl (by decide) rfl);(case hs=>(simp (disch := first|omega|exact kD rfl|exact kX rfl) only [smY,simprocAttr,bl,i64,smE];exact rfl));first|refine c_bt ?_|refine c_bf ?_|refine zq ?_|(case hg=>assumption))))
 ((first|apply g_ret|apply g_end);case hres => (simp only [smR];simp (disch := first|omega|exact kD rfl|exact kX rfl) only [smY,simprocAttr,bl,i64,smE];exact rfl))
 simp (disch := first|omega|exact kD rfl|exact kX rfl) only [smY,simprocAttr,bl,i64,smE]
end Go.Proofs.YtpkjokknpbclhaaGreat
namespace Go.Proofs.YtpkjokknpbclhaaGreat
open Go Go.Lg Go.Num
set_option maxRecDepth 100000
set_option maxHeartbeats 4000000
theorem awake_good : PureGood Tryz.prog 7 [] (.lit (.bool true)) := evo_good orcG_ok (by kernel_rfl)
def orcT (args : List LV) : Option LV := match args with
 | [] => some (.lit (.bool true))
 | _ => none
theorem orcT_ok {args : List LV} {r : LV} (h : orcT args = some r) : PureGood Tryz.prog 7 args r := by
 unfold orcT at h
 split at h
 ·cases h
  exact awake_good
 ·cases h
def orcCp (args : List LV) : Option LV := match args with
 | [.agg [.lit (.int .i64 (.ofNat m)),.sl k cs]] => match rdNs cs with
   | some l => bif Nat.ble m 1000 && Nat.beq k l.length && Nat.ble k 1000 then some (.agg [.lit (.int .i64 (.ofNat m)),.sl k cs]) else none
   | none => none
 | _ => none
theorem orcCp_ok {args : List LV} {r : LV} (h : orcCp args = some r) : PureGood Tryz.prog 9 args r := by
 unfold orcCp at h
 split at h
 ·rename_i m k cs
  split at h
  ·rename_i l hl
   cases hb : (Nat.ble m 1000 && Nat.beq k l.length && Nat.ble k 1000) with
   | true =>
     rw [hb] at h
     cases h
     simp only [Bool.and_eq_true,Nat.ble_eq,Nat.beq_eq] at hb
     obtain ⟨⟨h1,rfl⟩,h3⟩ := hb
     obtain ⟨rfl,_⟩ := rdNs_ok hl
     have := copy_good (m : Int) (nI l) (by omega) (by rw [nI_len];omega)
     rw [nI_len] at this
     exact this
   | false => rw [hb] at h;cases h
  ·cases h
 ·cases h
def orcA (f : FuncId) (args : List LV) : Option LV := bif Nat.beq f 7 then orcT args else bif Nat.beq f 9 then orcCp args else orcG f args
theorem orcA_ok : OrcOk Tryz.prog orcA := by
 intro f args r h
 exact orc_cons (f0 := 7) (g := orcT) (fun _ _ h => orcT_ok h) (orc_cons (f0 := 9) (g := orcCp) (fun _ _ h => orcCp_ok h) orcG_ok) f args r h
def chV (n : Nat) (v : List Nat) : LV := .agg [.lit (.int .i64 (.ofNat n)),.sl v.length (encNs v)]
theorem chV_eq (n : Nat) (v : List Nat) : chV n v = .agg [i64 n,.sl (nI v).length (ec (nI v))] := by
 unfold chV
 rw [encNs_eq,nI_len]
 rfl
theorem cerr_ok {m : Int} {l : List Int} (h : cerr m l = 0) : ∃ n : Nat,m = n ∧ 1 ≤ n ∧ n ≤ 60 ∧ ∃ v ∈ prodN (od n),l = nI v := by
 unfold cerr at h
 split at h
 ·rename_i h1
  obtain ⟨n,rfl⟩ : ∃ n : Nat,m = n := ⟨m.toNat,by omega⟩
  rw [Int.toNat_natCast] at h
  split at h
  ·rename_i h2
   split at h
   ·rename_i h3
    exact ⟨n,rfl,by omega,by omega,exOk_nat h2 h3⟩
   ·cases h
  ·cases h
 ·cases h
attribute [local irreducible] Go.Lg.lrun Go.Lg.lwp Go.Lg.exThen Go.Lg.exBlk Go.Lg.keep Go.Lg.goodPost ec pt gn od cerr
end Go.Proofs.YtpkjokknpbclhaaGreat