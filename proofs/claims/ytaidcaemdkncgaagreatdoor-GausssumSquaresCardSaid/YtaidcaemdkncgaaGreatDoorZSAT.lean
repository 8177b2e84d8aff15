/- Contracts of functions of the program, and what proves them (texts: G1c NumJ G2 G3 F2 G4 G5). -/
import Derived.KernelRfl
import Derived.Test.YtaidcaemdkncgaaGreatDoorZSAM
import Derived.Test.YtaidcaemdkncgaaGreatDoorZSAQ
import Derived.Test.YtaidcaemdkncgaaGreatDoorZSAR
import Derived.Test.YtaidcaemdkncgaaGreatDoorZSAS
set_option linter.all false
set_option maxRecDepth 100000
set_option maxHeartbeats 8000000
namespace Go.Proofs.YtaidcaemdkncgaaGreatDoor
open Go Go.Lg Go.Num
theorem pg_mem : ∀ m ∈ [1,2,3,4,5,6,7,8,9,10,11,12,13,14,15,16,17,18,19,20,21,22,23,24,25,26,27,28,29,30,31,32,33,34,35,36,37,38,39,40,41,42,43,44,45,46,47,48,49,50,51,52,53,54,55,56,57,58,59,60],chkPG m = true := by
 simp only [List.forall_mem_cons]
 exact ⟨pg_1,pg_2,pg_3,pg_4,pg_5,pg_6,pg_7,pg_8,pg_9,pg_10,pg_11,pg_12,pg_13,pg_14,pg_15,pg_16,pg_17,pg_18,pg_19,pg_20,pg_21,pg_22,pg_23,pg_24,pg_25,pg_26,pg_27,pg_28,pg_29,pg_30,pg_31,pg_32,pg_33,pg_34,pg_35,pg_36,pg_37,pg_38,pg_39,pg_40,pg_41,pg_42,pg_43,pg_44,pg_45,pg_46,pg_47,pg_48,pg_49,pg_50,pg_51,pg_52,pg_53,pg_54,pg_55,pg_56,pg_57,pg_58,pg_59,pg_60,by simp⟩
theorem pg_all {m : Nat} (h1 : 1 ≤ m) (h2 : m ≤ 60) : chkPt m = true ∧ chkGn m = true := by
 have h := pg_mem m (by
  have : m ∈ List.range' 1 60 := by rw [List.mem_range'_1];omega
  exact this)
 exact (Bool.and_eq_true _ _ ▸ h)
theorem parts_good {m : Nat} (h1 : 1 ≤ m) (h2 : m ≤ 60) : PureGood Tryz.prog 133 [i64 m] (nlv (od m).length (pt m)) := by
 have h := (pg_all h1 h2).1
 unfold chkPt at h
 split at h
 ·rename_i v e
  rw [← isN_ok h]
  exact evo_good orcN_ok e
 ·cases h
theorem gens_good {m : Nat} (h1 : 1 ≤ m) (h2 : m ≤ 60) : PureGood Tryz.prog 145 [i64 m] (.tup [nlv (od m).length (gn m),nlv (od m).length (od m)]) := by
 have h := (pg_all h1 h2).2
 unfold chkGn at h
 split at h
 ·rename_i v w e
  rw [Bool.and_eq_true] at h
  rw [← isN_ok h.1,← isN_ok h.2]
  exact evo_good orcN_ok e
 ·cases h
def orcPt (args : List LV) : Option LV := match args with
 | [.lit (.int .i64 (.ofNat m))] => bif Nat.ble 1 m && Nat.ble m 60 then some (nlv (od m).length (pt m)) else none
 | _ => none
def orcGn (args : List LV) : Option LV := match args with
 | [.lit (.int .i64 (.ofNat m))] => bif Nat.ble 1 m && Nat.ble m 60 then some (.tup [nlv (od m).length (gn m),nlv (od m).length (od m)]) else none
 | _ => none
theorem orcPt_ok {args : List LV} {r : LV} (h : orcPt args = some r) : PureGood Tryz.prog 133 args r := by
 unfold orcPt at h
 split at h
 ·rename_i m
  cases hb : (Nat.ble 1 m && Nat.ble m 60) with
  | true =>
    rw [hb] at h
    cases h
    rw [Bool.and_eq_true,Nat.ble_eq,Nat.ble_eq] at hb
    exact parts_good hb.1 hb.2
  | false => rw [hb] at h;cases h
 ·cases h
theorem orcGn_ok {args : List LV} {r : LV} (h : orcGn args = some r) : PureGood Tryz.prog 145 args r := by
 unfold orcGn at h
 split at h
 ·rename_i m
  cases hb : (Nat.ble 1 m && Nat.ble m 60) with
  | true =>
    rw [hb] at h
    cases h
    rw [Bool.and_eq_true,Nat.ble_eq,Nat.ble_eq] at hb
    exact gens_good hb.1 hb.2
  | false => rw [hb] at h;cases h
 ·cases h
def orcG (f : FuncId) (args : List LV) : Option LV := bif Nat.beq f 133 then orcPt args else bif Nat.beq f 145 then orcGn args else orcN f args
theorem orcG_ok : OrcOk Tryz.prog orcG := by
 intro f args r h
 exact orc_cons (f0 := 133) (g := orcPt) (fun _ _ h => orcPt_ok h) (orc_cons (f0 := 145) (g := orcGn) (fun _ _ h => orcGn_ok h) orcN_ok) f args r h
end Go.Proofs.YtaidcaemdkncgaaGreatDoor
namespace Go.Num
end Go.Num
namespace Go.Proofs.YtaidcaemdkncgaaGreatDoor
open Go Go.Lg Go.Num
def tbB (m : Nat) : Bool := Nat.beq (pt m).length (3 * (od m).length) && Nat.beq (gn m).length (od m).length && Nat.ble (od m).length 3 && (pt m).all (fun a => Nat.ble a 60) && (gn m).all (fun a => Nat.ble a 60) && (od m).all (fun a => Nat.ble 1 a && Nat.ble a 60) && (List.range (od m).length).all (fun i => Nat.beq ((pt m).getD (3 * i + 1) 0) ((od m).getD i 0) && Nat.ble 2 ((pt m).getD (3 * i + 2) 0)) && (Nat.ble m 2 || Nat.ble 1 (od m).length) && (Nat.ble 3 m || Nat.beq (od m).length 0)
theorem tb_all : (List.range 61).all tbB = true := by decide +kernel
theorem tb {m : Nat} (h : m ≤ 60) : (pt m).length = 3 * (od m).length ∧ (gn m).length = (od m).length ∧ (od m).length ≤ 3 ∧ (∀ a ∈ pt m,a ≤ 60) ∧ (∀ a ∈ gn m,a ≤ 60) ∧ (∀ a ∈ od m,1 ≤ a ∧ a ≤ 60) ∧ (∀ i,i < (od m).length → (pt m).getD (3 * i + 1) 0 = (od m).getD i 0 ∧ 2 ≤ (pt m).getD (3 * i + 2) 0) ∧ (m ≤ 2 ∨ 1 ≤ (od m).length) ∧ (3 ≤ m ∨ (od m).length = 0) := by
 have h := List.all_eq_true.1 tb_all m (List.mem_range.2 (by omega))
 unfold tbB at h
 simp only [Bool.and_eq_true,Nat.beq_eq,Nat.ble_eq,List.all_eq_true,Bool.or_eq_true,List.mem_range] at h
 obtain ⟨⟨⟨⟨⟨⟨⟨⟨a1,a2⟩,a3⟩,a4⟩,a5⟩,a6⟩,a7⟩,a8⟩,a9⟩ := h
 exact ⟨a1,a2,a3,a4,a5,a6,a7,a8,a9⟩
theorem nI_len (l : List Nat) : (nI l).length = l.length := by simp [nI]
attribute [local irreducible] Go.Lg.lrun Go.Lg.lwp Go.Lg.exThen Go.Lg.exBlk Go.Lg.keep Go.Lg.goodPost ec pt gn od
end Go.Proofs.YtaidcaemdkncgaaGreatDoor
namespace Go.Proofs.YtaidcaemdkncgaaGreatDoor
open Go Go.Lg Go.Num
attribute [local irreducible] Go.Lg.lrun Go.Lg.lwp Go.Lg.exThen Go.Lg.exBlk Go.Lg.keep Go.Lg.goodPost ec pt gn od
theorem copy_good (m : Int) (l : List Int) (hm : -9223372036854775808 ≤ m ∧ m ≤ 9223372036854775807) (hl : l.length ≤ 1000000) : PureGood Tryz.prog 18 [.agg [i64 m,.sl l.length (ec l)]] (.agg [i64 m,.sl l.length (ec l)]) := by
 simp only [i64,bl]
 refine good_of_lwp mix Tryz.func18 rfl (by decide) (nt := 10) rfl (rs := [.cell 2 25]) rfl (nle rfl) ?_
 (repeat(first|refine zW ?_|refine zG6 ?_|refine zD6 ?_|refine zT6 ?_))
 refine zR6 ?_
 simp (disch := first|omega|exact kD rfl|exact kX rfl) only [smY,simprocAttr,bl,i64,smE]
 rw [List.take_length]
end Go.Proofs.YtaidcaemdkncgaaGreatDoor
namespace Go.Num
end Go.Num
namespace Go.Proofs.YtaidcaemdkncgaaGreatDoor
open Go Go.Lg Go.Num
attribute [local irreducible] Go.Lg.lrun Go.Lg.lwp Go.Lg.exThen Go.Lg.exBlk Go.Lg.keep Go.Lg.goodPost
attribute [local irreducible] sg mg
end Go.Proofs.YtaidcaemdkncgaaGreatDoor
namespace Go.Proofs.YtaidcaemdkncgaaGreatDoor
open Go Go.Lg Go.Num
attribute [local irreducible] Go.Lg.lrun Go.Lg.lwp Go.Lg.exThen Go.Lg.exBlk Go.Lg.keep Go.Lg.goodPost ec pt gn od
structure ChB (m : Int) (l : List Int) : Prop where
 m1 : -9223372036854775808 ≤ m ∧ m ≤ 9223372036854775807
 ln : l.length ≤ 1000000
end Go.Proofs.YtaidcaemdkncgaaGreatDoor
namespace Go.Proofs.YtaidcaemdkncgaaGreatDoor
open Go Go.Lg Go.Num
theorem awake29_good : PureGood Tryz.prog 10 [] (.lit (.bool true)) := evo_good orcG_ok (by kernel_rfl)
def orcT (args : List LV) : Option LV := match args with
 | [] => some (.lit (.bool true))
 | _ => none
theorem orcT_ok {args : List LV} {r : LV} (h : orcT args = some r) : PureGood Tryz.prog 10 args r := by
 unfold orcT at h
 split at h
 ·cases h
  exact awake29_good
 ·cases h
def orcCp (args : List LV) : Option LV := match args with
 | [.agg [.lit (.int .i64 (.ofNat m)),.sl k cs]] => match rdNs cs with
   | some l => bif Nat.ble m 1000 && Nat.beq k l.length && Nat.ble k 1000 then some (.agg [.lit (.int .i64 (.ofNat m)),.sl k cs]) else none
   | none => none
 | _ => none
theorem orcCp_ok {args : List LV} {r : LV} (h : orcCp args = some r) : PureGood Tryz.prog 18 args r := by
 unfold orcCp at h
 split at h
 ·rename_i m k cs
  split at h
  ·rename_i l hl
   cases hb : (Nat.ble m 1000 && Nat.beq k l.length && Nat.ble k 1000) with
   | true =>
     rw [hb] at h
     cases h
     simp only [Bool.and_eq_true,Nat.ble_eq,Nat.beq_eq] at hb
     obtain ⟨⟨h1,rfl⟩,h3⟩ := hb
     obtain ⟨rfl,_⟩ := rdNs_ok hl
     have := copy_good (m : Int) (nI l) (by omega) (by rw [nI_len];omega)
     rw [nI_len] at this
     exact this
   | false => rw [hb] at h;cases h
  ·cases h
 ·cases h
def orcA (f : FuncId) (args : List LV) : Option LV := bif Nat.beq f 10 then orcT args else bif Nat.beq f 18 then orcCp args else orcG f args
theorem orcA_ok : OrcOk Tryz.prog orcA := by
 intro f args r h
 exact orc_cons (f0 := 10) (g := orcT) (fun _ _ h => orcT_ok h) (orc_cons (f0 := 18) (g := orcCp) (fun _ _ h => orcCp_ok h) orcG_ok) f args r h
attribute [local irreducible] Go.Lg.lrun Go.Lg.lwp Go.Lg.exThen Go.Lg.exBlk Go.Lg.keep Go.Lg.goodPost ec pt gn od
end Go.Proofs.YtaidcaemdkncgaaGreatDoor