/- Contracts of functions of the program, and what proves them (texts: BC13). -/
import Derived.Test.YtaidcaemdkncgaaGreatDoorZBC
import Derived.Test.YtaidcaemdkncgaaGreatDoorZBO
import Derived.Test.YtaidcaemdkncgaaGreatDoorZFinAgreeAA
set_option linter.all false
set_option maxRecDepth 100000
set_option maxHeartbeats 8000000
namespace Go.Proofs.YtaidcaemdkncgaaGreatDoor
open Go Go.Lg Go.Num
def krB (d : Int) (n : Nat) (v : List Nat) (o j : Nat) : Bool := match ixB o n v j with
 | none => eqS (kr d (j + 1)) 0
 | some i => bif Nat.beq i 0 then eqS (kr d (j + 1)) 1 else (Nat.beq i 1 && Nat.beq o 2 && eqS (kr d (j + 1)) (-1))
noncomputable def chkQd (d : Int) : Bool := match evo orcX 11 [.lit (.int .i64 d)] with
 | some (.tup [.agg [.lit (.int .i64 (.ofNat n)),.sl m cs],.lit (.int .i64 (.ofNat e))]) => bif fdL.elem d then (match rdNs cs with
   | some v => Nat.beq e 0 && Nat.beq m v.length && Nat.beq n d.natAbs && chOk n v && chkOr n v && fNat (ordN n v) fun o => (Nat.beq o 1 || Nat.beq o 2) && (match evo orcX 57 [chV n v] with
     | some (.tup [x,.lit (.int .i64 (.ofNat e'))]) => isCh (some x) n v && Nat.beq e' 0
     | _ => false) && chkWp n v n v && (List.range n).all (krB d n v o)
   | none => false) else Nat.ble 1 e && Nat.ble e 100
 | _ => false
theorem qd_a : (List.range 31).all (fun i => Nat.beq i 60 || chkQd (Int.sub (Int.ofNat i) 60)) = true := by kernel_rfl
theorem qd_b : (List.range 30).all (fun i => Nat.beq (Nat.add i 31) 60 || chkQd (Int.sub (Int.ofNat (Nat.add i 31)) 60)) = true := by kernel_rfl
theorem qd_c : (List.range 30).all (fun i => Nat.beq (Nat.add i 61) 60 || chkQd (Int.sub (Int.ofNat (Nat.add i 61)) 60)) = true := by kernel_rfl
theorem qd_d : (List.range 30).all (fun i => Nat.beq (Nat.add i 91) 60 || chkQd (Int.sub (Int.ofNat (Nat.add i 91)) 60)) = true := by kernel_rfl
theorem qd_all {d : Int} (h0 : d ≠ 0) (h1 : -60 ≤ d) (h2 : d ≤ 60) : chkQd d = true := by
 have key : ∀ i : Nat,i < 121 → (Nat.beq i 60 || chkQd (Int.sub (Int.ofNat i) 60)) = true := by
  intro i hi
  by_cases a : i < 31
  ·exact List.all_eq_true.1 qd_a i (List.mem_range.2 a)
  by_cases b : i < 61
  ·have := List.all_eq_true.1 qd_b (i - 31) (List.mem_range.2 (by omega))
   rw [show Nat.add (i - 31) 31 = i from Nat.sub_add_cancel (by omega)] at this
   exact this
  by_cases c : i < 91
  ·have := List.all_eq_true.1 qd_c (i - 61) (List.mem_range.2 (by omega))
   rw [show Nat.add (i - 61) 61 = i from Nat.sub_add_cancel (by omega)] at this
   exact this
  ·have := List.all_eq_true.1 qd_d (i - 91) (List.mem_range.2 (by omega))
   rw [show Nat.add (i - 91) 91 = i from Nat.sub_add_cancel (by omega)] at this
   exact this
 have h := key (d + 60).toNat (by omega)
 rw [Bool.or_eq_true,Nat.beq_eq] at h
 have h := h.resolve_left (by omega)
 have e : Int.sub (Int.ofNat (d + 60).toNat) 60 = d := by
  show ((d + 60).toNat : Int) - 60 = d
  omega
 rwa [e] at h
structure QdD (d : Int) (n : Nat) (v : List Nat) (o : Nat) : Prop where
 n1 : 1 ≤ n
 n2 : n ≤ 60
 nd : n = d.natAbs
 o12 : o = 1 ∨ o = 2
 quad : PureGood Tryz.prog 11 [i64 d] (.tup [.agg [i64 n,.sl (nI v).length (ec (nI v))],i64 0])
 lw : (nI v).length ≤ 10
 ho : o ∈ nFC
 hp : phN o o ≤ 12
 chd : ChD n (nI v) o n (nI v) (ixB o n v)
 krv : ∀ j,j < n → krB d n v o j = true
theorem qd_ok {d : Int} (h0 : d ≠ 0) (h1 : -60 ≤ d) (h2 : d ≤ 60) : (d ∈ fdL ∧ ∃ n v o,QdD d n v o) ∨ ∃ n m cs,∃ e : Nat,(1 ≤ e ∧ e ≤ 100) ∧ PureGood Tryz.prog 11 [i64 d] (.tup [.agg [.lit (.int .i64 n),.sl m cs],i64 e]) := by
 have h := qd_all h0 h1 h2
 unfold chkQd at h
 split at h
 ·rename_i n m cs e hq
  have g := evo_good orcX_ok hq
  cases hf : fdL.elem d with
  | false =>
    rw [hf,cond_false,Bool.and_eq_true,Nat.ble_eq,Nat.ble_eq] at h
    exact .inr ⟨_,m,cs,e,h,g⟩
  | true =>
    rw [hf,cond_true] at h
    have hd := List.elem_iff.1 hf
    split at h
    · rename_i v hv
      rw [fNat_eq] at h
      simp only [Bool.and_eq_true,Nat.beq_eq] at h
      obtain ⟨⟨⟨⟨⟨rfl,rfl⟩,rfl⟩,hch⟩,hor⟩,⟨⟨ho,hpr⟩,hw⟩,hkr⟩ := h
      obtain ⟨rfl,_⟩ := rdNs_ok hv
      have n2 : d.natAbs ≤ 60 := by omega
      have n1 : 1 ≤ d.natAbs := by omega
      obtain ⟨v1,v2,v3⟩ := chOk_cerr n1 n2 hch
      rw [Bool.or_eq_true,Nat.beq_eq,Nat.beq_eq] at ho
      split at hpr
      · rename_i x e' hx
        rw [Bool.and_eq_true] at hpr
        have e2 := Nat.eq_of_beq_eq_true hpr.2
        subst e2
        have e3 := isCh_ok hpr.1
        injection e3 with e3
        subst e3
        have gp := evo_good orcX_ok hx
        rw [chV_eq] at gp
        obtain ⟨⟨a1,a2,a3,a4,a5⟩,a6⟩ := chkWp_ok n2 hor gp hw
        have hkr := List.all_eq_true.1 hkr
        refine .inl ⟨hd,d.natAbs,v,ordN d.natAbs v,⟨n1,n2,rfl,ho,?_,a3,a4,a5,a6,fun j hj => hkr j (List.mem_range.2 hj)⟩⟩
        rw [nI_len]
        exact g
      · cases hpr
    · cases h
 ·cases h
theorem pwC_sub (ix : Nat → Option Nat) (k f : Nat) (c : Nat → Int) : ∀ n,(∀ j,j < n → c j = ixc ix 0 j - ixc ix 1 j) → qsum c k f n = qsum (ixc ix 0) k f n - qsum (ixc ix 1) k f n
 | 0,_ => by rw [qsum_zero,qsum_zero,qsum_zero,Rat.sub_self]
 | n + 1,h => by
   rw [qsum_succ,qsum_succ,qsum_succ,pwC_sub ix k f c n (fun j hj => h j (by omega)),h n (by omega),Rat.intCast_sub]
   grind
theorem qsum_congr {c e : Nat → Int} (k f : Nat) : ∀ n,(∀ j,j < n → c j = e j) → qsum c k f n = qsum e k f n
 | 0,_ => rfl
 | n + 1,h => by rw [qsum_succ,qsum_succ,qsum_congr k f n (fun j hj => h j (by omega)),h n (by omega)]
theorem cyF_one : rz (cyF 1) = [-1,1] := by decide +kernel
theorem cyF_two : rz (cyF 2) = [1,1] := by decide +kernel
theorem plR_one (ix : Nat → Option Nat) (k f j : Nat) : plR ix k f 1 j = [pwC ix k f j 0] := rfl
theorem plR_two (ix : Nat → Option Nat) (k f j : Nat) : plR ix k f 2 j = [pwC ix k f j 0,pwC ix k f j 1] := rfl
theorem remQ_two (a b : Rat) : remQ (rz (cyF 2)) (trimQ [a,b]) = trimQ [a - b] := by
 rw [remQ_full (by rw [cyF_two];decide),cyF_two]
 have e : divR [1,1] ([a,b].length + 1 - [(1 : Rat),1].length) [a,b] = [a - b * 1,b - b * 1] := rfl
 rw [e,Rat.mul_one,Rat.sub_self]
 exact trimQ_snoc_z [a - b]
theorem remQ_one (a : Rat) : remQ (rz (cyF 1)) (trimQ [a]) = trimQ [a] := by
 rw [remQ_full (by rw [cyF_one];decide),cyF_one]
 rfl
theorem agree_rem {d : Int} {n o k : Nat} {v : List Nat} (h : QdD d n v o) : remQ (rz (cyF o)) (trimQ (plR (ixB o n v) k n o n)) = trimQ [gB k d] := by
 have hn := h.nd
 have hk := h.krv
 have hyes := fun j i hj hi => (h.chd.yes j i hj hi).1
 rcases h.o12 with rfl | rfl
 ·rw [plR_one,remQ_one]
  congr 2
  unfold pwC gB
  rw [← hn]
  refine qsum_congr k n n (fun j hj => ?_)
  have h1 := hk j hj
  unfold krB at h1
  unfold ixc
  cases hix : ixB 1 n v j with
  | none =>
    rw [hix] at h1
    rw [eqS_ok h1,if_neg (fun e => nomatch e)]
  | some i =>
    have := hyes j i hj hix
    have hi : i = 0 := by omega
    subst hi
    rw [hix] at h1
    rw [if_pos rfl]
    exact (eqS_ok h1).symm
 ·rw [plR_two,remQ_two]
  congr 2
  unfold pwC gB
  rw [← hn]
  refine (pwC_sub (ixB 2 n v) k n _ n (fun j hj => ?_)).symm
  have h1 := hk j hj
  unfold krB at h1
  unfold ixc
  cases hix : ixB 2 n v j with
  | none =>
    rw [hix] at h1
    rw [eqS_ok h1,if_neg (fun e => nomatch e),if_neg (fun e => nomatch e)]
    rfl
  | some i =>
    have hi := hyes j i hj hix
    rw [hix] at h1
    simp only at h1
    by_cases e0 : i = 0
    · subst e0
      rw [if_pos rfl,if_neg (fun e => by injection e with e;cases e)]
      exact eqS_ok h1
    · have e1 : i = 1 := by omega
      subst e1
      rw [if_neg (fun e => by injection e with e;cases e),if_pos rfl]
      have h2 : (Nat.beq 1 1 && Nat.beq 2 2 && eqS (kr d (j + 1)) (-1)) = true := h1
      rw [Bool.and_eq_true] at h2
      exact eqS_ok h2.2
attribute [local irreducible] Go.Lg.lrun Go.Lg.lwp Go.Lg.exThen Go.Lg.exBlk Go.Lg.keep Go.Lg.goodPost ec pt gn od cerr sg mg gB
def errA (e : Int) : LV := .tup [.agg [bl false,.sl 0 [],bl false,.sl 0 []],i64 e]
theorem dq_range {d : Int} (hd : -9223372036854775808 ≤ d ∧ d ≤ 9223372036854775807) (h : d = 0 ∨ d < -60 ∨ 60 < d) : PureGood Tryz.prog 11 [i64 d] (.tup [.agg [i64 0,.sl 0 []],i64 2]) := by
 simp only [i64]
 rcases h with rfl | h | h
 ·
  refine good_of_lwp mix Tryz.func11 rfl (by decide) (nt := 37) rfl (rs := [.cell 2 25,.tmp 3]) rfl (nle rfl) ?_
  (repeat(first|refine zW ?_|refine zG8 ?_|refine zD8 ?_|refine zT8 ?_))
  exact zQ8
 ·
  refine good_of_lwp mix Tryz.func11 rfl (by decide) (nt := 37) rfl (rs := [.cell 2 25,.tmp 3]) rfl (nle rfl) ?_
  (repeat(first|refine zW ?_|refine zG8 ?_|refine zD8 ?_|refine zT8 ?_))
  exact zQ8
 ·
  refine good_of_lwp mix Tryz.func11 rfl (by decide) (nt := 37) rfl (rs := [.cell 2 25,.tmp 3]) rfl (nle rfl) ?_
  (repeat(first|refine zW ?_|refine zG8 ?_|refine zD8 ?_|refine zT8 ?_))
  exact zQ8
theorem bq_err {k d e : Int} {m : Int} {n : Nat} {cs : List LV} (hk : 1 ≤ k ∧ k ≤ 40) (he : 1 ≤ e ∧ e ≤ 100) (h : PureGood Tryz.prog 11 [i64 d] (.tup [.agg [.lit (.int .i64 m),.sl n cs],i64 e])) : PureGood Tryz.prog 20 [i64 k,i64 d] (errA e) := by
 simp only [errA,i64,bl] at *
 refine good_of_lwp mix Tryz.func20 rfl (by decide) (nt := 51) rfl (rs := [.cell 4 47,.tmp 5]) rfl (nle rfl) ?_
 (repeat(first|refine zW ?_|refine zG8 ?_|refine zD8 ?_|refine zT8 ?_))
 exact zQ8
theorem bq_range {k d : Int} (hk : -9223372036854775808 ≤ k ∧ k ≤ 9223372036854775807) (h : k < 1 ∨ 40 < k) : PureGood Tryz.prog 20 [i64 k,i64 d] (errA 2) := by
 simp only [errA,i64,bl] at *
 rcases h with h | h
 ·
  refine good_of_lwp mix Tryz.func20 rfl (by decide) (nt := 51) rfl (rs := [.cell 4 47,.tmp 5]) rfl (nle rfl) ?_
  (repeat(first|refine zW ?_|refine zG8 ?_|refine zD8 ?_|refine zT8 ?_))
  exact zQ8
 ·
  refine good_of_lwp mix Tryz.func20 rfl (by decide) (nt := 51) rfl (rs := [.cell 4 47,.tmp 5]) rfl (nle rfl) ?_
  (repeat(first|refine zW ?_|refine zG8 ?_|refine zD8 ?_|refine zT8 ?_))
  exact zQ8
theorem lawAgr_err {k d e f m : Int} {n : Nat} {cs : List LV} (he : e ≠ 0) (g1 : PureGood Tryz.prog 20 [i64 k,i64 d] (errA e)) (g2 : PureGood Tryz.prog 11 [i64 d] (.tup [.agg [.lit (.int .i64 m),.sl n cs],i64 f])) : PureGood Tryz.prog 5 [i64 k,i64 d] (bl true) := by
 have ga := awake_good
 simp only [errA,i64,bl] at *
 refine good_of_lwp mix Tryz.func5 rfl (by decide) (nt := 60) rfl (rs := [.tmp 4]) rfl (nle rfl) ?_
 (repeat(first|refine zW ?_|refine zG8 ?_|refine zD8 ?_|refine zT8 ?_))
 exact zQ8
theorem lawAgr_in {k : Int} {d : Int} {n o : Nat} {v : List Int} {G : Rat} (hG : lq G ≤ 1000) (ho : o ≤ 2) (g1 : PureGood Tryz.prog 20 [i64 k, i64 d] (.tup [encQ G, i64 0])) (g2 : PureGood Tryz.prog 11 [i64 d] (.tup [.agg [i64 n, .sl v.length (ec v)], i64 0])) (g3 : PureGood Tryz.prog 17 [i64 k, .agg [i64 n, .sl v.length (ec v)]] (.tup [encF (trimQ [G]), i64 o, i64 0])) :
  PureGood Tryz.prog 5 [i64 k,i64 d] (bl true) := by
 have ga := awake_good
 by_cases h0 : G = 0
 ·subst h0
  have e0 : trimQ [(0 : Rat)] = [] := trimQ_snoc_z []
  have gs := qsign_good 0 (by decide +kernel)
  rw [show (0 : Rat).num.sign = 0 from rfl] at gs
  rw [e0,encF_qc] at g3
  have e1 : qc [] = [] := rfl
  rw [e1,List.length_nil] at g3
  simp only [encQ_sm] at *
  generalize ec v = cx at *
  simp only [i64,bl] at *
  refine good_of_lwp mix Tryz.func5 rfl (by decide) (nt := 60) rfl (rs := [.tmp 4]) rfl (nle rfl) ?_
  (repeat(first|refine zW ?_|refine zG8 ?_|refine zD8 ?_|refine zT8 ?_))
  exact zQ8
 ·have e0 : trimQ [G] = [G] := trimQ_snoc_nz [] h0
  have gs := sameRat_good G G (by omega) (by omega)
  rw [decide_eq_true rfl] at gs
  rw [e0,encF_qc,← qc_one] at g3
  simp only [List.length_cons,List.length_nil] at g3
  simp only [encQ_sm] at *
  generalize ec v = cx at *
  simp only [i64,bl] at *
  refine good_of_lwp mix Tryz.func5 rfl (by decide) (nt := 60) rfl (rs := [.tmp 4]) rfl (nle rfl) ?_
  (repeat(first|refine zW ?_|refine zG8 ?_|refine zD8 ?_|refine zT8 ?_))
  exact zQ8
theorem lawAgree_good (k d : Int) (hk : -9223372036854775808 ≤ k ∧ k ≤ 9223372036854775807) (hd : -9223372036854775808 ≤ d ∧ d ≤ 9223372036854775807) : PureGood Tryz.prog 5 [i64 k,i64 d] (.lit (.bool true)) := by
 by_cases h0 : d = 0 ∨ d < -60 ∨ 60 < d
 ·have g2 := dq_range hd h0
  by_cases h2 : k < 1 ∨ 40 < k
  ·exact lawAgr_err (by omega) (bq_range hk h2) g2
  ·exact lawAgr_err (e := 2) (by omega) (bq_err (by omega) (by omega) g2) g2
 ·rcases qd_ok (d := d) (by omega) (by omega) (by omega) with ⟨hfd,n,v,o,h⟩ | ⟨n,m,cs,e,he,g2⟩
  ·by_cases h2 : k < 1 ∨ 40 < k
   ·exact lawAgr_err (by omega) (bq_range hk h2) h.quad
   ·obtain ⟨kn,rfl⟩ : ∃ j : Nat,k = j := ⟨k.toNat,by omega⟩
    have g1 := quadB_of hfd ⟨_,_,_,h.quad⟩ kn (by omega) (by omega)
    obtain ⟨g3,_,_⟩ := bcharP_small (k := kn) (by omega) (by omega) ⟨h.n1,h.n2,h.lw,h.ho,h.hp⟩ h.chd
    rw [agree_rem h] at g3
    have ls := lq_qsum (c := fun j => kr d (j + 1)) (k := kn) (f := d.natAbs) (fun j hj => (kr_val hfd (n := j + 1) (by omega) (by have := h.nd;have := h.n2;omega)).2) (by omega) (by have := h.nd;have := h.n1;omega) (by have := h.nd;have := h.n2;omega) (n := d.natAbs) (Nat.le_refl _)
    exact lawAgr_in (by unfold gB;omega) (by rcases h.o12 with h | h <;> omega) g1 h.quad g3
  ·by_cases h2 : k < 1 ∨ 40 < k
   ·exact lawAgr_err (by omega) (bq_range hk h2) g2
   ·exact lawAgr_err (e := e) (by omega) (bq_err (by omega) (by omega) g2) g2
end Go.Proofs.YtaidcaemdkncgaaGreatDoor