/- Contracts of functions of the program, and what proves them (texts: G5). -/
import Derived.KernelRfl
import Derived.Test.YtlbckpljefadpaaGreatZFinFieldsAA
set_option linter.all false
namespace Go.Proofs.YtlbckpljefadpaaGreat
open Go Go.Lg Go.Num
set_option maxRecDepth 100000
set_option maxHeartbeats 4000000
theorem awake_good : PureGood Tryz.prog 12 [] (.lit (.bool true)) := evo_good orcG_ok (by kernel_rfl)
def orcT (args : List LV) : Option LV := match args with
 | [] => some (.lit (.bool true))
 | _ => none
theorem orcT_ok {args : List LV} {r : LV} (h : orcT args = some r) : PureGood Tryz.prog 12 args r := by
 unfold orcT at h
 split at h
 ·cases h
  exact awake_good
 ·cases h
def orcCp (args : List LV) : Option LV := match args with
 | [.agg [.lit (.int .i64 (.ofNat m)),.sl k cs]] => match rdNs cs with
   | some l => bif Nat.ble m 1000 && Nat.beq k l.length && Nat.ble k 1000 then some (.agg [.lit (.int .i64 (.ofNat m)),.sl k cs]) else none
   | none => none
 | _ => none
theorem orcCp_ok {args : List LV} {r : LV} (h : orcCp args = some r) : PureGood Tryz.prog 14 args r := by
 unfold orcCp at h
 split at h
 ·rename_i m k cs
  split at h
  ·rename_i l hl
   cases hb : (Nat.ble m 1000 && Nat.beq k l.length && Nat.ble k 1000) with
   | true =>
     rw [hb] at h
     cases h
     simp only [Bool.and_eq_true,Nat.ble_eq,Nat.beq_eq] at hb
     obtain ⟨⟨h1,rfl⟩,h3⟩ := hb
     obtain ⟨rfl,_⟩ := rdNs_ok hl
     have := copy_good (m : Int) (nI l) (by omega) (by rw [nI_len];omega)
     rw [nI_len] at this
     exact this
   | false => rw [hb] at h;cases h
  ·cases h
 ·cases h
def orcA (f : FuncId) (args : List LV) : Option LV := bif Nat.beq f 12 then orcT args else bif Nat.beq f 14 then orcCp args else orcG f args
theorem orcA_ok : OrcOk Tryz.prog orcA := by
 intro f args r h
 exact orc_cons (f0 := 12) (g := orcT) (fun _ _ h => orcT_ok h) (orc_cons (f0 := 14) (g := orcCp) (fun _ _ h => orcCp_ok h) orcG_ok) f args r h
def chV (n : Nat) (v : List Nat) : LV := .agg [.lit (.int .i64 (.ofNat n)),.sl v.length (encNs v)]
theorem chV_eq (n : Nat) (v : List Nat) : chV n v = .agg [i64 n,.sl (nI v).length (ec (nI v))] := by
 unfold chV
 rw [encNs_eq,nI_len]
 rfl
noncomputable def chkL (f n : Nat) (v : List Nat) : Bool := match evo orcA f [chV n v] with
 | some (.lit (.bool b)) => b
 | _ => false
theorem chkL_ok {f n : Nat} {v : List Nat} (h : chkL f n v = true) : PureGood Tryz.prog f [.agg [i64 n,.sl (nI v).length (ec (nI v))]] (.lit (.bool true)) := by
 unfold chkL at h
 split at h
 ·rename_i b e
  rw [← chV_eq]
  subst h
  exact evo_good orcA_ok e
 ·cases h
theorem cerr_ok {m : Int} {l : List Int} (h : cerr m l = 0) : ∃ n : Nat,m = n ∧ 1 ≤ n ∧ n ≤ 60 ∧ ∃ v ∈ prodN (od n),l = nI v := by
 unfold cerr at h
 split at h
 ·rename_i h1
  obtain ⟨n,rfl⟩ : ∃ n : Nat,m = n := ⟨m.toNat,by omega⟩
  rw [Int.toNat_natCast] at h
  split at h
  ·rename_i h2
   split at h
   ·rename_i h3
    exact ⟨n,rfl,by omega,by omega,exOk_nat h2 h3⟩
   ·cases h
  ·cases h
 ·cases h
attribute [local irreducible] Go.Lg.lrun Go.Lg.lwp Go.Lg.exThen Go.Lg.exBlk Go.Lg.keep Go.Lg.goodPost ec pt gn od cerr
theorem lawFields_of (hall : ∀ n,1 ≤ n → n ≤ 60 → ∀ v ∈ prodN (od n),chkL 3 n v = true) (m : Int) (l : List Int) (hm : -9223372036854775808 ≤ m ∧ m ≤ 9223372036854775807) : PureGood Tryz.prog 3 [.agg [i64 m,.sl l.length (ec l)]] (.lit (.bool true)) := by
 have ga := awake_good
 have gm := many_good m l
 by_cases h1 : 100 < l.length
 ·rw [dec_t h1] at gm
  simp only [i64,bl] at *
  refine good_of_lwp mix Tryz.func3 rfl (by decide) (nt := 31) rfl (rs := [.tmp 2]) rfl (nle rfl) ?_
  (repeat (first|apply zO (by decide +kernel)|apply zP (by decide +kernel)|(apply zS;(case h=>constructor<;>decide))|((first|apply l_go rfl|apply c_dec|apply zT rfl (by decide) rfl);(case hs=>(simp (disch := first|omega|exact kD rfl|exact kX rfl) only [smY,simprocAttr,bl,i64,smE];exact rfl));first|refine c_bt ?_|refine c_bf ?_|refine zq ?_|(case hg=>assumption))))
  ((first|apply g_ret|apply g_end);case hres => (simp only [smR];simp (disch := first|omega|exact kD rfl|exact kX rfl) only [smY,simprocAttr,bl,i64,smE];exact rfl))
  simp (disch := first|omega|exact kD rfl|exact kX rfl) only [smY,simprocAttr,bl,i64,smE]
 ·rw [dec_f h1] at gm
  have hb : ChB m l := ⟨hm,by omega⟩
  by_cases he : cerr m l = 0
  ·obtain ⟨n,rfl,n1,n2,v,hv,rfl⟩ := cerr_ok he
   exact chkL_ok (hall n n1 n2 v hv)
  ·have gc := copy_good m l hb.m1 hb.ln
   have s0 := same0
   have e1 := order_err hb he
   have e2 := cond_err hb he
   have e3 := gfield_err hb he
   have e4 := rfield29_err hb he
   have e5 := gauss_err hb he
   have e6 := rgauss_err hb he
   generalize cerr m l = e at *
   simp only [i64,bl] at *
   refine good_of_lwp mix Tryz.func3 rfl (by decide) (nt := 31) rfl (rs := [.tmp 2]) rfl (nle rfl) ?_
   (repeat (first|apply zO (by decide +kernel)|apply zP (by decide +kernel)|(apply zS;(case h=>constructor<;>decide))|((first|apply l_go rfl|apply c_dec|apply zT rfl (by decide) rfl);(case hs=>(simp (disch := first|omega|exact kD rfl|exact kX rfl) only [smY,simprocAttr,bl,i64,smE];exact rfl));first|refine c_bt ?_|refine c_bf ?_|refine zq ?_|(case hg=>assumption))))
   ((first|apply g_ret|apply g_end);case hres => (simp only [smR];simp (disch := first|omega|exact kD rfl|exact kX rfl) only [smY,simprocAttr,bl,i64,smE];exact rfl))
   simp (disch := first|omega|exact kD rfl|exact kX rfl) only [smY,simprocAttr,bl,i64,smE]
end Go.Proofs.YtlbckpljefadpaaGreat