/- Contracts of functions of the program, and what proves them (texts: G6c Q7). -/
import Derived.Test.YtpkjokknpbclhaaGreatZAV
import Derived.Test.YtpkjokknpbclhaaGreatZAW
set_option linter.all false
namespace Go.Proofs.YtpkjokknpbclhaaGreat
open Go Go.Lg Go.Num
set_option maxRecDepth 100000
theorem fc_mem : ∀ n ∈ nFC,chkFC n = true := by
 simp only [nFC,List.forall_mem_cons]
 exact ⟨fc_1,fc_2,fc_3,fc_4,fc_5,fc_6,fc_7,fc_8,fc_9,fc_10,fc_11,fc_12,fc_13,fc_14,fc_15,fc_16,fc_18,fc_20,fc_21,fc_22,fc_24,fc_26,fc_28,fc_30,fc_36,fc_42,by simp⟩
theorem field_good {n : Nat} (h : n ∈ nFC) : PureGood Tryz.prog 42 [i64 n] (.tup [.agg [.sl (cyF n).length (wrI2 (cyF n))],i64 0]) := by
 have h := fc_mem n h
 unfold chkFC at h
 rw [Bool.and_eq_true] at h
 have h := h.1
 unfold chkFi at h
 split at h
 ·rename_i k cs e h1
  split at h
  ·rename_i l hl
   rw [Bool.and_eq_true,Bool.and_eq_true] at h
   have e1 := Nat.eq_of_beq_eq_true h.1.1
   have e2 := Nat.eq_of_beq_eq_true h.1.2
   have e3 := eqZ_ok h.2
   subst e1
   subst e2
   subst e3
   rw [← rdI2_ok hl]
   exact evo_good orcP2_ok h1
  ·cases h
 ·cases h
theorem cyc29_good {n : Nat} (h : n ∈ nFC) : PureGood Tryz.prog 55 [i64 n] (.sl (cyF n).length (ec (cyF n))) := by
 have h := fc_mem n h
 unfold chkFC at h
 rw [Bool.and_eq_true] at h
 have h := h.2
 unfold chkCy at h
 split at h
 ·rename_i k cs h1
  split at h
  ·rename_i l hl
   rw [Bool.and_eq_true] at h
   have e1 := Nat.eq_of_beq_eq_true h.1
   have e3 := eqZ_ok h.2
   subst e1
   subst e3
   rw [← (rdZi_ok hl).1]
   exact evo_good orcP2_ok h1
  ·cases h
 ·cases h
def orcFi (args : List LV) : Option LV := match args with
 | [.lit (.int .i64 (.ofNat n))] => bif nFC.elem n then some (.tup [.agg [.sl (cyF n).length (wrI2 (cyF n))],.lit (.int .i64 0)]) else none
 | _ => none
def orcCy (args : List LV) : Option LV := match args with
 | [.lit (.int .i64 (.ofNat n))] => bif nFC.elem n then some (.sl (cyF n).length (ec (cyF n))) else none
 | _ => none
theorem orcFi_ok {args : List LV} {r : LV} (h : orcFi args = some r) : PureGood Tryz.prog 42 args r := by
 unfold orcFi at h
 split at h
 ·rename_i n
  cases hb : nFC.elem n with
  | true => rw [hb] at h;cases h;exact field_good (List.elem_iff.1 hb)
  | false => rw [hb] at h;cases h
 ·cases h
theorem orcCy_ok {args : List LV} {r : LV} (h : orcCy args = some r) : PureGood Tryz.prog 55 args r := by
 unfold orcCy at h
 split at h
 ·rename_i n
  cases hb : nFC.elem n with
  | true => rw [hb] at h;cases h;exact cyc29_good (List.elem_iff.1 hb)
  | false => rw [hb] at h;cases h
 ·cases h
def orcF (f : FuncId) (args : List LV) : Option LV := bif Nat.beq f 42 then orcFi args else bif Nat.beq f 55 then orcCy args else orcP2 f args
theorem orcF_ok : OrcOk Tryz.prog orcF := by
 intro f args r h
 exact orc_cons (f0 := 42) (g := orcFi) (fun _ _ h => orcFi_ok h) (orc_cons (f0 := 55) (g := orcCy) (fun _ _ h => orcCy_ok h) orcP2_ok) f args r h
end Go.Proofs.YtpkjokknpbclhaaGreat
namespace Go.Proofs.YtpkjokknpbclhaaGreat
open Go Go.Lg Go.Num
set_option maxRecDepth 100000
set_option maxHeartbeats 4000000
attribute [local irreducible] Go.Lg.lrun Go.Lg.lwp Go.Lg.exThen Go.Lg.exBlk Go.Lg.keep Go.Lg.goodPost ec
theorem root_good (n d : Nat) (hd1 : 1 ≤ d) (hd : d ≤ 1000000000) (hn : n ≤ 1000000000000) : PureGood Tryz.prog 51 [i64 n,i64 d] (.agg [.lit (.bool false),i64 ((n % d / Nat.gcd (n % d) d : Nat) : Int),i64 ((d / Nat.gcd (n % d) d : Nat) : Int)]) := by
 have hlt := Nat.mod_lt n hd1
 have gm : PureGood Tryz.prog 53 [i64 n,i64 d] (i64 ((n % d : Nat) : Int)) := by
  have e : (n : Int).tmod d = ((n % d : Nat) : Int) := by rw [Int.tmod_eq_emod_of_nonneg (by omega)];rfl
  have e2 : ¬ ((n % d : Nat) : Int) < 0 := by omega
  generalize hr : n % d = r at *
  simp only [i64]
  refine good_of_lwp mix Tryz.func53 rfl (by decide) (nt := 15) rfl (rs := [.tmp 4]) rfl (nle rfl) ?_
  (repeat (first|apply zO (by decide +kernel)|apply zP (by decide +kernel)|(apply zS;(case h=>constructor<;>decide))|((first|apply l_go rfl|apply c_dec|apply zT rfl (by decide) rfl);(case hs=>(simp (disch := first|omega|exact kD rfl|exact kX rfl) only [smY,simprocAttr,bl,i64,e,hr];exact rfl));first|refine c_bt ?_|refine c_bf ?_|refine zq ?_|(case hg=>assumption))))
  ((first|apply g_ret|apply g_end);case hres => (simp only [smR];simp (disch := first|omega|exact kD rfl|exact kX rfl) only [smY,simprocAttr,bl,i64,e,hr];exact rfl))
  simp (disch := first|omega|exact kD rfl|exact kX rfl) only [smY,simprocAttr,bl,i64,e,hr]
 have gg := gcd18_good ((n % d : Nat) : Int) (d : Int) (by omega) (by omega)
 have hg : Int.gcd ((n % d : Nat) : Int) (d : Int) = Nat.gcd (n % d) d := rfl
 rw [hg] at gg
 have hgp : 0 < Nat.gcd (n % d) d := Nat.gcd_pos_of_pos_right _ hd1
 have hgl : Nat.gcd (n % d) d ≤ d := Nat.le_of_dvd hd1 (Nat.gcd_dvd_right _ _)
 generalize n % d = r at *
 generalize Nat.gcd r d = g at *
 have q1 : ((r : Int)).tdiv (g : Int) = ((r / g : Nat) : Int) := by rw [Int.tdiv_eq_ediv_of_nonneg (by omega)];rfl
 have q2 : ((d : Int)).tdiv (g : Int) = ((d / g : Nat) : Int) := by rw [Int.tdiv_eq_ediv_of_nonneg (by omega)];rfl
 have b1 : r / g ≤ r := Nat.div_le_self _ _
 have b2 : d / g ≤ d := Nat.div_le_self _ _
 have hg0 : ¬ (g : Int) = 0 := by omega
 generalize hx : r / g = x at *
 generalize hy : d / g = y at *
 simp only [i64] at *
 refine good_of_lwp mix Tryz.func51 rfl (by decide) (nt := 19) rfl (rs := [.cell 4 52]) rfl (nle rfl) ?_
 (repeat (first|apply zO (by decide +kernel)|apply zP (by decide +kernel)|(apply zS;(case h=>constructor<;>decide))|((first|apply l_go rfl|apply c_dec|apply zT rfl (by decide) rfl);(case hs=>(simp (disch := first|omega|exact kD rfl|exact kX rfl) only [smY,simprocAttr,bl,i64,q1,q2,hx,hy];exact rfl));first|refine c_bt ?_|refine c_bf ?_|refine zq ?_|(case hg=>assumption))))
 ((first|apply g_ret|apply g_end);case hres => (simp only [smR];simp (disch := first|omega|exact kD rfl|exact kX rfl) only [smY,simprocAttr,bl,i64,q1,q2,hx,hy];exact rfl))
 simp (disch := first|omega|exact kD rfl|exact kX rfl) only [smY,simprocAttr,bl,i64,q1,q2,hx,hy]
theorem rtimes28_good (a b c d : Nat) (ha : a ≤ 1000) (hb : 1 ≤ b ∧ b ≤ 1000) (hc : c ≤ 1000) (hd : 1 ≤ d ∧ d ≤ 1000) : PureGood Tryz.prog 52 [.agg [.lit (.bool false),i64 a,i64 b],.agg [.lit (.bool false),i64 c,i64 d]] (.agg [.lit (.bool false),i64 (((a * d + c * b) % (b * d) / Nat.gcd ((a * d + c * b) % (b * d)) (b * d) : Nat) : Int),i64 ((b * d / Nat.gcd ((a * d + c * b) % (b * d)) (b * d) : Nat) : Int)]) := by
 have m1 : a * d ≤ 1000 * 1000 := Nat.mul_le_mul (by omega) (by omega)
 have m2 : c * b ≤ 1000 * 1000 := Nat.mul_le_mul (by omega) (by omega)
 have m3 : b * d ≤ 1000 * 1000 := Nat.mul_le_mul (by omega) (by omega)
 have m4 : 1 ≤ b * d := Nat.mul_pos hb.1 hd.1
 have g := root_good (a * d + c * b) (b * d) m4 (by omega) (by omega)
 have e1 : (a : Int) * (d : Int) = ((a * d : Nat) : Int) := by simp
 have e2 : (c : Int) * (b : Int) = ((c * b : Nat) : Int) := by simp
 have e3 : (b : Int) * (d : Int) = ((b * d : Nat) : Int) := by simp
 have e4 : ((a * d : Nat) : Int) + ((c * b : Nat) : Int) = ((a * d + c * b : Nat) : Int) := by simp
 generalize a * d = ad at *
 generalize c * b = cb at *
 generalize b * d = bd at *
 generalize hs : ad + cb = s at *
 generalize s % bd / Nat.gcd (s % bd) bd = x at *
 generalize bd / Nat.gcd (s % bd) bd = y at *
 simp only [i64] at *
 refine good_of_lwp mix Tryz.func52 rfl (by decide) (nt := 29) rfl (rs := [.cell 4 52]) rfl (nle rfl) ?_
 (repeat (first|apply zO (by decide +kernel)|apply zP (by decide +kernel)|(apply zS;(case h=>constructor<;>decide))|((first|apply l_go rfl|apply c_dec|apply zT rfl (by decide) rfl);(case hs=>(simp (disch := first|omega|exact kD rfl|exact kX rfl) only [smY,simprocAttr,bl,i64,e1,e2,e3,e4];exact rfl));first|refine c_bt ?_|refine c_bf ?_|refine zq ?_|(case hg=>assumption))))
 ((first|apply g_ret|apply g_end);case hres => (simp only [smR];simp (disch := first|omega|exact kD rfl|exact kX rfl) only [smY,simprocAttr,bl,i64,e1,e2,e3,e4];exact rfl))
 simp (disch := first|omega|exact kD rfl|exact kX rfl) only [smY,simprocAttr,bl,i64,e1,e2,e3,e4]
def orcRt (args : List LV) : Option LV := match args with
 | [.lit (.int .i64 (.ofNat n)),.lit (.int .i64 (.ofNat d))] => bif Nat.ble 1 d && Nat.ble d 1000000000 && Nat.ble n 1000000000000 then fNat (n % d) fun r => fNat (Nat.gcd r d) fun g => fNat (r / g) fun x => fNat (d / g) fun y => some (.agg [.lit (.bool false),.lit (.int .i64 (.ofNat x)),.lit (.int .i64 (.ofNat y))]) else none
 | _ => none
theorem orcRt_ok {args : List LV} {r : LV} (h : orcRt args = some r) : PureGood Tryz.prog 51 args r := by
 unfold orcRt at h
 split at h
 ·rename_i n d
  cases hb : (Nat.ble 1 d && Nat.ble d 1000000000 && Nat.ble n 1000000000000) with
  | false => rw [hb,cond_false] at h;cases h
  | true =>
    rw [hb,cond_true,fNat_eq,fNat_eq,fNat_eq,fNat_eq] at h
    cases h
    simp only [Bool.and_eq_true,Nat.ble_eq] at hb
    exact root_good n d hb.1.1 hb.1.2 hb.2
 ·cases h
def orcTm (args : List LV) : Option LV := match args with
 | [.agg [.lit (.bool false),.lit (.int .i64 (.ofNat a)),.lit (.int .i64 (.ofNat b))],.agg [.lit (.bool false),.lit (.int .i64 (.ofNat c)),.lit (.int .i64 (.ofNat d))]] => bif Nat.ble a 1000 && (Nat.ble 1 b && Nat.ble b 1000) && Nat.ble c 1000 && (Nat.ble 1 d && Nat.ble d 1000) then fNat (b * d) fun m => fNat ((a * d + c * b) % m) fun r => fNat (Nat.gcd r m) fun g => fNat (r / g) fun x => fNat (m / g) fun y => some (.agg [.lit (.bool false),.lit (.int .i64 (.ofNat x)),.lit (.int .i64 (.ofNat y))]) else none
 | _ => none
theorem orcTm_ok {args : List LV} {r : LV} (h : orcTm args = some r) : PureGood Tryz.prog 52 args r := by
 unfold orcTm at h
 split at h
 ·rename_i a b c d
  cases hb : (Nat.ble a 1000 && (Nat.ble 1 b && Nat.ble b 1000) && Nat.ble c 1000 && (Nat.ble 1 d && Nat.ble d 1000)) with
  | false => rw [hb,cond_false] at h;cases h
  | true =>
    rw [hb,cond_true,fNat_eq,fNat_eq,fNat_eq,fNat_eq,fNat_eq] at h
    cases h
    simp only [Bool.and_eq_true,Nat.ble_eq] at hb
    exact rtimes28_good a b c d hb.1.1.1 hb.1.1.2 hb.1.2 hb.2
 ·cases h
def orcR (f : FuncId) (args : List LV) : Option LV := bif Nat.beq f 51 then orcRt args else bif Nat.beq f 52 then orcTm args else orcF f args
theorem orcR_ok : OrcOk Tryz.prog orcR := by
 intro f args r h
 exact orc_cons (f0 := 51) (g := orcRt) (fun _ _ h => orcRt_ok h) (orc_cons (f0 := 52) (g := orcTm) (fun _ _ h => orcTm_ok h) orcF_ok) f args r h
end Go.Proofs.YtpkjokknpbclhaaGreat