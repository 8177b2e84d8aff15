/- Contracts of functions of the program, and what proves them (texts: BC11). -/
import Derived.Test.YtaidcaemdkncgaaGreatDoorZAO
import Derived.Test.YtaidcaemdkncgaaGreatDoorZBE
set_option linter.all false
set_option maxRecDepth 100000
set_option maxHeartbeats 8000000
namespace Go.Proofs.YtaidcaemdkncgaaGreatDoor
open Go Go.Lg Go.Num
noncomputable def chkFl (o : Nat) : Bool := Nat.ble (phK o) 12 || (match evo orcX 48 [.lit (.int .i64 (.ofNat o))] with
 | some (.tup [.agg [.sl 0 []],.lit (.int .i64 (.ofNat e))]) => Nat.ble 1 e && Nat.ble e 100
 | _ => false)
theorem fl_all : ((List.range 61).drop 1).all chkFl = true := by kernel_rfl
theorem fl_good {o : Nat} (h1 : 1 ≤ o) (h2 : o ≤ 60) (hp : 12 < phN o o) : ∃ e : Nat,(1 ≤ e ∧ e ≤ 100) ∧ PureGood Tryz.prog 48 [i64 o] (.tup [.agg [.sl 0 []],i64 e]) := by
 have h := List.all_eq_true.1 fl_all o (by
  have : (List.range 61).drop 1 = List.range' 1 60 := rfl
  rw [this,List.mem_range'_1];omega)
 unfold chkFl at h
 rw [Bool.or_eq_true,phK_eq,Nat.ble_eq] at h
 rcases h with h | h
 ·omega
 ·split at h
  ·rename_i e he
   rw [Bool.and_eq_true,Nat.ble_eq,Nat.ble_eq] at h
   exact ⟨e,h,evo_good orcX_ok he⟩
  ·cases h
attribute [local irreducible] Go.Lg.lrun Go.Lg.lwp Go.Lg.exThen Go.Lg.exBlk Go.Lg.keep Go.Lg.goodPost ec pt gn od cerr sg mg
def errC (e : Int) : LV := .tup [.sl 0 [],i64 0,i64 e]
theorem bcharP_range {k : Int} (hk : -9223372036854775808 ≤ k ∧ k ≤ 9223372036854775807) (h : k < 1 ∨ 40 < k) (m : Int) (x : LV) (hx : ∃ n cs,x = .sl n cs) : PureGood Tryz.prog 17 [i64 k,.agg [i64 m,x]] (errC 2) := by
 obtain ⟨n,cs,rfl⟩ := hx
 unfold errC
 simp only [i64] at *
 rcases h with h | h
 ·
  refine good_of_lwp mix Tryz.func17 rfl (by decide) (nt := 91) rfl (rs := [.tmp 4,.tmp 5,.tmp 6]) rfl (nle rfl) ?_
  (repeat(first|refine zW ?_|refine zG5 ?_|refine zD5 ?_|refine zT5 ?_))
  exact zQ5
 ·
  refine good_of_lwp mix Tryz.func17 rfl (by decide) (nt := 91) rfl (rs := [.tmp 4,.tmp 5,.tmp 6]) rfl (nle rfl) ?_
  (repeat(first|refine zW ?_|refine zG5 ?_|refine zD5 ?_|refine zT5 ?_))
  exact zQ5
theorem bcharR_range {k : Int} (hk : -9223372036854775808 ≤ k ∧ k ≤ 9223372036854775807) (h : k < 1 ∨ 40 < k) (m : Int) (x : LV) (hx : ∃ n cs,x = .sl n cs) : PureGood Tryz.prog 19 [i64 k,.agg [i64 m,x]] (errC 2) := by
 obtain ⟨n,cs,rfl⟩ := hx
 unfold errC
 simp only [i64] at *
 rcases h with h | h
 ·
  refine good_of_lwp mix Tryz.func19 rfl (by decide) (nt := 86) rfl (rs := [.tmp 4,.tmp 5,.tmp 6]) rfl (nle rfl) ?_
  (repeat(first|refine zW ?_|refine zG5 ?_|refine zD5 ?_|refine zT5 ?_))
  exact zQ5
 ·
  refine good_of_lwp mix Tryz.func19 rfl (by decide) (nt := 86) rfl (rs := [.tmp 4,.tmp 5,.tmp 6]) rfl (nle rfl) ?_
  (repeat(first|refine zW ?_|refine zG5 ?_|refine zD5 ?_|refine zT5 ?_))
  exact zQ5
theorem bcharP_err {k : Int} (h1 : 1 ≤ k) (h2 : k ≤ 40) {m : Int} {l : List Int} (hb : ChB m l) (he : ¬ cerr m l = 0) : PureGood Tryz.prog 17 [i64 k,.agg [i64 m,.sl l.length (ec l)]] (errC (cerr m l)) := by
 have g1 := order_err hb he
 have hv := cerr_val m l
 generalize cerr m l = e at *
 unfold errC
 simp only [i64] at *
 refine good_of_lwp mix Tryz.func17 rfl (by decide) (nt := 91) rfl (rs := [.tmp 4,.tmp 5,.tmp 6]) rfl (nle rfl) ?_
 (repeat(first|refine zW ?_|refine zG5 ?_|refine zD5 ?_|refine zT5 ?_))
 exact zQ5
theorem bcharR_err {k : Int} (h1 : 1 ≤ k) (h2 : k ≤ 40) {m : Int} {l : List Int} (hb : ChB m l) (he : ¬ cerr m l = 0) : PureGood Tryz.prog 19 [i64 k,.agg [i64 m,.sl l.length (ec l)]] (errC (cerr m l)) := by
 have g2 := rcheck28_good m l hb.m1 hb.ln
 have hv := cerr_val m l
 generalize cerr m l = e at *
 unfold errC
 simp only [i64] at *
 refine good_of_lwp mix Tryz.func19 rfl (by decide) (nt := 86) rfl (rs := [.tmp 4,.tmp 5,.tmp 6]) rfl (nle rfl) ?_
 (repeat(first|refine zW ?_|refine zG5 ?_|refine zD5 ?_|refine zT5 ?_))
 exact zQ5
theorem bcharP_large {k : Int} (h1 : 1 ≤ k) (h2 : k ≤ 40) {n o : Nat} {v : List Nat} (hb : ChB n (nI v)) (he : cerr n (nI v) = 0) (o1 : 1 ≤ o) (o2 : o ≤ 60) (go : PureGood Tryz.prog 56 [.agg [i64 n, .sl (nI v).length (ec (nI v))]] (.tup [i64 o, i64 0])) (hp : 12 < phN o o) :
  PureGood Tryz.prog 17 [i64 k,.agg [i64 n,.sl (nI v).length (ec (nI v))]] (errC 7) := by
 obtain ⟨e,he2,gf⟩ := fl_good o1 o2 hp
 unfold errC
 simp only [i64] at *
 refine good_of_lwp mix Tryz.func17 rfl (by decide) (nt := 91) rfl (rs := [.tmp 4,.tmp 5,.tmp 6]) rfl (nle rfl) ?_
 (repeat(first|refine zW ?_|refine zG5 ?_|refine zD5 ?_|refine zT5 ?_))
 exact zQ5
theorem bcharR_large {k : Int} (h1 : 1 ≤ k) (h2 : k ≤ 40) {n o : Nat} {v : List Nat} (hb : ChB n (nI v)) (he : cerr n (nI v) = 0) (o1 : 1 ≤ o) (o2 : o ≤ 60) (gro : PureGood Tryz.prog 62 [.agg [i64 n, .sl (nI v).length (ec (nI v))]] (i64 o)) (hp : 12 < phN o o) :
  PureGood Tryz.prog 19 [i64 k,.agg [i64 n,.sl (nI v).length (ec (nI v))]] (errC 7) := by
 have g2 := rcheck28_good n (nI v) hb.m1 hb.ln
 rw [he] at g2
 have gp := phi28_good o (by omega)
 have gpl := phN_le o o
 generalize phN o o = p at *
 unfold errC
 simp only [i64] at *
 refine good_of_lwp mix Tryz.func19 rfl (by decide) (nt := 86) rfl (rs := [.tmp 4,.tmp 5,.tmp 6]) rfl (nle rfl) ?_
 (repeat(first|refine zW ?_|refine zG5 ?_|refine zD5 ?_|refine zT5 ?_))
 exact zQ5
theorem lawChars_in {k : Int} {m : Int} {l : List Int} (hb : ChB m l) (hl : ¬ 100 < l.length) {R : List Rat} {o e : Int} (g1 : PureGood Tryz.prog 17 [i64 k, .agg [i64 m, .sl l.length (ec l)]] (.tup [encF R, i64 o, i64 e])) (g2 : PureGood Tryz.prog 19 [i64 k, .agg [i64 m, .sl l.length (ec l)]] (.tup [encF R, i64 o, i64 e]))
  (hR : ∀ c ∈ R,lq c ≤ 100000) (hRl : R.length ≤ 1000) (he : 0 ≤ e ∧ e ≤ 1000) : PureGood Tryz.prog 4 [i64 k,.agg [i64 m,.sl l.length (ec l)]] (bl true) := by
 have ga := awake_good
 have gc := copy_good m l hb.m1 hb.ln
 have gs := sameRats_self R hR (by omega)
 have hb2 := hb.ln
 simp only [encF_qc] at *
 generalize qc R = cR at *
 generalize ec l = cx at *
 simp only [i64,bl] at *
 refine good_of_lwp mix Tryz.func4 rfl (by decide) (nt := 46) rfl (rs := [.tmp 4]) rfl (nle rfl) ?_
 (repeat(first|refine zW ?_|refine zG5 ?_|refine zD5 ?_|refine zT5 ?_))
 exact zQ5
theorem lawChars_many (k : Int) (m : Int) (l : List Int) (hl : 100 < l.length) : PureGood Tryz.prog 4 [i64 k,.agg [i64 m,.sl l.length (ec l)]] (bl true) := by
 have ga := awake_good
 generalize ec l = cx at *
 simp only [i64,bl] at *
 refine good_of_lwp mix Tryz.func4 rfl (by decide) (nt := 46) rfl (rs := [.tmp 4]) rfl (nle rfl) ?_
 (repeat(first|refine zW ?_|refine zG5 ?_|refine zD5 ?_|refine zT5 ?_))
 exact zQ5
theorem errC_enc (e : Int) : errC e = .tup [encF [],i64 0,i64 e] := by rw [encF_qc];rfl
theorem mem_getD {R : List Rat} {P : Rat → Prop} (h : ∀ j,P (R.getD j 0)) : ∀ c ∈ R,P c := by
 intro c hc
 obtain ⟨j,hj,rfl⟩ := List.getElem_of_mem hc
 have := h j
 rwa [show R.getD j 0 = R[j] by simp [List.getD,hj]] at this
theorem bcharP_small {k : Nat} (k1 : 1 ≤ k) (k2 : k ≤ 40) {n o f : Nat} {v w : List Int} {ix : Nat → Option Nat} (hf : 1 ≤ f ∧ f ≤ 60 ∧ w.length ≤ 10 ∧ o ∈ nFC ∧ phN o o ≤ 12) (hc : ChD n v o f w ix) :
  PureGood Tryz.prog 17 [i64 k,.agg [i64 n,.sl v.length (ec v)]] (.tup [encF (remQ (rz (cyF o)) (trimQ (plR ix k f o f))),i64 o,i64 0]) ∧ (∀ c ∈ remQ (rz (cyF o)) (trimQ (plR ix k f o f)),lq c ≤ 100000) ∧ (remQ (rz (cyF o)) (trimQ (plR ix k f o f))).length ≤ 60 := by
 obtain ⟨f1,f2,lw,ho,hp⟩ := hf
 have o1 := hc.o1
 have o2 := hc.o2
 obtain ⟨c1,c2,c3,c4⟩ := cy_ok ho
 have hfr := fun i => frm_plR (ix := ix) (k := k) (f := f) (o := o) (j := f) k2 f1 f2 (Nat.le_refl _) i
 have hpv := plP_vals ix k f o f
 have gN := nfnormal_good ho (plP ix k f o f) (trmD_ne f1) (len_trmD k2 f2) (L := 260) (by omega) (by rw [plP_len];omega) (by
  intro j
  have : ov (plP ix k f o f) = plR ix k f o f := hpv
  rw [this]
  exact hfr j) (plP_small k2 f1 f2 (Nat.le_refl _))
 have : ov (plP ix k f o f) = plR ix k f o f := hpv
 rw [this,plP_len] at gN
 have hl2 := trimQ_le (plR ix k f o f)
 rw [plR_len] at hl2
 refine ⟨bchar_good hc lw _ (field_good ho) ⟨_,_,rfl⟩ k1 k2 gN,mem_getD (fun j => ?_),by have := remQ_len (rz (cyF o)) (trimQ (plR ix k f o f));omega⟩
 refine frm_lq (remQ_frm c1 (L := 260) (fun j => ?_) j) (trmD_ne f1) (len_trmD k2 f2) (by omega)
 rw [trimQ_getD]
 exact hfr j
theorem lawCharacters_of (hall : ∀ {n : Nat},1 ≤ n → n ≤ 60 → ∀ {v : List Nat},v ∈ prodN (od n) → chkBC n v = true) (k : Int) (hk : -9223372036854775808 ≤ k ∧ k ≤ 9223372036854775807) (m : Int) (l : List Int) (hm : -9223372036854775808 ≤ m ∧ m ≤ 9223372036854775807) : PureGood Tryz.prog 4 [i64 k,.agg [i64 m,.sl l.length (ec l)]] (bl true) := by
 by_cases h1 : 100 < l.length
 ·exact lawChars_many k m l h1
 ·have hb : ChB m l := ⟨hm,by omega⟩
  have err : ∀ e : Int,(0 ≤ e ∧ e ≤ 1000) → PureGood Tryz.prog 17 [i64 k,.agg [i64 m,.sl l.length (ec l)]] (errC e) ∧ PureGood Tryz.prog 19 [i64 k,.agg [i64 m,.sl l.length (ec l)]] (errC e) → PureGood Tryz.prog 4 [i64 k,.agg [i64 m,.sl l.length (ec l)]] (bl true) := by
   intro e he h
   rw [errC_enc] at h
   exact lawChars_in hb h1 h.1 h.2 (by simp) (by simp) he
  by_cases h2 : k < 1 ∨ 40 < k
  ·exact err 2 (by omega) ⟨bcharP_range hk h2 m _ ⟨_,_,rfl⟩,bcharR_range hk h2 m _ ⟨_,_,rfl⟩⟩
  ·by_cases he : cerr m l = 0
   ·obtain ⟨n,rfl,n1,n2,v,hv,rfl⟩ := cerr_ok he
    obtain ⟨hor,_,_,h⟩ := chkBC_ok n2 hb he (hall n1 n2 hv)
    obtain ⟨⟨o1,o2⟩,go,gro⟩ := chkOr_ok hor
    rcases h with h | ⟨f,w,hf,hc,hr,_⟩
    ·exact err 7 (by omega) ⟨bcharP_large (by omega) (by omega) hb he o1 o2 go h,bcharR_large (by omega) (by omega) hb he o1 o2 gro h⟩
    ·obtain ⟨kn,rfl⟩ : ∃ j : Nat,k = j := ⟨k.toNat,by omega⟩
     obtain ⟨g1,g3,g4⟩ := bcharP_small (k := kn) (by omega) (by omega) hf hc
     have g2 := rchar_good hr hc.o1 hc.o2 hf.1 hf.2.1 hf.2.2.1 hf.2.2.2.1 hf.2.2.2.2 (k := kn) (by omega) (by omega)
     exact lawChars_in hb h1 g1 g2 g3 (by omega) (by omega)
   ·have := cerr_val m l
    exact err _ (by omega) ⟨bcharP_err (by omega) (by omega) hb he,bcharR_err (by omega) (by omega) hb he⟩
end Go.Proofs.YtaidcaemdkncgaaGreatDoor