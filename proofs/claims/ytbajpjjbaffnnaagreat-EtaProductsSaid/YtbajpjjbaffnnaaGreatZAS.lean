/- Contracts of functions of the program, and what proves them (texts: NumF). -/
import Derived.Test.YtbajpjjbaffnnaaGreatZAQ
set_option linter.all false
namespace Go.Num
def vpF (p : Nat) : Nat → Nat → Nat
 | 0,_ => 0
 | f + 1,d => if d % p = 0 then vpF p f (d / p) + 1 else 0
def vp (p d : Nat) : Nat := vpF p d d
theorem vpF_eq {p : Nat} (hp : 2 ≤ p) : ∀ (f g d : Nat),0 < d → d ≤ f → d ≤ g → vpF p f d = vpF p g d
 | 0,_,d,h0,h1,_ => by omega
 | _ + 1,0,d,h0,_,h2 => by omega
 | f + 1,g + 1,d,h0,h1,h2 => by
   rw [vpF,vpF]
   by_cases h : d % p = 0
   · rw [if_pos h,if_pos h]
     have hl : d / p < d := Nat.div_lt_self h0 (by omega)
     have hpd : p ≤ d := Nat.le_of_dvd h0 (Nat.dvd_of_mod_eq_zero h)
     rw [vpF_eq hp f g (d / p) (Nat.div_pos hpd (by omega)) (by omega) (by omega)]
   · rw [if_neg h,if_neg h]
theorem vp_step {p d : Nat} (hp : 2 ≤ p) (hd : 0 < d) (h : d % p = 0) : vp p d = vp p (d / p) + 1 := by
 obtain ⟨e,rfl⟩ : ∃ e,d = e + 1 := ⟨d - 1,by omega⟩
 have hl : (e + 1) / p < e + 1 := Nat.div_lt_self hd (by omega)
 have hpd : p ≤ e + 1 := Nat.le_of_dvd hd (Nat.dvd_of_mod_eq_zero h)
 have h0 : 0 < (e + 1) / p := Nat.div_pos hpd (by omega)
 unfold vp
 rw [vpF,if_pos h,vpF_eq hp e ((e + 1) / p) ((e + 1) / p) h0 (by omega) (Nat.le_refl _)]
theorem vp_stop {p d : Nat} (h : d % p ≠ 0) : vp p d = 0 := by
 unfold vp
 cases d with
 | zero => rfl
 | succ e => rw [vpF,if_neg h]
theorem vpF_le (p : Nat) : ∀ f d,vpF p f d ≤ f
 | 0,_ => Nat.le_refl _
 | f + 1,d => by
   rw [vpF]
   split
   · have := vpF_le p f (d / p);omega
   · omega
theorem vp_le (p d : Nat) : vp p d ≤ d := vpF_le p d d
def cntE (p n : Nat) (xs : List Int) (k : Nat) : Int := if (xs.getD k 0) % 2 = 0 then 0 else (vp p ((divN n).getD k 0) : Int)
def cntR (p n : Nat) (xs : List Int) (k : Nat) : Int := (vp p ((divN n).getD k 0) : Int) * xs.getD k 0
theorem cnt_par (p n : Nat) (xs : List Int) : ∀ k,psum (cntE p n xs) k % 2 = psum (cntR p n xs) k % 2
 | 0 => rfl
 | k + 1 => by
   have h := cnt_par p n xs k
   rw [psum,psum]
   have : cntE p n xs k % 2 = cntR p n xs k % 2 := by
     unfold cntE cntR
     generalize xs.getD k 0 = x
     generalize (vp p ((divN n).getD k 0) : Int) = v
     split
     · rename_i hx
       rw [Int.mul_emod,hx];simp
     · rename_i hx
       have hx1 : x % 2 = 1 := by omega
       rw [Int.mul_emod,hx1];simp
   omega
theorem divN_getD_le (n k : Nat) : (divN n).getD k 0 ≤ n := by
 by_cases h : k < (divN n).length
 ·obtain ⟨d,_,_,h3,_,h5⟩ := divL_get h
  omega
 ·simp [List.getD,Nat.le_of_not_lt h]
theorem cntE_bd {p n : Nat} {xs : List Int} (h : EtaOk n xs) (k : Nat) : -600 ≤ cntE p n xs k ∧ cntE p n xs k ≤ 600 := by
 have h1 := vp_le p ((divN n).getD k 0)
 have h2 := divN_getD_le n k
 have h3 := h.n2
 unfold cntE
 split <;> omega
theorem cntE_nn {p n : Nat} {xs : List Int} : ∀ k,0 ≤ psum (cntE p n xs) k
 | 0 => Int.le_refl _
 | k + 1 => by
   have := cntE_nn (p := p) (n := n) (xs := xs) k
   rw [psum]
   have : 0 ≤ cntE p n xs k := by unfold cntE;split <;> omega
   omega
theorem cE_bd {p n : Nat} {xs : List Int} (h : EtaOk n xs) {k : Nat} (hk : k ≤ xs.length) : -14400 ≤ psum (cntE p n xs) k ∧ psum (cntE p n xs) k ≤ 14400 := by
 have h1 := psum_bound (f := cntE p n xs) (B := 600) (n := xs.length) (fun k _ => cntE_bd h k) k hk
 have h2 := h.len_le
 omega
def primesT : List Nat := [2,3,5,7,11,13,17,19,23,29,31,37,41,43,47,53,59,61,67,71,73,79,83,89,97,101,103,107,109,113,127,131,137,139,149,151,157,163,167,173,179,181,191,193,197,199,211,223,227,229,233,239,241,251,257,263,269,271,277,281,283,293,307,311,313,317,331,337,347,349,353,359,367,373,379,383,389,397,401,409,419,421,431,433,439,443,449,457,461,463,467,479,487,491,499,503,509,521,523,541,547,557,563,569,571,577,587,593,599]
def prs (n : Nat) : List Nat := primesT.filter fun p => Nat.beq (n % p) 0
def below (q : Nat) : List Nat := primesT.filter fun p => Nat.blt p q
def gP (n : Nat) (xs : List Int) (p : Nat) : Int := if psum (cntR p n xs) xs.length % 2 = 0 then 1 else (p : Int)
def lprod (g : Nat → Int) : List Nat → Int
 | [] => 1
 | p :: l => g p * lprod g l
theorem lprod_app (g : Nat → Int) : ∀ (l m : List Nat),lprod g (l ++ m) = lprod g l * lprod g m
 | [],m => by simp [lprod]
 | p :: l,m => by rw [List.cons_append,lprod,lprod,lprod_app g l m,Int.mul_assoc]
theorem primesT_ge : ∀ p ∈ primesT,2 ≤ p ∧ p ≤ 600 := by
 have h : (primesT.all fun p => Nat.ble 2 p && Nat.ble p 600) = true := by decide +kernel
 intro p hp
 have := List.all_eq_true.1 h p hp
 rw [Bool.and_eq_true] at this
 exact ⟨Nat.le_of_ble_eq_true this.1,Nat.le_of_ble_eq_true this.2⟩
theorem prs_prod : ∀ n,1 ≤ n → n ≤ 600 → lprod (fun p => (p : Int)) (prs n) ≤ 600 := by
 have h : ((List.range 600).all fun n => decide (lprod (fun p => (p : Int)) (prs (n + 1)) ≤ 600)) = true := by decide +kernel
 intro n h1 hn
 have := List.all_eq_true.1 h (n - 1) (List.mem_range.2 (by omega))
 rw [show n - 1 + 1 = n by omega] at this
 exact of_decide_eq_true this
theorem gP_bd {n p : Nat} {xs : List Int} (hp : 2 ≤ p) : 1 ≤ gP n xs p ∧ gP n xs p ≤ p := by
 unfold gP
 split <;> omega
theorem prs_mem {n p : Nat} (h : p ∈ prs n) : 2 ≤ p ∧ p ≤ 600 ∧ n % p = 0 := by
 unfold prs at h
 rw [List.mem_filter] at h
 obtain ⟨a,b⟩ := primesT_ge p h.1
 exact ⟨a,b,Nat.eq_of_beq_eq_true h.2⟩
theorem lprod_le {g : Nat → Int} : ∀ (l : List Nat),(∀ p ∈ l,1 ≤ g p ∧ g p ≤ p) → 1 ≤ lprod g l ∧ lprod g l ≤ lprod (fun p => (p : Int)) l
 | [],_ => ⟨Int.le_refl _,Int.le_refl _⟩
 | p :: l,h => by
   obtain ⟨a,b⟩ := lprod_le l (fun q hq => h q (List.mem_cons_of_mem _ hq))
   obtain ⟨c,d⟩ := h p List.mem_cons_self
   rw [lprod,lprod]
   constructor
   · have := Int.mul_le_mul_of_nonneg_right c (show 0 ≤ lprod g l by omega)
     omega
   · exact Int.le_trans (Int.mul_le_mul_of_nonneg_right d (by omega)) (Int.mul_le_mul_of_nonneg_left b (by omega))
theorem prs_take_bd {n : Nat} {xs : List Int} (h : EtaOk n xs) (i : Nat) : 1 ≤ lprod (gP n xs) ((prs n).take i) ∧ lprod (gP n xs) ((prs n).take i) ≤ 600 := by
 have hb : ∀ p ∈ prs n,1 ≤ gP n xs p ∧ gP n xs p ≤ p := fun p hp => gP_bd (prs_mem hp).1
 have h1 := lprod_le ((prs n).take i) (fun p hp => hb p (List.mem_of_mem_take hp))
 have h2 := lprod_le ((prs n).drop i) (fun p hp => hb p (List.mem_of_mem_drop hp))
 have h3 := lprod_le (prs n) hb
 have h4 := prs_prod n h.n1 h.n2
 have e : lprod (gP n xs) (prs n) = lprod (gP n xs) ((prs n).take i) * lprod (gP n xs) ((prs n).drop i) := by rw [← lprod_app,List.take_append_drop]
 have h5 := Int.mul_le_mul_of_nonneg_left h2.1 (show 0 ≤ lprod (gP n xs) ((prs n).take i) by omega)
 omega
theorem prs_take_succ {n i : Nat} (xs : List Int) (h : i < (prs n).length) : lprod (gP n xs) ((prs n).take (i + 1)) = lprod (gP n xs) ((prs n).take i) * gP n xs ((prs n).getD i 0) := by
 rw [List.take_add_one,lprod_app,List.getElem?_eq_getElem h]
 have : (prs n).getD i 0 = (prs n)[i] := by simp [h]
 rw [this]
 simp [lprod]
def fld (s : Int) : Int := if s % 4 = 1 then s else 4 * s
def mods (n : Nat) (xs : List Int) : Bool := decide ((psum (exS xs) xs.length).tmod 2 = 0 ∧ (psum (exL n xs) xs.length).tmod 24 = 0 ∧ (psum (exH n xs) xs.length).tmod 24 = 0)
def discV (n : Nat) (xs : List Int) : Int := fld ((if psum (exS xs) xs.length % 4 = 0 then 1 else -1) * lprod (gP n xs) (prs n))
def wgtV (xs : List Int) : Int := if (psum (exS xs) xs.length).tmod 2 = 0 then (psum (exS xs) xs.length).tdiv 2 else 0
def wgtE (xs : List Int) : Int := if (psum (exS xs) xs.length).tmod 2 = 0 then 0 else 16
theorem tmod_iff (a b : Int) : a.tmod b = 0 ↔ a % b = 0 := by
 rw [← Int.dvd_iff_tmod_eq_zero,Int.dvd_iff_emod_eq_zero]
theorem tdiv_bd {a B : Int} (b : Int) (h : -B ≤ a ∧ a ≤ B) : -B ≤ a.tdiv b ∧ a.tdiv b ≤ B := by
 have h1 : (a.tdiv b).natAbs ≤ a.natAbs := by rw [Int.natAbs_tdiv];exact Nat.div_le_self _ _
 omega
theorem tmod_bd (a : Int) {b : Int} (h : 0 < b) : -b < a.tmod b ∧ a.tmod b < b := by
 have h1 := Int.tmod_lt_of_pos a h
 have h2 := Int.lt_tmod_of_pos a h
 omega
end Go.Num
namespace Go.Num
theorem emod_of_tmod (a : Int) {m : Int} (hm : 0 < m) : a % m = if a.tmod m < 0 then a.tmod m + m else a.tmod m := by
 have h1 := Int.mul_tdiv_add_tmod a m
 have h2 := tmod_bd a hm
 have h3 : a % m = (a.tmod m) % m := by
  conv => lhs;rw [← h1]
  exact Int.mul_add_emod_self_left ..
 rw [h3]
 split
 ·rename_i h
  have : a.tmod m % m = (a.tmod m + m) % m := (Int.add_emod_right ..).symm
  rw [this]
  exact Int.emod_eq_of_lt (by omega) (by omega)
 ·exact Int.emod_eq_of_lt (by omega) (by omega)
theorem tmod4 (a : Int) : (a.tmod 4 + 4) % 4 = a % 4 ∧ -4 < a.tmod 4 ∧ a.tmod 4 < 4 := by
 have h := emod_of_tmod a (m := 4) (by omega)
 have h2 := tmod_bd a (b := 4) (by omega)
 refine ⟨?_,h2.1,h2.2⟩
 split at h <;> omega
def dF (n : Nat) (xs : List Int) (i : Nat) : Int := (if psum (exS xs) xs.length % 4 = 0 then 1 else -1) * lprod (gP n xs) ((prs n).take i)
theorem dF_bd {n : Nat} {xs : List Int} (h : EtaOk n xs) (i : Nat) : -600 ≤ dF n xs i ∧ dF n xs i ≤ 600 := by
 have := prs_take_bd h i
 unfold dF
 split <;> omega
theorem dF_zero (n : Nat) (xs : List Int) : dF n xs 0 = if psum (exS xs) xs.length % 4 = 0 then 1 else -1 := by
 unfold dF
 simp [lprod]
theorem dF_succ {n i : Nat} (xs : List Int) (h : i < (prs n).length) : dF n xs (i + 1) = if psum (cntE ((prs n).getD i 0) n xs) xs.length % 2 = 0 then dF n xs i else dF n xs i * ((prs n).getD i 0 : Int) := by
 unfold dF
 rw [prs_take_succ xs h,← Int.mul_assoc,gP,← cnt_par]
 split <;> rename_i h1 <;> split <;> rename_i h2 <;> simp_all
theorem dF_last (n : Nat) (xs : List Int) : fld (dF n xs (prs n).length) = discV n xs := by
 unfold dF discV
 rw [List.take_length]
def dscV (n : Nat) (xs : List Int) : Int := if mods n xs = true then discV n xs else 0
def dscE (n : Nat) (xs : List Int) : Int := if mods n xs = true then 0 else 20
end Go.Num