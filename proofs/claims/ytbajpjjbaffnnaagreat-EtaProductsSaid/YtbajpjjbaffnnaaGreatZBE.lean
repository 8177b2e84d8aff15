/- Contracts of functions of the program, and what proves them (texts: NumG). -/
import Derived.Test.YtbajpjjbaffnnaaGreatZAM
import Derived.Test.YtbajpjjbaffnnaaGreatZAQ
set_option linter.all false
namespace Go.Num
def svS (d : Nat → Nat) (x : Nat → Int) (n : Nat) (j : Nat) : Int := if n % d j = 0 then x j else 0
def sv (d : Nat → Nat) (x : Nat → Int) (k n : Nat) : Int := psum (svS d x n) k
theorem sv_succ (d : Nat → Nat) (x : Nat → Int) (k n : Nat) : sv d x (k + 1) n = sv d x k n + (if n % d k = 0 then x k else 0) := rfl
def svM (d : Nat → Nat) (x : Nat → Int) (k m n : Nat) : Int := if n < m then sv d x (k + 1) n else sv d x k n
theorem svM_next {d : Nat → Nat} {x : Nat → Int} {k t n : Nat} (hd : 0 < d k) (hn : n ≠ t * d k) : svM d x k (t * d k + d k) n = svM d x k (t * d k) n := by
 unfold svM
 by_cases h1 : n < t * d k
 ·rw [if_pos h1,if_pos (by omega)]
 ·rw [if_neg h1]
  by_cases h2 : n < t * d k + d k
  ·rw [if_pos h2,sv_succ,if_neg]
   ·omega
   ·intro h
    have e : n = d k * (n / d k) := by have := Nat.div_add_mod n (d k);omega
    have h3 : t * d k < d k * (n / d k) := by omega
    have h4 : d k * (n / d k) < t * d k + d k := by omega
    rw [Nat.mul_comm t] at h3 h4
    have h5 := Nat.lt_of_mul_lt_mul_left h3
    rw [← Nat.mul_succ] at h4
    have h6 := Nat.lt_of_mul_lt_mul_left h4
    omega
  ·rw [if_neg h2]
theorem svM_at {d : Nat → Nat} {x : Nat → Int} {k t : Nat} (hd : 0 < d k) : svM d x k (t * d k + d k) (t * d k) = svM d x k (t * d k) (t * d k) + x k := by
 unfold svM
 rw [if_pos (by omega),if_neg (by omega),sv_succ,if_pos (Nat.mul_mod_left ..)]
theorem svM_first {d : Nat → Nat} {x : Nat → Int} {k n : Nat} (h1 : 1 ≤ n) : svM d x k (d k) n = sv d x k n := by
 unfold svM
 by_cases h : n < d k
 ·rw [if_pos h,sv_succ,if_neg (by rw [Nat.mod_eq_of_lt h];omega)]
  omega
 ·rw [if_neg h]
theorem svM_last {d : Nat → Nat} {x : Nat → Int} {k m n : Nat} (h : n < m) : svM d x k m n = sv d x (k + 1) n := if_pos h
theorem sv_bd {d : Nat → Nat} {x : Nat → Int} {B : Int} {k : Nat} (hB : 0 ≤ B) (h : ∀ j,j < k → -B ≤ x j ∧ x j ≤ B) (n : Nat) : ∀ i,i ≤ k → -(B * i) ≤ sv d x i n ∧ sv d x i n ≤ B * i := by
 refine psum_bound (f := svS d x n) (fun j hj => ?_)
 unfold svS
 split
 ·exact h j hj
 ·omega
def dc (c : List Int) (j : Nat) : Int := ((j + 1 : Nat) : Int) * c.getD j 0
def sS (c : List Int) (n : Nat) : Int := sv (fun j => j + 1) (dc c) c.length n
def qs (s : Nat → Int) (a : Nat → Rat) (n : Nat) : Nat → Rat
 | 0 => 0
 | i + 1 => qs s a n i + (s (i + 1) : Rat) * a (n - 1 - i)
theorem qs_zero (s : Nat → Int) (a : Nat → Rat) (n : Nat) : qs s a n 0 = 0 := rfl
theorem qs_succ (s : Nat → Int) (a : Nat → Rat) (n i : Nat) : qs s a n (i + 1) = qs s a n i + (s (i + 1) : Rat) * a (n - 1 - i) := rfl
structure ProdOk (c : List Int) (a : Nat → Rat) : Prop where
 len : c.length ≤ 999
 cs : ∀ x ∈ c,-4800 ≤ x ∧ x ≤ 4800
 a0 : a 0 = 1
 step : ∀ n,1 ≤ n → n ≤ c.length → a n = -(qs (sS c) a n n) / ((n : Int) : Rat)
 ba : ∀ n,n ≤ c.length → lq (a n) ≤ 1000
 bq : ∀ n i,1 ≤ n → n ≤ c.length → i ≤ n → lq (qs (sS c) a n i) ≤ 1000
theorem ProdOk.cj {c : List Int} {a : Nat → Rat} (h : ProdOk c a) (j : Nat) : -4800 ≤ c.getD j 0 ∧ c.getD j 0 ≤ 4800 := by
 by_cases hj : j < c.length
 ·have e : c.getD j 0 = c[j] := by simp [hj]
  rw [e]
  exact h.cs _ (List.getElem_mem hj)
 ·simp [List.getD,Nat.le_of_not_lt hj]
theorem ProdOk.dcb {c : List Int} {a : Nat → Rat} (h : ProdOk c a) {j : Nat} (hj : j < c.length) : -4795200 ≤ dc c j ∧ dc c j ≤ 4795200 := by
 have := h.len
 exact mul_bd (A := 999) (B := 4800) (by omega) (h.cj j)
theorem ProdOk.svb {c : List Int} {a : Nat → Rat} (h : ProdOk c a) {k : Nat} (hk : k ≤ c.length) (n : Nat) : -4790404800 ≤ sv (fun j => j + 1) (dc c) k n ∧ sv (fun j => j + 1) (dc c) k n ≤ 4790404800 := by
 have h1 := sv_bd (d := fun j => j + 1) (x := dc c) (B := 4795200) (k := c.length) (by omega) (fun j hj => h.dcb hj) n k hk
 have := h.len
 omega
theorem ProdOk.svm {c : List Int} {a : Nat → Rat} (h : ProdOk c a) {k : Nat} (hk : k < c.length) (m n : Nat) : -4790404800 ≤ svM (fun j => j + 1) (dc c) k m n ∧ svM (fun j => j + 1) (dc c) k m n ≤ 4790404800 := by
 unfold svM
 split
 ·exact h.svb (by omega) n
 ·exact h.svb (by omega) n
/-! The coefficients,over factorials. -/
def fac : Nat → Nat
 | 0 => 1
 | n + 1 => fac n * (n + 1)
theorem fac_pos : ∀ n,0 < fac n
 | 0 => Nat.one_pos
 | n + 1 => Nat.mul_pos (fac_pos n) (Nat.succ_pos n)
theorem fac_dvd : ∀ {m n : Nat},m ≤ n → fac m ∣ fac n
 | m, 0, h => by obtain rfl : m = 0 := by omega
                 exact Nat.dvd_refl _
 | m,n + 1,h => by
   rcases Nat.lt_or_ge n m with h2 | h2
   · obtain rfl : m = n + 1 := by omega
     exact Nat.dvd_refl _
   · exact Nat.dvd_trans (fac_dvd h2) (Nat.dvd_mul_right _ _)
def pI (s : Nat → Int) (l : List Int) (n : Nat) (i : Nat) : Int := psum (fun j => s (j + 1) * (((fac (n - 1) / fac (n - 1 - j) : Nat) : Int) * l.getD (n - 1 - j) 0)) i
theorem pI_succ (s : Nat → Int) (l : List Int) (n i : Nat) : pI s l n (i + 1) = pI s l n i + s (i + 1) * (((fac (n - 1) / fac (n - 1 - i) : Nat) : Int) * l.getD (n - 1 - i) 0) := rfl
def aL (s : Nat → Int) : Nat → List Int
 | 0 => [1]
 | n + 1 => aL s n ++ [-(pI s (aL s n) (n + 1) (n + 1))]
theorem aL_length (s : Nat → Int) : ∀ n,(aL s n).length = n + 1
 | 0 => rfl
 | n + 1 => by rw [aL,List.length_append,aL_length s n];rfl
theorem aL_get (s : Nat → Int) {n : Nat} : ∀ {m : Nat},n ≤ m → (aL s m).getD n 0 = (aL s n).getD n 0
 | 0, h => by obtain rfl : n = 0 := by omega
              rfl
 | m + 1,h => by
   rcases Nat.lt_or_ge m n with h2 | h2
   · obtain rfl : n = m + 1 := by omega
     rfl
   · rw [← aL_get s h2,aL]
     have := aL_length s m
     simp only [List.getD,List.getElem?_append_left (show n < (aL s m).length by omega)]
theorem aL_last (s : Nat → Int) (n : Nat) : (aL s (n + 1)).getD (n + 1) 0 = -(pI s (aL s n) (n + 1) (n + 1)) := by
 have := aL_length s n
 rw [aL]
 simp only [List.getD,List.getElem?_append_right (show (aL s n).length ≤ n + 1 by omega),this,Nat.sub_self]
 rfl
def aQ (s : Nat → Int) (n : Nat) : Rat := Rat.divInt ((aL s n).getD n 0) ((fac n : Nat) : Int)
theorem facI_ne (n : Nat) : ((fac n : Nat) : Int) ≠ 0 := by have := fac_pos n;omega
theorem divInt_scale {k a d : Int} (hk : k ≠ 0) : Rat.divInt (k * a) (k * d) = Rat.divInt a d := Rat.divInt_mul_left hk
theorem qs_form (s : Nat → Int) (n : Nat) : ∀ i,i ≤ n + 1 → qs s (aQ s) (n + 1) i = Rat.divInt (pI s (aL s n) (n + 1) i) ((fac n : Nat) : Int)
 | 0,_ => by rw [qs,pI,psum,Rat.zero_divInt]
 | i + 1,hi => by
   rw [qs,qs_form s n i (by omega),pI_succ,divInt_lin]
   congr 2
   rw [Nat.add_sub_cancel,aL_get s (Nat.sub_le n i),aQ]
   have hd := fac_dvd (Nat.sub_le n i)
   have hk : 0 < fac n / fac (n - i) := Nat.div_pos (Nat.le_of_dvd (fac_pos n) hd) (fac_pos _)
   have e : ((fac n : Nat) : Int) = ((fac n / fac (n - i) : Nat) : Int) * ((fac (n - i) : Nat) : Int) := by
     rw [← Int.natCast_mul,Nat.div_mul_cancel hd]
   conv => rhs;rw [e]
   rw [divInt_scale (by omega)]
theorem aQ_step (s : Nat → Int) (n : Nat) : aQ s (n + 1) = -(qs s (aQ s) (n + 1) (n + 1)) / (((n + 1 : Nat) : Int) : Rat) := by
 rw [qs_form s n (n + 1) (Nat.le_refl _),aQ,aL_last]
 generalize pI s (aL s n) (n + 1) (n + 1) = p
 have h0 := facI_ne n
 rw [fac,Int.natCast_mul,Rat.neg_divInt,Rat.div_def,Rat.inv_def,Rat.num_intCast,Rat.den_intCast,Rat.divInt_mul_divInt]
 simp
theorem pI_bd {s : Nat → Int} {S N : Nat} (hs : ∀ i, 1 ≤ i → i ≤ N → (s i).natAbs ≤ S) : ∀ n, n + 1 ≤ N → (∀ m, m ≤ n → ((aL s n).getD m 0).natAbs ≤ fac m * (S + 1) ^ m) →
  ∀ i,i ≤ n + 1 → (pI s (aL s n) (n + 1) i).natAbs + fac n * (S + 1) ^ (n + 1 - i) ≤ fac n * (S + 1) ^ (n + 1)
 | n,hn,ha,0,_ => by simp [pI,psum]
 | n,hn,ha,i + 1,hi => by
   have h1 := pI_bd hs n hn ha i (by omega)
   rw [pI_succ,Nat.add_sub_cancel]
   have h2 := hs (i + 1) (by omega) (by omega)
   have h3 := ha (n - i) (by omega)
   have hd := fac_dvd (Nat.sub_le n i)
   have e : fac n = fac n / fac (n - i) * fac (n - i) := (Nat.div_mul_cancel hd).symm
   generalize pI s (aL s n) (n + 1) i = p at *
   generalize (aL s n).getD (n - i) 0 = u at *
   generalize hk : fac n / fac (n - i) = k at *
   have h4 : (s (i + 1) * ((k : Int) * u)).natAbs ≤ S * (k * (fac (n - i) * (S + 1) ^ (n - i))) := by
     rw [Int.natAbs_mul,Int.natAbs_mul,Int.natAbs_natCast]
     exact Nat.mul_le_mul h2 (Nat.mul_le_mul_left k h3)
   rw [← Nat.mul_assoc k,← e] at h4
   have e2 : n + 1 - i = (n - i) + 1 := by omega
   rw [e2,Nat.pow_succ] at h1
   rw [show n + 1 - (i + 1) = n - i by omega]
   have h5 := Int.natAbs_add_le p (s (i + 1) * ((k : Int) * u))
   generalize fac n = f at *
   generalize (S + 1) ^ (n - i) = w at *
   have e3 : f * (w * (S + 1)) = S * (f * w) + f * w := by
     rw [Nat.mul_add,Nat.mul_one,Nat.mul_add,Nat.mul_left_comm S f w,Nat.mul_comm S w]
   omega
theorem aL_bd {s : Nat → Int} {S N : Nat} (hs : ∀ i,1 ≤ i → i ≤ N → (s i).natAbs ≤ S) : ∀ n,n ≤ N → ∀ m,m ≤ n → ((aL s n).getD m 0).natAbs ≤ fac m * (S + 1) ^ m
 | 0, _, m, hm => by obtain rfl : m = 0 := by omega
                     simp [aL,fac]
 | n + 1,hn,m,hm => by
   have ih := aL_bd hs n (by omega)
   rcases Nat.lt_or_ge n m with h2 | h2
   · obtain rfl : m = n + 1 := by omega
     rw [aL_last,Int.natAbs_neg]
     have := pI_bd hs n hn ih (n + 1) (Nat.le_refl _)
     refine Nat.le_trans (Nat.le_trans (Nat.le_add_right _ _) this) ?_
     rw [fac]
     exact Nat.mul_le_mul_right _ (Nat.le_mul_of_pos_right _ (Nat.succ_pos n))
   · rw [aL_get s (Nat.le_succ_of_le h2),← aL_get s h2]
     exact ih m h2
theorem fac_mono {m n : Nat} (h : m ≤ n) : fac m ≤ fac n := Nat.le_of_dvd (fac_pos n) (fac_dvd h)
theorem fac_60 : fac 60 < 4294967296 ^ 9 := by decide +kernel
theorem len_at {z : Int} {e : Nat} (h : z.natAbs < 4294967296 ^ e) : len z ≤ e := length_digs_le h
theorem len_fac {n : Nat} (h : n ≤ 60) : len ((fac n : Nat) : Int) ≤ 9 := by
 refine len_at (e := 9) ?_
 rw [Int.natAbs_natCast]
 exact Nat.lt_of_le_of_lt (fac_mono h) fac_60
theorem big_60 : 4294967296 ^ 9 * 33554432 ^ 60 < 4294967296 ^ 57 := by decide +kernel
theorem bd_60 {x m n S : Nat} (h : x ≤ fac m * (S + 1) ^ n) (hm : m ≤ 60) (hn : n ≤ 60) (hS : S < 33554432) : x < 4294967296 ^ 57 := by
 have h1 := fac_mono hm
 have h3 : (S + 1) ^ n ≤ 33554432 ^ 60 := Nat.le_trans (Nat.pow_le_pow_left (show S + 1 ≤ 33554432 by omega) n) (Nat.pow_le_pow_right (by decide) hn)
 refine Nat.lt_of_le_of_lt (Nat.le_trans h (Nat.mul_le_mul (Nat.le_trans h1 (Nat.le_of_lt fac_60)) h3)) big_60
theorem prodOk_aQ {c : List Int} (hl : c.length ≤ 60) (hc : ∀ x ∈ c,-4800 ≤ x ∧ x ≤ 4800) : ProdOk c (aQ (sS c)) := by
 have hc0 : ∀ j,j < c.length → -4800 ≤ c.getD j 0 ∧ c.getD j 0 ≤ 4800 := by
  intro j hj
  have e : c.getD j 0 = c[j] := by simp [hj]
  rw [e]
  exact hc _ (List.getElem_mem hj)
 have hs : ∀ i,1 ≤ i → i ≤ 60 → (sS c i).natAbs ≤ 17280000 := by
  intro i _ _
  have := sv_bd (d := fun j => j + 1) (x := dc c) (B := 288000) (k := c.length) (by omega) (fun j hj => mul_bd (A := 60) (B := 4800) (by omega) (hc0 j hj)) i c.length (Nat.le_refl _)
  unfold sS
  omega
 have hA : ∀ n,n ≤ 60 → lq (aQ (sS c) n) ≤ 100 := by
  intro n hn
  have h1 := aL_bd hs n hn n (Nat.le_refl _)
  have h2 := len_at (e := 57) (bd_60 h1 hn hn (by decide))
  obtain ⟨h3,h4⟩ := lq_divInt (n := (aL (sS c) n).getD n 0) (facI_ne n)
  have h5 := len_fac hn
  unfold lq aQ
  omega
 refine ⟨by omega,hc,?_,?_,fun n hn => Nat.le_trans (hA n (by omega)) (by decide),?_⟩
 ·rw [aQ,aL,fac];rfl
 ·intro n h1 hn
  obtain ⟨m,rfl⟩ : ∃ m,n = m + 1 := ⟨n - 1,by omega⟩
  exact aQ_step _ _
 ·intro n i h1 hn hi
  obtain ⟨m,rfl⟩ : ∃ m,n = m + 1 := ⟨n - 1,by omega⟩
  rw [qs_form _ _ _ hi]
  have h1 := pI_bd hs m (by omega) (aL_bd hs m (by omega)) i hi
  have h2 := len_at (e := 57) (bd_60 (Nat.le_trans (Nat.le_add_right _ _) h1) (by omega) (by omega) (by decide))
  obtain ⟨h3,h4⟩ := lq_divInt (n := pI (sS c) (aL (sS c) m) (m + 1) i) (facI_ne m)
  have h5 := len_fac (show m ≤ 60 by omega)
  unfold lq
  omega
end Go.Num