/- Contracts of functions of the program, and what proves them (texts: NumE). -/
import Derived.Test.YtbajpjjbaffnnaaGreatZAD
set_option linter.all false
namespace Go.Num
def divN (n : Nat) : List Nat := (List.range' 1 n).filter fun d => Nat.beq (n % d) 0
def divL (n : Nat) : List Int := (divN n).map fun (d : Nat) => (d : Int)
theorem divL_length (n : Nat) : (divL n).length = (divN n).length := by simp [divL]
theorem divL_get {n k : Nat} (h : k < (divN n).length) : ∃ d : Nat,(divL n).getD k 0 = (d : Int) ∧ 1 ≤ d ∧ d ≤ n ∧ n % d = 0 ∧ (divN n).getD k 0 = d := by
 refine ⟨(divN n)[k],by simp [divL,h],?_⟩
 have hm : (divN n)[k] ∈ divN n := List.getElem_mem h
 generalize hd : (divN n)[k] = d at *
 simp only [divN,List.mem_filter,List.mem_range'_1] at hm
 refine ⟨by omega,by omega,Nat.eq_of_beq_eq_true hm.2,by simp [h,hd]⟩
def psum (f : Nat → Int) : Nat → Int
 | 0 => 0
 | k + 1 => psum f k + f k
theorem psum_bound {f : Nat → Int} {B : Int} {n : Nat} (h : ∀ k,k < n → -B ≤ f k ∧ f k ≤ B) : ∀ k,k ≤ n → -(B * k) ≤ psum f k ∧ psum f k ≤ B * k
 | 0,_ => by simp [psum]
 | k + 1,hk => by
   have h1 := psum_bound h k (by omega)
   have h2 := h k (by omega)
   have e : B * ((k + 1 : Nat) : Int) = B * k + B := by rw [Int.natCast_add,Int.mul_add];simp
   rw [psum,e]
   omega
theorem psum_congr {f g : Nat → Int} : ∀ {n : Nat},(∀ k,k < n → f k = g k) → psum f n = psum g n
 | 0,_ => rfl
 | n + 1,h => by rw [psum,psum,psum_congr (n := n) (fun k hk => h k (by omega)),h n (by omega)]
def exS (xs : List Int) (k : Nat) : Int := xs.getD k 0
def exL (n : Nat) (xs : List Int) (k : Nat) : Int := (divL n).getD k 0 * xs.getD k 0
def exH (n : Nat) (xs : List Int) (k : Nat) : Int := (n : Int) / (divL n).getD k 0 * xs.getD k 0
structure EtaOk (n : Nat) (xs : List Int) : Prop where
 n1 : 1 ≤ n
 n2 : n ≤ 600
 len : xs.length = (divN n).length
 small : ∀ x ∈ xs,-200 ≤ x ∧ x ≤ 200
theorem EtaOk.get {n : Nat} {xs : List Int} (h : EtaOk n xs) (k : Nat) : -200 ≤ xs.getD k 0 ∧ xs.getD k 0 ≤ 200 := by
 by_cases hk : k < xs.length
 ·have : xs.getD k 0 = xs[k] := by simp [hk]
  rw [this]
  exact h.small _ (List.getElem_mem hk)
 ·simp [List.getD,Nat.le_of_not_lt hk]
theorem mul_bd {a b A B : Int} (h1 : 0 ≤ a ∧ a ≤ A) (h2 : -B ≤ b ∧ b ≤ B) : -(A * B) ≤ a * b ∧ a * b ≤ A * B := by
 have e : (a * b).natAbs ≤ (A * B).natAbs := by
  rw [Int.natAbs_mul,Int.natAbs_mul]
  exact Nat.mul_le_mul (by omega) (by omega)
 have : 0 ≤ A * B := Int.mul_nonneg (by omega) (by omega)
 omega
theorem EtaOk.low {n : Nat} {xs : List Int} (h : EtaOk n xs) {k : Nat} (hk : k < xs.length) : -120000 ≤ exL n xs k ∧ exL n xs k ≤ 120000 := by
 obtain ⟨d,e1,e2,e3,_⟩ := divL_get (n := n) (k := k) (h.len ▸ hk)
 have := h.n2
 exact mul_bd (A := 600) (B := 200) (by rw [e1];omega) (h.get k)
theorem EtaOk.high {n : Nat} {xs : List Int} (h : EtaOk n xs) {k : Nat} (hk : k < xs.length) : -120000 ≤ exH n xs k ∧ exH n xs k ≤ 120000 := by
 obtain ⟨d,e1,e2,e3,_⟩ := divL_get (n := n) (k := k) (h.len ▸ hk)
 have := h.n2
 have h3 : (n : Int) / (d : Int) = ((n / d : Nat) : Int) := rfl
 have h4 : n / d ≤ n := Nat.div_le_self _ _
 generalize n / d = q at *
 exact mul_bd (A := 600) (B := 200) (by rw [e1,h3];omega) (h.get k)
theorem divN_length_le : ∀ n,n ≤ 600 → (divN n).length ≤ 24 := by
 have h : ((List.range 601).all fun n => Nat.ble (divN n).length 24) = true := by decide +kernel
 intro n hn
 exact Nat.le_of_ble_eq_true (List.all_eq_true.1 h n (List.mem_range.2 (by omega)))
theorem divN_length_pos {n : Nat} (hn : 1 ≤ n) : 1 ≤ (divN n).length := by
 have : 1 ∈ divN n := by
  simp only [divN,List.mem_filter,List.mem_range'_1]
  exact ⟨by omega,by simp [Nat.mod_one]⟩
 exact List.length_pos_of_mem this
theorem EtaOk.len_le {n : Nat} {xs : List Int} (h : EtaOk n xs) : xs.length ≤ 24 := by rw [h.len];exact divN_length_le n h.n2
theorem EtaOk.s0 {n : Nat} {xs : List Int} (h : EtaOk n xs) {k : Nat} (hk : k ≤ xs.length) : -4800 ≤ psum (exS xs) k ∧ psum (exS xs) k ≤ 4800 := by
 have h1 := psum_bound (f := exS xs) (B := 200) (n := xs.length) (fun k _ => h.get k) k hk
 have h2 := h.len_le
 omega
theorem EtaOk.s1 {n : Nat} {xs : List Int} (h : EtaOk n xs) {k : Nat} (hk : k ≤ xs.length) : -2880000 ≤ psum (exL n xs) k ∧ psum (exL n xs) k ≤ 2880000 := by
 have h1 := psum_bound (f := exL n xs) (B := 120000) (n := xs.length) (fun k hk => h.low hk) k hk
 have h2 := h.len_le
 omega
theorem EtaOk.s2 {n : Nat} {xs : List Int} (h : EtaOk n xs) {k : Nat} (hk : k ≤ xs.length) : -2880000 ≤ psum (exH n xs) k ∧ psum (exH n xs) k ≤ 2880000 := by
 have h1 := psum_bound (f := exH n xs) (B := 120000) (n := xs.length) (fun k hk => h.high hk) k hk
 have h2 := h.len_le
 omega
def etaErr (lv : Int) (xs : List Int) : Int :=
 if 1 ≤ lv ∧ lv ≤ 600 then (if xs.length = (divN lv.toNat).length then (if ∀ x ∈ xs,-200 ≤ x ∧ x ≤ 200 then 0 else 2) else 4) else 2
end Go.Num