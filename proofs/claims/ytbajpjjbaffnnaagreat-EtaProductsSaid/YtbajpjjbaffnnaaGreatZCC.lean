/- Contracts of functions of the program, and what proves them (texts: NumR). -/
import Derived.Test.YtbajpjjbaffnnaaGreatZBG
import Derived.Test.YtbajpjjbaffnnaaGreatZBW
import Derived.Test.YtbajpjjbaffnnaaGreatZBX
set_option linter.all false
namespace Go.Num
section
variable {n m : Nat} {xs : List Int}
theorem raise_len (hx : EtaOk n xs) : (mdL (divL m) (divL n) xs 1).length = (divN m).length := by rw [mdL_len,divL_length]
theorem raise_sumZ (hx : EtaOk n xs) (m1 : 1 ≤ m) (hm : m % n = 0) (F : Int → Int) : psum (fun j => F ((divL m).getD j 0) * (mdL (divL m) (divL n) xs 1).getD j 0) (mdL (divL m) (divL n) xs 1).length = psum (fun i => F ((divL n).getD i 0) * xs.getD i 0) xs.length := by
 rw [raise_len hx]
 exact raise_sum hx m1 hm F
theorem raise_e0 (hx : EtaOk n xs) (m1 : 1 ≤ m) (hm : m % n = 0) : psum (exS (mdL (divL m) (divL n) xs 1)) (mdL (divL m) (divL n) xs 1).length = psum (exS xs) xs.length := by
 rw [raise_len hx]
 exact raise_s0 hx m1 hm
theorem raise_e1 (hx : EtaOk n xs) (m1 : 1 ≤ m) (hm : m % n = 0) : psum (exL m (mdL (divL m) (divL n) xs 1)) (mdL (divL m) (divL n) xs 1).length = psum (exL n xs) xs.length := by
 rw [raise_len hx]
 exact raise_s1 hx m1 hm
theorem raise_eH (hx : EtaOk n xs) (m1 : 1 ≤ m) (hm : m % n = 0) : psum (exH m (mdL (divL m) (divL n) xs 1)) (mdL (divL m) (divL n) xs 1).length = ((m / n : Nat) : Int) * psum (exH n xs) xs.length := by
 have h := raise_sumZ hx m1 hm (fun d => (m : Int) / d)
 have e : ∀ k,exH m (mdL (divL m) (divL n) xs 1) k = (fun j => (fun d => (m : Int) / d) ((divL m).getD j 0) * (mdL (divL m) (divL n) xs 1).getD j 0) k := fun _ => rfl
 rw [psum_congr (g := fun j => (fun d => (m : Int) / d) ((divL m).getD j 0) * (mdL (divL m) (divL n) xs 1).getD j 0) (fun k _ => e k),h,← psum_mul]
 refine psum_congr (fun k hk => ?_)
 obtain ⟨d,e1,e2,e3,e4,_⟩ := divL_get (n := n) (k := k) (hx.len ▸ hk)
 unfold exH
 simp only [e1]
 have h1 := Nat.div_mul_cancel (Nat.dvd_of_mod_eq_zero e4)
 have h2 := Nat.div_mul_cancel (Nat.dvd_of_mod_eq_zero hm)
 have h3 : m / d = m / n * (n / d) := by
  have : m = m / n * (n / d) * d := by rw [Nat.mul_assoc,h1,h2]
  exact Nat.div_eq_of_eq_mul_left (by omega) this
 have h4 : (m : Int) / (d : Int) = ((m / d : Nat) : Int) := rfl
 have h5 : (n : Int) / (d : Int) = ((n / d : Nat) : Int) := rfl
 rw [h4,h5,h3,Int.natCast_mul,Int.mul_assoc]
theorem raise_wgtV (hx : EtaOk n xs) (m1 : 1 ≤ m) (hm : m % n = 0) : wgtV (mdL (divL m) (divL n) xs 1) = wgtV xs := by
 unfold wgtV
 rw [raise_e0 hx m1 hm]
theorem raise_wgtE (hx : EtaOk n xs) (m1 : 1 ≤ m) (hm : m % n = 0) : wgtE (mdL (divL m) (divL n) xs 1) = wgtE xs := by
 unfold wgtE
 rw [raise_e0 hx m1 hm]
theorem raise_mods (hx : EtaOk n xs) (m1 : 1 ≤ m) (hm : m % n = 0) (h : mods n xs = true) : mods m (mdL (divL m) (divL n) xs 1) = true := by
 unfold mods at h ⊢
 rw [decide_eq_true_eq] at h ⊢
 rw [raise_e0 hx m1 hm,raise_e1 hx m1 hm,raise_eH hx m1 hm]
 refine ⟨h.1,h.2.1,?_⟩
 have := h.2.2
 rw [tmod_iff] at this ⊢
 exact Int.emod_eq_zero_of_dvd (Int.dvd_trans (Int.dvd_of_emod_eq_zero this) (Int.dvd_mul_left _ _))
theorem raise_cntR (hx : EtaOk n xs) (m1 : 1 ≤ m) (hm : m % n = 0) (p : Nat) : psum (cntR p m (mdL (divL m) (divL n) xs 1)) (mdL (divL m) (divL n) xs 1).length = psum (cntR p n xs) xs.length := by
 have h := raise_sumZ hx m1 hm (fun d => (vp p d.toNat : Int))
 have e : ∀ (q : Nat) (ys : List Int) (k : Nat),k < (divN q).length → cntR p q ys k = (fun d : Int => (vp p d.toNat : Int)) ((divL q).getD k 0) * ys.getD k 0 := fun q ys k hk => by
  obtain ⟨d,e1,_,_,_,e5⟩ := divL_get (n := q) (k := k) hk
  unfold cntR
  simp only [e1,e5,Int.toNat_natCast]
 rw [psum_congr (fun k hk => e m _ k (by rw [← raise_len hx];exact hk)),h]
 exact psum_congr (fun k hk => (e n xs k (hx.len ▸ hk)).symm)
theorem raise_gP (hx : EtaOk n xs) (m1 : 1 ≤ m) (hm : m % n = 0) (p : Nat) : gP m (mdL (divL m) (divL n) xs 1) p = gP n xs p := by
 unfold gP
 rw [raise_cntR hx m1 hm]
theorem lprod_filt2 {g : Nat → Int} {f h : Nat → Bool} : ∀ (l : List Nat),(∀ p ∈ l,h p = true → f p = true) → (∀ p ∈ l,h p = false → g p = 1) → lprod g (l.filter f) = lprod g (l.filter h)
 | [],_,_ => rfl
 | p :: l,h1,h2 => by
   have ih := lprod_filt2 (g := g) (f := f) (h := h) l (fun q hq => h1 q (List.mem_cons_of_mem _ hq)) (fun q hq => h2 q (List.mem_cons_of_mem _ hq))
   rw [List.filter_cons,List.filter_cons]
   cases hh : h p with
   | true =>
     rw [h1 p (by simp) hh]
     simp only [if_true,lprod]
     rw [ih]
   | false =>
     cases hf : f p with
     | true => simp only [if_true,lprod];rw [h2 p (by simp) hh,Int.one_mul,ih];rfl
     | false => exact ih
theorem vp_none2 {p d : Nat} (h : ¬ d % p = 0) : vp p d = 0 := by
 unfold vp
 cases d with
 | zero => simp at h
 | succ d => rw [vpF,if_neg h]
theorem gP_none2 {p : Nat} (hx : EtaOk n xs) (h : ¬ n % p = 0) : gP n xs p = 1 := by
 unfold gP
 rw [psum_zero (fun k hk => ?_)]
 ·rfl
 ·obtain ⟨d,_,_,_,e4,e5⟩ := divL_get (n := n) (k := k) (hx.len ▸ hk)
  unfold cntR
  rw [e5,vp_none2 (fun e => h (Nat.mod_eq_zero_of_dvd (Nat.dvd_trans (Nat.dvd_of_mod_eq_zero e) (Nat.dvd_of_mod_eq_zero e4))))]
  simp
theorem raise_discV (hx : EtaOk n xs) (m1 : 1 ≤ m) (hm : m % n = 0) : discV m (mdL (divL m) (divL n) xs 1) = discV n xs := by
 unfold discV
 rw [raise_e0 hx m1 hm]
 have e : lprod (gP m (mdL (divL m) (divL n) xs 1)) (prs m) = lprod (gP n xs) (prs n) := by
  have e1 : gP m (mdL (divL m) (divL n) xs 1) = gP n xs := funext (raise_gP hx m1 hm)
  rw [e1]
  exact lprod_filt2 primesT (fun p _ h => by
   have := Nat.eq_of_beq_eq_true h
   rw [Nat.beq_eq]
   exact Nat.mod_eq_zero_of_dvd (Nat.dvd_trans (Nat.dvd_of_mod_eq_zero this) (Nat.dvd_of_mod_eq_zero hm))) (fun p _ h => gP_none2 hx (fun e => by
   have : Nat.beq (n % p) 0 = true := by rw [Nat.beq_eq];exact e
   rw [this] at h
   cases h))
 rw [e]
theorem raise_etaC (hx : EtaOk n xs) (m1 : 1 ≤ m) (hm : m % n = 0) (N : Nat) : etaC m (mdL (divL m) (divL n) xs 1) N = etaC n xs N := by
 unfold etaC etaK
 refine List.map_congr_left (fun i _ => ?_)
 have h := raise_sumZ hx m1 hm (fun d => if (i + 1) % d.toNat = 0 then 1 else 0)
 have e : ∀ (q : Nat) (ys : List Int) (k : Nat),k < (divN q).length → svS (dvs q) (exS ys) (i + 1) k = (fun d : Int => if (i + 1) % d.toNat = 0 then (1 : Int) else 0) ((divL q).getD k 0) * ys.getD k 0 := fun q ys k hk => by
  obtain ⟨d,e1,_,_,_,e5⟩ := divL_get (n := q) (k := k) hk
  unfold svS dvs exS
  simp only [e1,e5,Int.toNat_natCast]
  split <;> simp
 unfold sv
 rw [psum_congr (fun k hk => e m _ k (by rw [← raise_len hx];exact hk)),h]
 exact psum_congr (fun k hk => (e n xs k (hx.len ▸ hk)).symm)
theorem wA_last {d : Nat} (m1 : 1 ≤ m) (hd : m % d = 0) (d1 : 1 ≤ d) : wA m m d = m * d := by
 have h1 := Nat.div_mul_cancel (Nat.dvd_of_mod_eq_zero hd)
 have h2 : Nat.gcd m d = d := by
  rw [Nat.gcd_comm]
  exact Nat.gcd_eq_left (Nat.dvd_of_mod_eq_zero hd)
 unfold wA
 rw [Nat.div_self (by omega),Nat.gcd_one_right,Nat.one_mul,Nat.div_self (by omega),Nat.mul_one,h2,Nat.mul_assoc,Nat.mul_comm d (m / d),h1,Nat.mul_comm]
theorem raise_ord (hx : EtaOk n xs) (m1 : 1 ≤ m) (hm : m % n = 0) : ordQ m (mdL (divL m) (divL n) xs 1) m (mdL (divL m) (divL n) xs 1).length = Rat.divInt (psum (exL n xs) xs.length) 24 := by
 have e : psum (oA m m (mdL (divL m) (divL n) xs 1)) (mdL (divL m) (divL n) xs 1).length = (m : Int) * psum (exL n xs) xs.length := by
  rw [← raise_e1 hx m1 hm,← psum_mul]
  refine psum_congr (fun k hk => ?_)
  obtain ⟨d,e1,e2,e3,e4,e5⟩ := divL_get (n := m) (k := k) (by rw [← raise_len hx];exact hk)
  unfold oA exL
  rw [e5,e1,wA_last m1 e4 e2,Int.natCast_mul,Int.mul_assoc]
 unfold ordQ
 rw [e,Rat.divInt_eq_divInt_iff (by omega) (by decide)]
 have e2 : ((24 * m : Nat) : Int) = 24 * (m : Int) := by omega
 rw [e2,Int.mul_comm (m : Int),Int.mul_assoc,Int.mul_comm (m : Int) 24]
end
end Go.Num