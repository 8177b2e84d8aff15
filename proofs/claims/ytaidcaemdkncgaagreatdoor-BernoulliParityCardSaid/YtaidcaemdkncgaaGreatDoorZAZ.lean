/- Contracts of functions of the program, and what proves them (texts: Num7 Num8 Num9 Num10 NumDv NumBC Q2s). -/
import Derived.Test.YtaidcaemdkncgaaGreatDoorZAM
import Derived.Test.YtaidcaemdkncgaaGreatDoorZAU
set_option linter.all false
set_option maxRecDepth 100000
set_option maxHeartbeats 8000000
namespace Go.Num
def horQ (f : List Rat) (x : Rat) : Rat := f.foldr (fun c acc => acc * x + c) 0
def horI (f : List Int) (x : Rat) : Rat := f.foldr (fun (c : Int) (acc : Rat) => acc * x + (c : Rat)) 0
theorem horI_nil (x : Rat) : horI [] x = 0 := rfl
theorem horI_cons (c : Int) (f : List Int) (x : Rat) : horI (c :: f) x = horI f x * x + (c : Rat) := rfl
theorem horQ_scale (L : Int) (x : Rat) : ∀ l : List Int,horQ (l.map fun u => Rat.divInt u L) x = horI l x * (L : Rat)⁻¹
 | [] => by
   show (0 : Rat) = 0 * _
   rw [Rat.zero_mul]
 | u :: l => by
   show horQ (l.map fun u => Rat.divInt u L) x * x + Rat.divInt u L = _
   rw [horQ_scale L x l,horI_cons,Rat.divInt_eq_div,Rat.div_def]
   generalize (L : Rat)⁻¹ = s
   grind
def addL : List Int → List Int → List Int
 | [],b => b
 | a,[] => a
 | x :: a,y :: b => (x + y) :: addL a b
theorem horI_add (x : Rat) : ∀ a b : List Int,horI (addL a b) x = horI a x + horI b x
 | [],b => by rw [addL,horI_nil,Rat.zero_add]
 | c :: a,[] => by rw [addL,horI_nil,Rat.add_zero];simp
 | c :: a,d :: b => by
   rw [addL,horI_cons,horI_cons,horI_cons,horI_add x a b,Rat.intCast_add]
   grind
def negL (l : List Int) : List Int := l.map fun u => -u
theorem horI_neg (x : Rat) : ∀ l : List Int,horI (negL l) x = -horI l x
 | [] => by show (0 : Rat) = -0;rw [Rat.neg_zero]
 | c :: l => by
   show horI (negL l) x * x + ((-c : Int) : Rat) = _
   rw [horI_neg x l,horI_cons,Rat.intCast_neg]
   grind
theorem horI_zero_cons (f : List Int) (x : Rat) : horI (0 :: f) x = horI f x * x := by
 rw [horI_cons]
 show _ + (0 : Rat) = _
 rw [Rat.add_zero]
theorem horI_one (c : Int) (x : Rat) : horI [c] x = (c : Rat) := by
 rw [horI_cons,horI_nil,Rat.zero_mul,Rat.zero_add]
def reflL : List Int → List Int
 | [] => []
 | c :: f => addL [c] (addL (reflL f) (negL (0 :: reflL f)))
theorem horI_refl (x : Rat) : ∀ f : List Int,horI (reflL f) x = horI f (1 - x)
 | [] => rfl
 | c :: f => by
   rw [reflL,horI_add,horI_add,horI_one,horI_neg,horI_zero_cons,horI_refl x f,horI_cons]
   grind
def ipB (n : Nat) : List Int := List.zipWith (fun (c : Nat) (u : Int) => (c : Int) * u) (prow n) (bU.take (n + 1)).reverse
theorem prow_length (n : Nat) : (prow n).length = n + 1 := by
 have h1 := prow_get n n
 have h2 := prow_get n (n + 1)
 rw [if_pos (Nat.le_refl _)] at h1
 rw [if_neg (by omega)] at h2
 obtain ⟨h3,_⟩ := List.getElem?_eq_some_iff.1 h1
 have := List.getElem?_eq_none_iff.1 h2
 omega
def bpL (n : Nat) : List Rat := (List.range (n + 1)).map fun j => ((ch n j : Int) : Rat) * bq (n - j)
theorem bpL_eq {n : Nat} (hn : n ≤ 60) : bpL n = (ipB n).map fun u => Rat.divInt u bL := by
 have hU : bU.length = 61 := rfl
 apply List.ext_getElem?
 intro j
 rw [bpL,List.getElem?_map,List.getElem?_map,ipB,List.getElem?_zipWith,prow_get]
 by_cases hj : j ≤ n
 ·rw [if_pos hj,List.getElem?_range (by omega),List.getElem?_reverse (by rw [List.length_take,hU];omega),List.length_take,hU,Nat.min_eq_left (by omega),List.getElem?_take,if_pos (by omega)]
  have e : bU[n + 1 - 1 - j]? = some (bU.getD (n - j) 0) := by
   rw [show n + 1 - 1 - j = n - j by omega]
   simp [show n - j < bU.length by omega]
  rw [e]
  simp only [Option.map_some]
  congr 1
  rw [bq,Rat.divInt_eq_div,Rat.divInt_eq_div,Rat.intCast_mul,Rat.div_def,Rat.div_def,Rat.mul_assoc]
 ·rw [if_neg hj,List.getElem?_eq_none (by simp;omega)]
  rfl
def chkR (n : Nat) : Bool := decide (reflL (ipB n) = if n % 2 = 0 then ipB n else negL (ipB n))
theorem chkR_all : ((List.range 42).all chkR) = true := by decide +kernel
end Go.Num
namespace Go.Num
theorem bp_refl {n : Nat} (hn : n ≤ 41) (x : Rat) : horQ (bpL n) (1 - x) = if n % 2 = 0 then horQ (bpL n) x else -horQ (bpL n) x := by
 have h := List.all_eq_true.1 chkR_all n (List.mem_range.2 (by omega))
 unfold chkR at h
 have h := of_decide_eq_true h
 rw [bpL_eq (by omega),horQ_scale,horQ_scale,← horI_refl,h]
 split
 ·rfl
 ·rw [horI_neg,Rat.neg_mul]
theorem ipB_small : ((List.range 42).all fun n => (ipB n).all fun u => Nat.ble (u.natAbs + 1) (2 ^ 255)) = true := by decide +kernel
theorem ipB_len {n : Nat} (hn : n ≤ 41) : ∀ u ∈ ipB n,len u ≤ 8 := by
 intro u hu
 have h := List.all_eq_true.1 (List.all_eq_true.1 ipB_small n (List.mem_range.2 (by omega))) u hu
 exact len_pow_lt (e := 8) (Nat.lt_of_lt_of_le (Nat.le_of_ble_eq_true h) (Nat.pow_le_pow_right (by omega) (by omega)))
theorem form_step {H D a d c : Rat} (hD : D ≠ 0) (hd : d ≠ 0) : H / D * (a / d) + c = (H * a + c * (D * d)) / (D * d) := by
 rw [Rat.div_def,Rat.div_def,Rat.div_def]
 have h1 : D * D⁻¹ = 1 := Rat.mul_inv_cancel _ hD
 have h2 : d * d⁻¹ = 1 := Rat.mul_inv_cancel _ hd
 have h3 : (D * d) * (D * d)⁻¹ = 1 := Rat.mul_inv_cancel _ (fun e => by
  rcases Rat.mul_eq_zero.1 e with h | h
  ·exact hD h
  ·exact hd h)
 have h4 : (D * d)⁻¹ = D⁻¹ * d⁻¹ := by
  generalize (D * d)⁻¹ = t at *
  generalize D⁻¹ = u at *
  generalize d⁻¹ = v at *
  grind
 rw [h4]
 generalize D⁻¹ = u at *
 generalize d⁻¹ = v at *
 grind
theorem horI_form {A C : Nat} {x : Rat} (h1 : len x.num ≤ A) (h2 : len (x.den : Int) ≤ A) : ∀ l : List Int,(∀ u ∈ l,len u ≤ C) → ∃ H : Int,horI l x = Rat.divInt H ((x.den : Int) ^ l.length) ∧ len H ≤ C + l.length * (A + 1) + 1
 | [],_ => ⟨0,by rw [Rat.zero_divInt];rfl,by rw [show len 0 = 0 by simp [len,digs_zero]];omega⟩
 | c :: f,hC => by
   obtain ⟨H,e,hH⟩ := horI_form h1 h2 f (fun u hu => hC u (by simp [hu]))
   have hc := hC c (by simp)
   refine ⟨H * x.num + c * ((x.den : Int) ^ f.length * (x.den : Int)),?_,?_⟩
   · rw [horI_cons,e]
     have hd : ((x.den : Int) : Rat) ≠ 0 := by
       intro h
       have : (x.den : Int) = 0 := by exact_mod_cast h
       have := x.den_nz
       omega
     have hD : (((x.den : Int) ^ f.length : Int) : Rat) ≠ 0 := by
       intro h
       have h5 : (x.den : Int) ^ f.length = 0 := by exact_mod_cast h
       have h6 : (x.den : Int) ≠ 0 := by have := x.den_nz;omega
       exact Int.pow_ne_zero h6 h5
     conv => lhs;arg 1;arg 2;rw [← Rat.num_divInt_den x]
     rw [List.length_cons,Int.pow_succ,Rat.divInt_eq_div,Rat.divInt_eq_div,Rat.divInt_eq_div,Rat.intCast_add,Rat.intCast_mul,Rat.intCast_mul,Rat.intCast_mul]
     exact form_step hD hd
   · have l1 := len_add (H * x.num) (c * ((x.den : Int) ^ f.length * (x.den : Int)))
     have l2 := len_mul H x.num
     have l3 := len_mul c ((x.den : Int) ^ f.length * (x.den : Int))
     have l4 := len_mul ((x.den : Int) ^ f.length) (x.den : Int)
     have l5 := len_pow (x.den : Int) f.length
     have l6 : f.length * len (x.den : Int) ≤ f.length * A := Nat.mul_le_mul_left _ h2
     rw [List.length_cons,Nat.succ_mul]
     rw [Nat.mul_add,Nat.mul_one] at hH ⊢
     omega
theorem lq_horI {A C : Nat} {x : Rat} (hx : lq x ≤ A) (l : List Int) (hC : ∀ u ∈ l,len u ≤ C) : lq (horI l x) ≤ C + l.length * (A + 1) + 1 + (l.length * A + 1) := by
 unfold lq at hx
 obtain ⟨H,e,hH⟩ := horI_form (A := A) (C := C) (x := x) (by omega) (by omega) l hC
 have hd : (x.den : Int) ^ l.length ≠ 0 := Int.pow_ne_zero (by have := x.den_nz;omega)
 obtain ⟨a1,a2⟩ := lq_divInt (n := H) hd
 have l5 := len_pow (x.den : Int) l.length
 have l6 : l.length * len (x.den : Int) ≤ l.length * A := Nat.mul_le_mul_left _ (by omega)
 rw [e]
 unfold lq
 omega
theorem lq_bLinv : lq ((bL : Rat)⁻¹) ≤ 10 := by decide +kernel
theorem lq_horB {A n k : Nat} {x : Rat} (hx : lq x ≤ A) (hA : A ≤ 1000) (hn : n ≤ 41) : lq (horQ ((bpL n).drop k) x) ≤ 100000 := by
 rw [bpL_eq (by omega),← List.map_drop,horQ_scale]
 have h1 := lq_horI hx ((ipB n).drop k) (C := 8) (fun u hu => ipB_len hn u (List.mem_of_mem_drop hu))
 have h2 := lq_mul (horI ((ipB n).drop k) x) ((bL : Rat)⁻¹)
 have h3 := lq_bLinv
 have hl : ((ipB n).drop k).length ≤ 42 := by
  have : (ipB n).length ≤ 42 := by
   rw [ipB,List.length_zipWith,prow_length]
   omega
  rw [List.length_drop]
  omega
 have h4 : ((ipB n).drop k).length * (A + 1) ≤ 42 * 1001 := Nat.mul_le_mul hl (by omega)
 have h5 : ((ipB n).drop k).length * A ≤ 42 * 1000 := Nat.mul_le_mul hl hA
 omega
end Go.Num
namespace Go.Num
theorem len_two {z : Int} {a e : Nat} (hz : z.natAbs ≤ 2 ^ a) (h : a < 32 * e) : len z ≤ e :=
 len_pow_lt (Nat.lt_of_le_of_lt hz (Nat.pow_lt_pow_right (by omega) h))
theorem len_npow {n k : Nat} (hn : n ≤ 16384) (hk : k ≤ 41) : len ((n : Int) ^ k) ≤ 20 := by
 have h1 : n ^ k ≤ (2 ^ 14) ^ k := Nat.pow_le_pow_left (by omega) k
 rw [← Nat.pow_mul] at h1
 exact len_two (a := 14 * k) (by rw [Int.natAbs_pow,Int.natAbs_natCast];exact h1) (by omega)
end Go.Num
namespace Go.Num
theorem lq_powQ (q : Rat) (n : Nat) : lq (q ^ n) ≤ n * lq q + 2 := by
 unfold lq
 rw [Rat.num_pow,Rat.den_pow,Int.natCast_pow,Nat.mul_add]
 have h1 := len_pow q.num n
 have h2 := len_pow (q.den : Int) n
 omega
theorem horI_form' {A C : Nat} {a d : Int} (hd0 : d ≠ 0) (h1 : len a ≤ A) (h2 : len d ≤ A) : ∀ l : List Int,(∀ u ∈ l,len u ≤ C) → ∃ H : Int,horI l (Rat.divInt a d) = Rat.divInt H (d ^ l.length) ∧ len H ≤ C + l.length * (A + 1) + 1
 | [],_ => ⟨0,by rw [Rat.zero_divInt];rfl,by rw [show len 0 = 0 by simp [len,digs_zero]];omega⟩
 | c :: f,hC => by
   obtain ⟨H,e,hH⟩ := horI_form' hd0 h1 h2 f (fun u hu => hC u (by simp [hu]))
   have hc := hC c (by simp)
   refine ⟨H * a + c * (d ^ f.length * d),?_,?_⟩
   · rw [horI_cons,e]
     have hd : (d : Rat) ≠ 0 := by
       intro h
       exact hd0 (by exact_mod_cast h)
     have hD : ((d ^ f.length : Int) : Rat) ≠ 0 := by
       intro h
       have h5 : d ^ f.length = 0 := by exact_mod_cast h
       exact Int.pow_ne_zero hd0 h5
     rw [List.length_cons,Int.pow_succ,Rat.divInt_eq_div,Rat.divInt_eq_div,Rat.divInt_eq_div,Rat.intCast_add,Rat.intCast_mul,Rat.intCast_mul,Rat.intCast_mul]
     exact form_step hD hd
   · have l1 := len_add (H * a) (c * (d ^ f.length * d))
     have l2 := len_mul H a
     have l3 := len_mul c (d ^ f.length * d)
     have l4 := len_mul (d ^ f.length) d
     have l5 := len_pow d f.length
     have l6 : f.length * len d ≤ f.length * A := Nat.mul_le_mul_left _ h2
     rw [List.length_cons,Nat.succ_mul]
     rw [Nat.mul_add,Nat.mul_one] at hH ⊢
     omega
def trm (k f j : Nat) : Rat := ((f : Int) : Rat) ^ (k - 1) * horQ (bpL k) (Rat.divInt ((j + 1 : Nat) : Int) (f : Int))
def trmD (k f : Nat) : Int := (f : Int) ^ (k + 1) * bL
theorem ipB_length {k : Nat} (hk : k ≤ 60) : (ipB k).length = k + 1 := by
 have hU : bU.length = 61 := rfl
 rw [ipB,List.length_zipWith,prow_length,List.length_reverse,List.length_take,hU]
 omega
theorem trm_form {k f j : Nat} (hk : k ≤ 40) (hf : 1 ≤ f) (hf2 : f ≤ 60) (hj : j < f) : ∃ H : Int,trm k f j = Rat.divInt H (trmD k f) ∧ len H ≤ 200 := by
 have la : len ((j + 1 : Nat) : Int) ≤ 1 := len_pow_lt (e := 1) (by omega)
 have lf : len (f : Int) ≤ 1 := len_pow_lt (e := 1) (by omega)
 obtain ⟨H,e,hH⟩ := horI_form' (A := 1) (C := 8) (a := ((j + 1 : Nat) : Int)) (d := (f : Int)) (by omega) la lf (ipB k) (fun u hu => ipB_len (by omega) u hu)
 rw [ipB_length (by omega)] at e hH
 refine ⟨(f : Int) ^ (k - 1) * H,?_,?_⟩
 ·rw [trm,trmD,bpL_eq (by omega),horQ_scale,e,Rat.divInt_eq_div,Rat.divInt_eq_div,Rat.div_def,Rat.div_def,Rat.intCast_mul,Rat.intCast_mul,Rat.intCast_pow,Rat.inv_mul_rev,Rat.mul_assoc,Rat.mul_assoc]
  congr 2
  all_goals (first | exact (Rat.intCast_pow _ _).symm | exact Rat.mul_comm _ _ | trace_state)
 ·have l1 := len_mul ((f : Int) ^ (k - 1)) H
  have l2 := len_pow (f : Int) (k - 1)
  have l3 : (k - 1) * len (f : Int) ≤ (k - 1) * 1 := Nat.mul_le_mul_left _ lf
  omega
theorem trmD_ne {k f : Nat} (hf : 1 ≤ f) : trmD k f ≠ 0 := Int.mul_ne_zero (Int.pow_ne_zero (by omega)) bL_ne
theorem len_trmD {k f : Nat} (hk : k ≤ 40) (hf2 : f ≤ 60) : len (trmD k f) ≤ 60 := by
 have lf : len (f : Int) ≤ 1 := len_pow_lt (e := 1) (by omega)
 have l1 := len_mul ((f : Int) ^ (k + 1)) bL
 have l2 := len_pow (f : Int) (k + 1)
 have l3 : (k + 1) * len (f : Int) ≤ (k + 1) * 1 := Nat.mul_le_mul_left _ lf
 have := bL_len
 rw [trmD]
 omega
theorem lq_trm {k f j : Nat} (hk : k ≤ 40) (hf : 1 ≤ f) (hf2 : f ≤ 60) (hj : j < f) : lq (trm k f j) ≤ 300 := by
 obtain ⟨H,e,hH⟩ := trm_form hk hf hf2 hj
 have h1 := lq_divInt (n := H) (trmD_ne (k := k) hf)
 have h2 := len_trmD hk hf2
 rw [e]
 unfold lq
 omega
def qsum (c : Nat → Int) (k f : Nat) : Nat → Rat
 | 0 => 0
 | n + 1 => qsum c k f n + (c n : Rat) * trm k f n
theorem qsum_zero (c : Nat → Int) (k f : Nat) : qsum c k f 0 = 0 := rfl
theorem qsum_succ (c : Nat → Int) (k f n : Nat) : qsum c k f (n + 1) = qsum c k f n + (c n : Rat) * trm k f n := rfl
theorem len_sgn {c : Int} (hc : c = 1 ∨ c = 0 ∨ c = -1) (H : Int) : len (c * H) ≤ len H := by
 rcases hc with rfl | rfl | rfl
 ·rw [Int.one_mul];exact Nat.le_refl _
 ·rw [Int.zero_mul,show len 0 = 0 by simp [len,digs_zero]];omega
 ·rw [Int.neg_mul,Int.one_mul,len_neg];exact Nat.le_refl _
theorem qsum_form {c : Nat → Int} {k f : Nat} (hc : ∀ j,j < f → c j = 1 ∨ c j = 0 ∨ c j = -1) (hk : k ≤ 40) (hf : 1 ≤ f) (hf2 : f ≤ 60) : ∀ n,n ≤ f → ∃ N : Int,qsum c k f n = Rat.divInt N (trmD k f) ∧ len N ≤ 200 + n
 | 0,_ => ⟨0,by rw [Rat.zero_divInt];rfl,by rw [show len 0 = 0 by simp [len,digs_zero]];omega⟩
 | n + 1,h => by
   obtain ⟨N,e,hN⟩ := qsum_form hc hk hf hf2 n (by omega)
   obtain ⟨H,e2,hH⟩ := trm_form hk hf hf2 (j := n) (by omega)
   have l1 := len_add N (c n * H)
   have l2 := len_sgn (hc n (by omega)) H
   exact ⟨N + c n * H,by rw [qsum_succ,e,e2,divInt_lin],by omega⟩
def smd (k f n : Nat) : List Rat := (List.range n).map (trm k f)
theorem smd_length (k f n : Nat) : (smd k f n).length = n := by simp [smd]
theorem smd_succ (k f n : Nat) : smd k f (n + 1) = smd k f n ++ [trm k f n] := by simp [smd,List.range_succ]
theorem smd_getD {k f n j : Nat} (h : j < n) : (smd k f n).getD j 0 = trm k f j := by simp [smd,h]
end Go.Num
namespace Go.Num
def frm (D : Int) (L : Nat) (q : Rat) : Prop := ∃ z : Int,q = Rat.divInt z D ∧ len z ≤ L
theorem frm_zero (D : Int) (L : Nat) : frm D L 0 := ⟨0,by rw [Rat.zero_divInt],by rw [show len 0 = 0 by simp [len,digs_zero]];omega⟩
theorem frm.mono {D : Int} {L M : Nat} {q : Rat} (h : frm D L q) (hM : L ≤ M) : frm D M q := by
 obtain ⟨z,e,hz⟩ := h
 exact ⟨z,e,by omega⟩
theorem frm.lq {D : Int} {L K : Nat} {q : Rat} (h : frm D L q) (hD : D ≠ 0) (hK : len D ≤ K) : lq q ≤ L + K := by
 obtain ⟨z,e,hz⟩ := h
 obtain ⟨h1,h2⟩ := lq_divInt (n := z) hD
 rw [e]
 unfold Go.Num.lq
 omega
theorem frm.neg {D : Int} {L : Nat} {q : Rat} (h : frm D L q) : frm D L (-q) := by
 obtain ⟨z,e,hz⟩ := h
 exact ⟨-z,by rw [e,Rat.neg_divInt],by rw [len_neg];exact hz⟩
theorem frm.add {D : Int} {L : Nat} {p q : Rat} (h : frm D L p) (k : frm D L q) : frm D (L + 1) (p + q) := by
 obtain ⟨z,e,hz⟩ := h
 obtain ⟨w,f,hw⟩ := k
 have h1 := len_add z w
 refine ⟨z + w,?_,by omega⟩
 have := divInt_lin z 1 w D
 rw [Int.one_mul] at this
 rw [this,e,f,Rat.intCast_one,Rat.one_mul]
def one1 (b : Rat) : Prop := b = 1 ∨ b = 0 ∨ b = -1
theorem frm.mul1 {D : Int} {L : Nat} {c b : Rat} (h : frm D L c) (hb : one1 b) : frm D L (c * b) := by
 rcases hb with rfl | rfl | rfl
 ·rw [Rat.mul_one];exact h
 ·rw [Rat.mul_zero];exact frm_zero D L
 ·rw [Rat.mul_neg,Rat.mul_one];exact h.neg
theorem frm.sub1 {D : Int} {L : Nat} {a c b : Rat} (h : frm D L a) (k : frm D L c) (hb : one1 b) : frm D (L + 1) (a - c * b) := by
 rw [Rat.sub_eq_add_neg]
 exact h.add (k.mul1 hb).neg
def subQ (c : Rat) : List Rat → List Rat → Nat → List Rat
 | [],r,_ => r
 | b :: g,r,i => subQ c g (r.set i (r.getD i 0 - c * b)) (i + 1)
def divR (g : List Rat) : Nat → List Rat → List Rat
 | 0,r => r
 | k + 1,r => divR g k (subQ (r.getD (k + g.length - 1) 0) g r k)
theorem subQ_len (c : Rat) : ∀ (g r : List Rat) (i : Nat),(subQ c g r i).length = r.length
 | [],r,_ => rfl
 | b :: g,r,i => by rw [subQ,subQ_len c g,List.length_set]
theorem divR_len (g : List Rat) : ∀ (k : Nat) (r : List Rat),(divR g k r).length = r.length
 | 0,r => rfl
 | k + 1,r => by rw [divR,divR_len g k,subQ_len]
theorem set_getD_same {r : List Rat} {i j : Nat} {x : Rat} (P : Rat → Prop) (hx : P x) (h : P (r.getD j 0)) : P ((r.set i x).getD j 0) := by
 by_cases hj : j < r.length
 ·by_cases e : i = j
  ·subst e
   simpa [List.getD,hj] using hx
  ·have : (r.set i x).getD j 0 = r.getD j 0 := by simp [List.getD,List.getElem?_set,e]
   rw [this];exact h
 ·have : (r.set i x).getD j 0 = r.getD j 0 := by simp [List.getD,Nat.le_of_not_lt hj]
  rw [this];exact h
theorem set_getD_ne {r : List Rat} {i j : Nat} {x : Rat} (h : i ≠ j) : (r.set i x).getD j 0 = r.getD j 0 := by simp [List.getD,List.getElem?_set,h]
theorem subQ_frm {D : Int} {L : Nat} {c : Rat} (hc : frm D L c) : ∀ (g r : List Rat) (i : Nat),(∀ b ∈ g,one1 b) → (∀ j,j < i → frm D (L + 1) (r.getD j 0)) → (∀ j,i ≤ j → frm D L (r.getD j 0)) → ∀ j,frm D (L + 1) ((subQ c g r i).getD j 0)
 | [],r,i,_,h1,h2,j => by
   rcases Nat.lt_or_ge j i with h | h
   · exact h1 j h
   · exact (h2 j h).mono (by omega)
 | b :: g,r,i,hg,h1,h2,j => by
   rw [subQ]
   have hi := (h2 i (Nat.le_refl _)).sub1 hc (hg b (by simp))
   refine subQ_frm hc g _ (i + 1) (fun b hb => hg b (by simp [hb])) (fun j hj => ?_) (fun j hj => ?_) j
   · refine set_getD_same _ hi ?_
     rcases Nat.lt_or_ge j i with h | h
     · exact h1 j h
     · exact (h2 j h).mono (by omega)
   · rw [set_getD_ne (by omega)]
     exact h2 j (by omega)
theorem divR_frm {D : Int} {g : List Rat} (hg : ∀ b ∈ g,one1 b) : ∀ (k L : Nat) (r : List Rat),(∀ j,frm D L (r.getD j 0)) → ∀ j,frm D (L + k) ((divR g k r).getD j 0)
 | 0,L,r,h,j => h j
 | k + 1,L,r,h,j => by
   rw [divR]
   have := divR_frm hg k (L + 1) (subQ (r.getD (k + g.length - 1) 0) g r k) (subQ_frm (h (k + g.length - 1)) g r k hg (fun j _ => (h j).mono (by omega)) (fun j _ => h j)) j
   exact this.mono (by omega)
def sml (q : Rat) : Bool := decide (lq q ≤ 5000)
theorem sml_lq {q : Rat} (h : sml q = true) : lq q ≤ 5000 := of_decide_eq_true h
theorem sml_of {q : Rat} (h : lq q ≤ 5000) : sml q = true := decide_eq_true h
def subS (c : Rat) : List Rat → List Rat → Nat → Option (List Rat)
 | [],r,_ => some r
 | b :: g,r,i => bif sml (c * b) && sml (r.getD i 0 - c * b) then subS c g (r.set i (r.getD i 0 - c * b)) (i + 1) else none
def divS (g : List Rat) (gl : Rat) : Nat → List (Option Rat) → List Rat → Option (List (Option Rat) × List Rat)
 | 0,q,r => some (q,r)
 | k + 1,q,r => bif sml (r.getD (k + g.length - 1) 0 / gl) then (if r.getD (k + g.length - 1) 0 / gl = 0 then divS g gl k (q.set k (some (r.getD (k + g.length - 1) 0 / gl))) r else match subS (r.getD (k + g.length - 1) 0 / gl) g r k with
   | some r' => divS g gl k (q.set k (some (r.getD (k + g.length - 1) 0 / gl))) r'
   | none => none) else none
theorem subS_ok {D : Int} {L : Nat} {c : Rat} (hD : D ≠ 0) (hK : len D ≤ 60) (hL : L ≤ 4000) (hc : frm D L c) : ∀ (g r : List Rat) (i : Nat),(∀ b ∈ g,one1 b) → (∀ j,i ≤ j → frm D L (r.getD j 0)) → subS c g r i = some (subQ c g r i)
 | [],r,i,_,_ => rfl
 | b :: g,r,i,hg,h2 => by
   have hb := hg b (by simp)
   have s1 := sml_of (q := c * b) (by have := (hc.mul1 hb).lq hD hK;omega)
   have s2 := sml_of (q := r.getD i 0 - c * b) (by have := ((h2 i (Nat.le_refl _)).sub1 hc hb).lq hD hK;omega)
   rw [subS,subQ,s1,s2]
   simp only [Bool.and_self,cond_true]
   exact subS_ok hD hK hL hc g _ (i + 1) (fun b hb => hg b (by simp [hb])) (fun j hj => by
     rw [set_getD_ne (by omega)]
     exact h2 j (by omega))
theorem set_same {r : List Rat} {i : Nat} : r.set i (r.getD i 0) = r := by
 refine List.ext_getElem (by simp) (fun j h1 h2 => ?_)
 rw [List.getElem_set]
 split
 ·rename_i e;subst e;simp [List.getD,h2]
 ·rfl
theorem subQ_zero : ∀ (g r : List Rat) (i : Nat),subQ 0 g r i = r
 | [],r,_ => rfl
 | b :: g,r,i => by rw [subQ,Rat.zero_mul,Rat.sub_eq_add_neg,Rat.neg_zero,Rat.add_zero,set_same,subQ_zero g r]
theorem divS_ok {D : Int} {g : List Rat} (hD : D ≠ 0) (hK : len D ≤ 60) (hg : ∀ b ∈ g, one1 b) : ∀ (k L : Nat) (q : List (Option Rat)) (r : List Rat), L + k ≤ 4000 → (∀ j, frm D L (r.getD j 0)) → (∀ j, k ≤ j → j < q.length → q.getD j none ≠ none) →
  ∃ q',divS g 1 k q r = some (q',divR g k r) ∧ q'.length = q.length ∧ ∀ j,j < q.length → q'.getD j none ≠ none
 | 0,L,q,r,_,_,hq => ⟨q,rfl,rfl,fun j hj => hq j (Nat.zero_le _) hj⟩
 | k + 1,L,q,r,hL,hr,hq => by
   have e1 : r.getD (k + g.length - 1) 0 / 1 = r.getD (k + g.length - 1) 0 := by
     rw [Rat.div_def,show (1 : Rat)⁻¹ = 1 by decide +kernel,Rat.mul_one]
   have hc := hr (k + g.length - 1)
   have s1 := sml_of (q := r.getD (k + g.length - 1) 0) (by have := hc.lq hD hK;omega)
   have hq' : ∀ j,k ≤ j → j < (q.set k (some (r.getD (k + g.length - 1) 0))).length → (q.set k (some (r.getD (k + g.length - 1) 0))).getD j none ≠ none := fun j h1 h2 => by
     rw [List.length_set] at h2
     by_cases e : k = j
     · subst e;simp [List.getD,h2]
     · have : (q.set k (some (r.getD (k + g.length - 1) 0))).getD j none = q.getD j none := by simp [List.getD,List.getElem?_set,e]
       rw [this]
       exact hq j (by omega) h2
   rw [divS,e1,s1,cond_true,divR]
   split
   · rename_i h0
     rw [h0] at hq'
     rw [h0,subQ_zero]
     obtain ⟨q',h1,h2,h3⟩ := divS_ok hD hK hg k L _ r (by omega) hr hq'
     exact ⟨q',h1,by rw [h2,List.length_set],fun j hj => h3 j (by rw [List.length_set];exact hj)⟩
   · rw [subS_ok hD hK (by omega) hc g r k hg (fun j _ => hr j)]
     obtain ⟨q',h1,h2,h3⟩ := divS_ok hD hK hg k (L + 1) _ _ (by omega) (subQ_frm hc g r k hg (fun j _ => (hr j).mono (by omega)) (fun j _ => hr j)) hq'
     exact ⟨q',h1,by rw [h2,List.length_set],fun j hj => h3 j (by rw [List.length_set];exact hj)⟩
theorem opt_somes {q : List (Option Rat)} (h : ∀ j,j < q.length → q.getD j none ≠ none) : ∃ Q : List Rat,q = Q.map some ∧ Q.length = q.length := by
 refine ⟨q.map fun o => o.getD 0,?_,by simp⟩
 refine List.ext_getElem (by simp) (fun j h1 h2 => ?_)
 have := h j h1
 simp only [List.getD,List.getElem?_eq_getElem h1,Option.getD_some] at this
 cases hj : q[j] with
 | none => exact absurd hj this
 | some x => simp [hj]
end Go.Num
namespace Go.Num
def ixc (ix : Nat → Option Nat) (i a : Nat) : Int := if ix a = some i then 1 else 0
def pwC (ix : Nat → Option Nat) (k f j i : Nat) : Rat := qsum (ixc ix i) k f j
def tcC (ix : Nat → Option Nat) (j i : Nat) : Bool := (List.range j).any fun a => decide (ix a = some i)
def plP (ix : Nat → Option Nat) (k f o j : Nat) : List (Option Rat) := (List.range o).map fun i => if tcC ix j i = true then some (pwC ix k f j i) else none
def plR (ix : Nat → Option Nat) (k f o j : Nat) : List Rat := (List.range o).map (pwC ix k f j)
theorem ixc_sgn (ix : Nat → Option Nat) (i a : Nat) : ixc ix i a = 1 ∨ ixc ix i a = 0 ∨ ixc ix i a = -1 := by
 unfold ixc
 split
 ·exact .inl rfl
 ·exact .inr (.inl rfl)
theorem plP_len (ix : Nat → Option Nat) (k f o j : Nat) : (plP ix k f o j).length = o := by simp [plP]
theorem plR_len (ix : Nat → Option Nat) (k f o j : Nat) : (plR ix k f o j).length = o := by simp [plR]
theorem tcC_succ (ix : Nat → Option Nat) (j i : Nat) : tcC ix (j + 1) i = (tcC ix j i || decide (ix j = some i)) := by
 unfold tcC
 rw [List.range_succ,List.any_append]
 simp
theorem pwC_hit {ix : Nat → Option Nat} {k f j i : Nat} (h : ix j = some i) : pwC ix k f (j + 1) i = pwC ix k f j i + trm k f j := by
 unfold pwC
 rw [qsum_succ,ixc,if_pos h,Rat.intCast_one,Rat.one_mul]
theorem pwC_miss {ix : Nat → Option Nat} {k f j i : Nat} (h : ix j ≠ some i) : pwC ix k f (j + 1) i = pwC ix k f j i := by
 unfold pwC
 rw [qsum_succ,ixc,if_neg h,Rat.intCast_zero,Rat.zero_mul,Rat.add_zero]
theorem pwC_none {ix : Nat → Option Nat} {k f : Nat} : ∀ {j i : Nat},tcC ix j i = false → pwC ix k f j i = 0
 | 0,_,_ => rfl
 | j + 1,i,h => by
   rw [tcC_succ,Bool.or_eq_false_iff,decide_eq_false_iff_not] at h
   rw [pwC_miss h.2,pwC_none h.1]
theorem plP_get {ix : Nat → Option Nat} {k f o j i : Nat} (hi : i < o) : (plP ix k f o j).getD i none = if tcC ix j i = true then some (pwC ix k f j i) else none := by simp [plP,hi]
theorem plR_get {ix : Nat → Option Nat} {k f o j i : Nat} (hi : i < o) : (plR ix k f o j).getD i 0 = pwC ix k f j i := by simp [plR,hi]
theorem plP_zero (ix : Nat → Option Nat) (k f o : Nat) : plP ix k f o 0 = List.replicate o none := by
 unfold plP tcC
 simp [List.map_const']
theorem plR_zero (ix : Nat → Option Nat) (k f o : Nat) : plR ix k f o 0 = List.replicate o 0 := by
 unfold plR
 have : pwC ix k f 0 = fun _ => 0 := rfl
 rw [this,List.map_const',List.length_range]
theorem plP_hit {ix : Nat → Option Nat} {k f o j i : Nat} (h : ix j = some i) (hi : i < o) : (plP ix k f o j).set i (some (pwC ix k f j i + trm k f j)) = plP ix k f o (j + 1) := by
 unfold plP
 refine set_range ?_ (fun m hm hne => ?_)
 ·rw [tcC_succ,decide_eq_true h,Bool.or_true,if_pos rfl,pwC_hit h]
 ·have hm' : ix j ≠ some m := fun e => hne (by rw [h] at e;injection e with e;exact e.symm)
  rw [tcC_succ,decide_eq_false hm',Bool.or_false,pwC_miss hm']
theorem plR_hit {ix : Nat → Option Nat} {k f o j i : Nat} (h : ix j = some i) (hi : i < o) : (plR ix k f o j).set i (pwC ix k f j i + trm k f j) = plR ix k f o (j + 1) := by
 unfold plR
 refine set_range ?_ (fun m hm hne => ?_)
 ·rw [pwC_hit h]
 ·have hm' : ix j ≠ some m := fun e => hne (by rw [h] at e;injection e with e;exact e.symm)
  rw [pwC_miss hm']
theorem plP_miss {ix : Nat → Option Nat} {k f o j : Nat} (h : ix j = none) : plP ix k f o (j + 1) = plP ix k f o j := by
 unfold plP
 refine List.map_congr_left (fun i _ => ?_)
 have hm' : ix j ≠ some i := fun e => by rw [h] at e;cases e
 rw [tcC_succ,decide_eq_false hm',Bool.or_false,pwC_miss hm']
theorem plR_miss {ix : Nat → Option Nat} {k f o j : Nat} (h : ix j = none) : plR ix k f o (j + 1) = plR ix k f o j := by
 unfold plR
 refine List.map_congr_left (fun i _ => ?_)
 have hm' : ix j ≠ some i := fun e => by rw [h] at e;cases e
 rw [pwC_miss hm']
theorem frm_pwC {ix : Nat → Option Nat} {k f j i : Nat} (hk : k ≤ 40) (hf : 1 ≤ f) (hf2 : f ≤ 60) (hj : j ≤ f) : frm (trmD k f) 260 (pwC ix k f j i) := by
 obtain ⟨N,e,hN⟩ := qsum_form (c := ixc ix i) (fun a _ => ixc_sgn ix i a) hk hf hf2 j hj
 exact ⟨N,e,by omega⟩
theorem lq_pwC {ix : Nat → Option Nat} {k f j i : Nat} (hk : k ≤ 40) (hf : 1 ≤ f) (hf2 : f ≤ 60) (hj : j ≤ f) : lq (pwC ix k f j i) ≤ 320 := by
 have := (frm_pwC (ix := ix) (i := i) hk hf hf2 hj).lq (trmD_ne hf) (len_trmD hk hf2)
 omega
theorem frm_plR {ix : Nat → Option Nat} {k f o j : Nat} (hk : k ≤ 40) (hf : 1 ≤ f) (hf2 : f ≤ 60) (hj : j ≤ f) (i : Nat) : frm (trmD k f) 260 ((plR ix k f o j).getD i 0) := by
 by_cases hi : i < o
 ·rw [plR_get hi];exact frm_pwC hk hf hf2 hj
 ·have : (plR ix k f o j).getD i 0 = 0 := by simp [List.getD,plR_len,Nat.le_of_not_lt hi]
  rw [this];exact frm_zero _ _
theorem plP_small {ix : Nat → Option Nat} {k f o j : Nat} (hk : k ≤ 40) (hf : 1 ≤ f) (hf2 : f ≤ 60) (hj : j ≤ f) : ∀ q,some q ∈ plP ix k f o j → lq q ≤ 100000 := by
 intro q hq
 unfold plP at hq
 rw [List.mem_map] at hq
 obtain ⟨i,_,h⟩ := hq
 split at h
 ·injection h with h
  rw [← h]
  exact Nat.le_trans (lq_pwC hk hf hf2 hj) (by omega)
 ·cases h
theorem plP_vals (ix : Nat → Option Nat) (k f o j : Nat) : (plP ix k f o j).map (fun o => o.getD 0) = plR ix k f o j := by
 unfold plP plR
 rw [List.map_map]
 refine List.map_congr_left (fun i _ => ?_)
 simp only [Function.comp]
 cases ht : tcC ix j i with
 | true => simp
 | false => simp [pwC_none ht]
end Go.Num
namespace Go.Proofs.YtaidcaemdkncgaaGreatDoor
open Go Go.Lg Go.Num
def smlL (l : List Rat) : Prop := ∀ q ∈ l,sml q = true
theorem smlL_get {l : List Rat} (h : smlL l) {i : Nat} (hi : i < l.length) : lq (l.getD i 0) ≤ 5000 := by
 have : l.getD i 0 = l[i] := by simp [hi]
 rw [this]
 exact sml_lq (h _ (List.getElem_mem hi))
theorem smlL_set {l : List Rat} (h : smlL l) {i : Nat} {q : Rat} (hq : sml q = true) : smlL (l.set i q) := by
 intro x hx
 rcases List.mem_or_eq_of_mem_set hx with h1 | rfl
 ·exact h x h1
 ·exact hq
theorem divS_zero (g : List Rat) (gl : Rat) (q : List (Option Rat)) (r : List Rat) : divS g gl 0 q r = some (q,r) := rfl
theorem divS_succ {g : List Rat} {gl : Rat} {k : Nat} {q : List (Option Rat)} {r : List Rat} {x : List (Option Rat) × List Rat} (h : divS g gl (k + 1) q r = some x) : sml (r.getD (k + g.length - 1) 0 / gl) = true ∧ (r.getD (k + g.length - 1) 0 / gl = 0 ∧ divS g gl k (q.set k (some (r.getD (k + g.length - 1) 0 / gl))) r = some x ∨ r.getD (k + g.length - 1) 0 / gl ≠ 0 ∧ ∃ r',subS (r.getD (k + g.length - 1) 0 / gl) g r k = some r' ∧ divS g gl k (q.set k (some (r.getD (k + g.length - 1) 0 / gl))) r' = some x) := by
 rw [divS] at h
 cases ht : sml (r.getD (k + g.length - 1) 0 / gl) with
 | false => rw [ht,cond_false] at h;cases h
 | true =>
   rw [ht,cond_true] at h
   refine ⟨rfl,?_⟩
   split at h
   · rename_i hz
     exact .inl ⟨hz,h⟩
   · rename_i hz
     split at h
     · rename_i r' hr
       exact .inr ⟨hz,r',hr,h⟩
     · cases h
theorem subS_nil (c : Rat) (r : List Rat) (i : Nat) : subS c [] r i = some r := rfl
theorem subS_cons {c b : Rat} {g r r' : List Rat} {i : Nat} (h : subS c (b :: g) r i = some r') : sml (c * b) = true ∧ sml (r.getD i 0 - c * b) = true ∧ subS c g (r.set i (r.getD i 0 - c * b)) (i + 1) = some r' := by
 rw [subS] at h
 cases ht : (sml (c * b) && sml (r.getD i 0 - c * b)) with
 | false => rw [ht,cond_false] at h;cases h
 | true =>
   rw [ht,cond_true] at h
   rw [Bool.and_eq_true] at ht
   exact ⟨ht.1,ht.2,h⟩
attribute [local irreducible] Go.Lg.lrun Go.Lg.lwp Go.Lg.exThen Go.Lg.exBlk Go.Lg.keep Go.Lg.goodPost sg mg sml subS divS oc
theorem qdivS_short (f g : List Rat) (lf : lastQ f) (tf : smlL f) (hl : f.length < g.length) (hg : g.length ≤ 1000) : PureGood Tryz.prog 286 [encF f,encF g] (.tup [.sl 0 [],encF f]) := by
 have gn := qpnorm_good f (by omega) (fun c hc => by have := sml_lq (tf c hc);omega)
 rw [trimQ_last lf] at gn
 simp only [encF_qc] at *
 refine good_of_lwp mix Tryz.func286 rfl (by decide) (nt := 87) rfl (rs := [.tmp 4,.tmp 5]) rfl (nle rfl) ?_
 (repeat(first|refine zW ?_|refine zG1 ?_|refine zD1 ?_|refine zT1 ?_))
 exact zQ1
theorem qdivS_long (f g Q R : List Rat) (D : Nat) (lf : lastQ f) (tf : smlL f) (tg : smlL g) (hG : 1 ≤ g.length) (hg : g.length ≤ 1000) (hf : f.length ≤ 1000) (hD : f.length + 1 = D + g.length) (hD1 : 1 ≤ D) (h0 : g.getD (g.length - 1) 0 ≠ 0)
  (h : divS g (g.getD (g.length - 1) 0) D (List.replicate D none) f = some (Q.map some,R)) (hQ : Q.length ≤ 1000) (hR : R.length ≤ 1000) : PureGood Tryz.prog 286 [encF f,encF g] (.tup [encF (trimQ Q),encF (trimQ R)]) := by
 have gn := qpnorm_new f lf (by omega) (fun c hc => by have := sml_lq (tf c hc);omega)
 have t1 := qtrim_good Q (by omega)
 have t2 := qtrim_good R (by omega)
 have hDz : ((f.length : Int) - (g.length : Int) + 1).toNat = D := by omega
 have lgl := smlL_get tg (i := g.length - 1) (by omega)
 simp only [encF_qc] at *
 refine good_of_lwp mix Tryz.func286 rfl (by decide) (nt := 87) rfl (rs := [.tmp 4,.tmp 5]) rfl (nle rfl) ?_
 (repeat(first|refine zW ?_|refine zG1 ?_|refine zD1 ?_|refine zT1 ?_))
 refine l_ncall (by simp only [List.size_toArray,List.length_cons,List.length_nil,Nat.reduceAdd,Nat.max_def,Nat.reduceLeDiff,↓reduceIte];exact rfl) rfl rfl rfl (by decide) rfl (by simp (disch := first|omega|exact kD rfl|exact kX rfl) only [smY,simprocAttr,bl,i64,smT];try exact rfl) gn (by simp [plainC]) (by simp [upd]) ?_
 (repeat (first|refine zW ?_|((first|apply l_go rfl|apply c_dec|apply zT rfl (by decide) rfl);(case hs=>(simp (disch := first|omega|exact kD rfl|exact kX rfl) only [smY,simprocAttr,bl,i64,smT,smO,hDz];exact rfl));first|refine c_bt ?_|refine c_bf ?_|refine zq ?_|(case hg=>assumption))))
 refine w_loop (α := {x : Nat × List (Option Rat) × List Rat // x.1 ≤ D ∧ x.2.1.length = D ∧ x.2.2.length = f.length ∧ smlL x.2.2 ∧ divS g (g.getD (g.length - 1) 0) x.1 x.2.1 x.2.2 = some (Q.map some,R)}) (fun x => st 87 (lk [(0,.sl f.length (qc f)),(1,.sl g.length (qc g)),(4,.own 0 0 D 4),(5,.own 1 0 f.length 4),(6,i64 ((x.1.1 : Int) - 1))]) (lkH [(0,⟨47,oc x.1.2.1,false⟩),(1,⟨47,qc x.1.2.2,false⟩)]) 2) (fun x => x.1.1) ⟨(D,List.replicate D none,f),Nat.le_refl _,by simp,rfl,tf,h⟩ ?_ ?_
 ·(refine Sub.heapL [17,5] rfl (by decide) ?_ (by simp only [smL];decide) ?_ ?_;all_goals (first|(simp only [plainC,smF,dg,renL,renLs,simprocAttr,bl,i64,smT,smO,hDz];done) | (simp only [smF,dg,renL,renLs,simprocAttr,bl,i64,smT,smO,hDz];(repeat' apply And.intro);all_goals rfl) | (simp only [smF,dg,renL,renLs,simprocAttr,bl,i64,smT,smO,hDz]) | skip))
  all_goals (first | done | ((repeat' apply And.intro);all_goals (first | trivial | rfl)))
 ·rintro ⟨⟨k,q,r⟩,hk,hq,hr,tr,hd⟩
  simp only at hk hq hr tr hd
  simp only [st]
  by_cases hk0 : k = 0
  ·subst hk0
   rw [divS_zero] at hd
   injection hd with hd
   injection hd with hd1 hd2
   subst hd1 hd2
   rw [List.length_map] at hq
   rw [oc_some]
   rw [hq] at t1
   rw [hr] at t2
   (repeat(first|refine zW ?_|refine zG6 ?_|refine zD6 ?_|refine zT6 ?_))
   exact zQ6
  ·obtain ⟨k,rfl⟩ : ∃ j,k = j + 1 := ⟨k - 1,by omega⟩
   obtain ⟨tc,hd⟩ := divS_succ hd
   have la := smlL_get tr (i := k + g.length - 1) (by omega)
   have gq := quo_good (r.getD (k + g.length - 1) 0) (g.getD (g.length - 1) 0) h0 (by omega) (by omega)
   have gz := qzero_good (r.getD (k + g.length - 1) 0 / g.getD (g.length - 1) 0) (by have := sml_lq tc;omega)
   have lc := sml_lq tc
   generalize hc : r.getD (k + g.length - 1) 0 / g.getD (g.length - 1) 0 = c at *
   generalize ha : r.getD (k + g.length - 1) 0 = a at *
   generalize hgl : g.getD (g.length - 1) 0 = gl at *
   have hk1 : ((k + 1 : Nat) : Int) - 1 = k := by omega
   have hset := oc_set (l := q) (j := k) (by omega) c
   have hgs : (q.set k (some c)).getD k none = some c := by simp [show k < q.length by omega]
   have hql : (q.set k (some c)).length = D := by simp [hq]
   simp only [encQ_sm] at gq gz
   rcases hd with ⟨c0,hd⟩ | ⟨c0,r',hs,hd⟩
   ·rw [dec_t c0] at gz
    simp only [i64,bl] at *
    (repeat (first|refine zW ?_|((first|apply l_go rfl|apply c_dec|apply zT rfl (by decide) rfl);(case hs=>(simp (disch := first|omega|exact kD rfl|exact kX rfl) only [smY,simprocAttr,bl,i64,smT,smO,ha,hgl,hk1,hset,hgs];exact rfl));first|refine c_bt ?_|refine c_bf ?_|refine zq ?_|(case hg=>assumption))))
    refine ⟨⟨(k,q.set k (some c),r),by simp only;omega,by simp only;exact hql,hr,tr,hd⟩,?_,by simp only;omega⟩
    (refine Sub.heapL [0,1] rfl (by decide) ?_ (by simp only [smL];decide) ?_ ?_;all_goals (first|(simp only [plainC,smF,dg,renL,renLs,simprocAttr,bl,i64,smT,smO];done) | (simp only [smF,dg,renL,renLs,simprocAttr,bl,i64,smT,smO];(repeat' apply And.intro);all_goals rfl) | (simp only [smF,dg,renL,renLs,simprocAttr,bl,i64,smT,smO]) | skip))
    all_goals (first | done | ((repeat' apply And.intro);all_goals (first | trivial | rfl)))
   ·rw [dec_f c0] at gz
    simp only [i64,bl] at *
    (repeat (first|refine zW ?_|((first|apply l_go rfl|apply c_dec|apply zT rfl (by decide) rfl);(case hs=>(simp (disch := first|omega|exact kD rfl|exact kX rfl) only [smY,simprocAttr,bl,i64,smT,smO,ha,hgl,hk1,hset,hgs];exact rfl));first|refine c_bt ?_|refine c_bf ?_|refine zq ?_|(case hg=>assumption))))
    refine w_loop (α := {x : Nat × List Rat // x.1 ≤ g.length ∧ x.2.length = f.length ∧ smlL x.2 ∧ subS c (g.drop x.1) x.2 (k + x.1) = some r'}) (fun x => st 87 (lk [(0,.sl f.length (qc f)),(1,.sl g.length (qc g)),(4,.own 0 0 D 4),(5,.own 1 0 f.length 4),(6,i64 k),(57,.sl g.length (qc g)),(58,i64 g.length),(59,i64 x.1.1)]) (lkH [(0,⟨47,oc (q.set k (some c)),false⟩),(1,⟨47,qc x.1.2,false⟩)]) 2) (fun x => g.length - x.1.1) ⟨(0,r),by simp,hr,tr,hs⟩ ?_ ?_
    ·(refine Sub.heapL [0,1] rfl (by decide) ?_ (by simp only [smL];decide) ?_ ?_;all_goals (first|(simp only [plainC,smF,dg,renL,renLs,simprocAttr,bl,i64,smT,smO];done) | (simp only [smF,dg,renL,renLs,simprocAttr,bl,i64,smT,smO];(repeat' apply And.intro);all_goals rfl) | (simp only [smF,dg,renL,renLs,simprocAttr,bl,i64,smT,smO]) | skip))
     all_goals (first | done | ((repeat' apply And.intro);all_goals (first | trivial | rfl)))
    ·rintro ⟨⟨j,y⟩,hj,hy,ty,hsub⟩
     simp only at hj hy ty hsub
     simp only [st]
     by_cases hlt : j < g.length
     ·rw [List.drop_eq_getElem_cons hlt] at hsub
      obtain ⟨u1,u2,u3⟩ := subS_cons hsub
      have hgj : g.getD j 0 = g[j] := by simp [hlt]
      rw [← hgj] at u1 u2 u3
      have lb := smlL_get tg hlt
      have ly := smlL_get ty (i := k + j) (by omega)
      have lm := sml_lq u1
      have gm := qmul_good c (g.getD j 0) (by omega) (by omega)
      have gs := qsub_good (y.getD (k + j) 0) (c * g.getD j 0) (by omega) (by omega)
      have hys := qc_set (l := y) (j := k + j) (by omega) (y.getD (k + j) 0 - c * g.getD j 0)
      have hyl : (y.set (k + j) (y.getD (k + j) 0 - c * g.getD j 0)).length = f.length := by simp [hy]
      have tys := smlL_set (i := k + j) ty u2
      have hkj : ((k : Int) + (j : Int)) = ((k + j : Nat) : Int) := by simp
      have hkb : k + j < y.length := by omega
      have hgd : (qc (y.set (k + j) (y.getD (k + j) 0 - c * g.getD j 0))).length = f.length * 4 := by rw [qc_len,hyl]
      generalize hv : y.getD (k + j) 0 - c * g.getD j 0 = v at *
      generalize hmm : c * g.getD j 0 = mm at *
      generalize hb : g.getD j 0 = b at *
      generalize hx : y.getD (k + j) 0 = x at *
      simp only [encQ_sm] at gm gs
      (repeat (first|refine zW ?_|((first|apply l_go rfl|apply c_dec|apply zT rfl (by decide) rfl);(case hs=>(simp (disch := first|omega|exact kD rfl|exact kX rfl) only [smY,simprocAttr,bl,i64,smT,smO,hb,hx,hgs,hkj,hys];exact rfl));first|refine c_bt ?_|refine c_bf ?_|refine zq ?_|(case hg=>assumption))))
      refine ⟨⟨(j + 1,y.set (k + j) v),by simp only;omega,by simp only;exact hyl,tys,by simp only;exact u3⟩,?_,by simp only;omega⟩
      (refine Sub.heapL [0,1] rfl (by decide) ?_ (by simp only [smL];decide) ?_ ?_;all_goals (first|(simp only [plainC,smF,dg,renL,renLs,simprocAttr,bl,i64,smT,smO];done) | (simp only [smF,dg,renL,renLs,simprocAttr,bl,i64,smT,smO];(repeat' apply And.intro);all_goals rfl) | (simp only [smF,dg,renL,renLs,simprocAttr,bl,i64,smT,smO]) | skip))
      all_goals done
     ·obtain rfl : j = g.length := by omega
      rw [List.drop_length,subS_nil] at hsub
      injection hsub with hsub
      subst hsub
      (repeat(first|refine zW ?_|refine zG6 ?_|refine zD6 ?_|refine zT6 ?_))
      refine ⟨⟨(k,q.set k (some c),y),by simp only;omega,by simp only;exact hql,hy,ty,hd⟩,?_,by simp only;omega⟩
      (refine Sub.heapL [0,1] rfl (by decide) ?_ (by simp only [smL];decide) ?_ ?_;all_goals (first|(simp only [plainC,smF,dg,renL,renLs,simprocAttr,bl,i64,smT,smO];done) | (simp only [smF,dg,renL,renLs,simprocAttr,bl,i64,smT,smO];(repeat' apply And.intro);all_goals rfl) | (simp only [smF,dg,renL,renLs,simprocAttr,bl,i64,smT,smO]) | skip))
      all_goals (first | done | ((repeat' apply And.intro);all_goals (first | trivial | rfl)))
end Go.Proofs.YtaidcaemdkncgaaGreatDoor