/- Contracts of functions of the program, and what proves them (texts: NumPar). -/
import Derived.Test.YtaidcaemdkncgaaGreatDoorZAZ
set_option linter.all false
set_option maxRecDepth 100000
set_option maxHeartbeats 8000000
namespace Go.Num
def sumQ (F : Nat → Rat) : Nat → Rat
 | 0 => 0
 | n + 1 => sumQ F n + F n
theorem sumQ_congr {F G : Nat → Rat} : ∀ {n : Nat},(∀ j,j < n → F j = G j) → sumQ F n = sumQ G n
 | 0,_ => rfl
 | n + 1,h => by rw [sumQ,sumQ,sumQ_congr (fun j hj => h j (by omega)),h n (by omega)]
theorem sumQ_front (F : Nat → Rat) : ∀ n,sumQ F (n + 1) = F 0 + sumQ (fun j => F (j + 1)) n
 | 0 => by rw [sumQ,sumQ,sumQ,Rat.zero_add,Rat.add_zero]
 | n + 1 => by rw [sumQ,sumQ_front F n,sumQ,Rat.add_assoc]
theorem sumQ_rev : ∀ (n : Nat) (F : Nat → Rat),sumQ F n = sumQ (fun j => F (n - 1 - j)) n
 | 0,_ => rfl
 | n + 1,F => by
   rw [sumQ_front F n,sumQ_rev n,sumQ]
   have e : F (n + 1 - 1 - n) = F 0 := by rw [show n + 1 - 1 - n = 0 by omega]
   rw [e,Rat.add_comm]
   congr 1
   exact sumQ_congr (fun j hj => by
     show F (n - 1 - j + 1) = F (n + 1 - 1 - j)
     rw [show n - 1 - j + 1 = n + 1 - 1 - j by omega])
theorem sumQ_neg (F : Nat → Rat) : ∀ n,sumQ (fun j => -F j) n = -sumQ F n
 | 0 => by rw [sumQ,sumQ,Rat.neg_zero]
 | n + 1 => by rw [sumQ,sumQ,sumQ_neg F n,Rat.neg_add]
theorem qsum_sumQ (c : Nat → Int) (k f : Nat) : ∀ n,qsum c k f n = sumQ (fun j => (c j : Rat) * trm k f j) n
 | 0 => rfl
 | n + 1 => by rw [qsum_succ,sumQ,qsum_sumQ c k f n]
theorem trm_refl {k f j : Nat} (hk : k ≤ 40) (hf : 1 ≤ f) (hj : j + 2 ≤ f) : trm k f (f - 2 - j) = if k % 2 = 0 then trm k f j else -trm k f j := by
 have hf0 : (f : Int) ≠ 0 := by omega
 have e : Rat.divInt ((f - 2 - j + 1 : Nat) : Int) (f : Int) = 1 - Rat.divInt ((j + 1 : Nat) : Int) (f : Int) := by
  have h1 : (1 : Rat) = Rat.divInt (f : Int) (f : Int) := by rw [Rat.divInt_self' hf0]
  have h2 := Rat.divInt_sub_divInt (f : Int) ((j + 1 : Nat) : Int) hf0 hf0
  rw [h1,h2]
  have h3 : ((f - 2 - j + 1 : Nat) : Int) = (f : Int) - ((j + 1 : Nat) : Int) := by omega
  rw [h3,← Int.sub_mul,Rat.divInt_mul_right hf0]
 unfold trm
 rw [e,bp_refl (by omega)]
 split
 ·rfl
 ·rw [Rat.mul_neg]
theorem pwC_even {ix : Nat → Option Nat} {k f : Nat} (hk : k ≤ 40) (hf : 1 ≤ f) (hodd : k % 2 = 1) (hl : ix (f - 1) = none) (hs : ∀ j,j < f - 1 → ix (f - 2 - j) = ix j) (i : Nat) : pwC ix k f f i = 0 := by
 have h1 : pwC ix k f f i = sumQ (fun j => (ixc ix i j : Rat) * trm k f j) (f - 1) := by
  unfold pwC
  rw [qsum_sumQ]
  obtain ⟨g,rfl⟩ : ∃ g,f = g + 1 := ⟨f - 1,by omega⟩
  rw [Nat.add_sub_cancel] at hl ⊢
  rw [sumQ,ixc,if_neg (by rw [hl];exact fun e => nomatch e),Rat.intCast_zero,Rat.zero_mul,Rat.add_zero]
 have h2 : pwC ix k f f i = -pwC ix k f f i := by
  conv => lhs;rw [h1,sumQ_rev]
  rw [h1,← sumQ_neg]
  refine sumQ_congr (fun j hj => ?_)
  have e1 : f - 1 - 1 - j = f - 2 - j := by omega
  have e2 : ixc ix i (f - 2 - j) = ixc ix i j := by unfold ixc;rw [hs j hj]
  show (ixc ix i (f - 1 - 1 - j) : Rat) * trm k f (f - 1 - 1 - j) = -((ixc ix i j : Rat) * trm k f j)
  rw [e1,e2,trm_refl hk hf (by omega),if_neg (by omega),Rat.mul_neg]
 grind
theorem pwC_odd {ix : Nat → Option Nat} {k f h : Nat} (hk : k ≤ 40) (hf : 1 ≤ f) (hev : k % 2 = 0) (hl : ix (f - 1) = none) (hlt : ∀ j i, j < f → ix j = some i → i < 2 * h)
  (hs : ∀ j,j < f - 1 → (ix j = none ∧ ix (f - 2 - j) = none) ∨ ∃ i,ix j = some i ∧ ix (f - 2 - j) = some ((i + h) % (2 * h))) {i : Nat} (hi : i < h) : pwC ix k f f (i + h) = pwC ix k f f i := by
 have h1 : ∀ i,pwC ix k f f i = sumQ (fun j => (ixc ix i j : Rat) * trm k f j) (f - 1) := by
  intro i
  unfold pwC
  rw [qsum_sumQ]
  obtain ⟨g,rfl⟩ : ∃ g,f = g + 1 := ⟨f - 1,by omega⟩
  rw [Nat.add_sub_cancel] at hl ⊢
  rw [sumQ,ixc,if_neg (by rw [hl];exact fun e => nomatch e),Rat.intCast_zero,Rat.zero_mul,Rat.add_zero]
 rw [h1,h1,sumQ_rev]
 refine sumQ_congr (fun j hj => ?_)
 have e1 : f - 1 - 1 - j = f - 2 - j := by omega
 show (ixc ix (i + h) (f - 1 - 1 - j) : Rat) * trm k f (f - 1 - 1 - j) = (ixc ix i j : Rat) * trm k f j
 rw [e1,trm_refl hk hf (by omega),if_pos hev]
 have e2 : ixc ix (i + h) (f - 2 - j) = ixc ix i j := by
  unfold ixc
  rcases hs j hj with ⟨a,b⟩ | ⟨m,a,b⟩
  ·rw [a,b]
   rw [if_neg (fun e => nomatch e),if_neg (fun e => nomatch e)]
  ·have hm := hlt j m (by omega) a
   rw [a,b]
   by_cases e : m = i
   ·subst e
    rw [if_pos rfl,if_pos (by rw [Nat.mod_eq_of_lt (by omega)])]
   ·rw [if_neg (fun x => ?_),if_neg (fun x => e (by injection x))]
    injection x with x
    rcases Nat.lt_or_ge (m + h) (2 * h) with h3 | h3
    ·rw [Nat.mod_eq_of_lt h3] at x;omega
    ·rw [Nat.mod_eq_sub_mod h3,Nat.mod_eq_of_lt (by omega)] at x;omega
 rw [e2]
def addR (a b : List Rat) : List Rat := List.zipWith (· + ·) a b
def sclR (s : Rat) (a : List Rat) : List Rat := a.map fun x => s * x
theorem addR_len {a b : List Rat} (h : a.length = b.length) : (addR a b).length = a.length := by simp [addR,h]
theorem sclR_len (s : Rat) (a : List Rat) : (sclR s a).length = a.length := by simp [sclR]
theorem addR_get {a b : List Rat} (h : a.length = b.length) (j : Nat) : (addR a b).getD j 0 = a.getD j 0 + b.getD j 0 := by
 unfold addR
 rcases Nat.lt_or_ge j a.length with hj | hj
 ·simp [List.getD,List.getElem?_zipWith,hj,h ▸ hj]
 ·simp [List.getD,List.getElem?_zipWith,hj,h ▸ hj,Rat.add_zero]
theorem sclR_get (s : Rat) (a : List Rat) (j : Nat) : (sclR s a).getD j 0 = s * a.getD j 0 := by
 unfold sclR
 rcases Nat.lt_or_ge j a.length with hj | hj
 ·simp [List.getD,hj]
 ·simp [List.getD,hj]
theorem ext_getD {a b : List Rat} (h : a.length = b.length) (hg : ∀ j,j < a.length → a.getD j 0 = b.getD j 0) : a = b := by
 refine List.ext_getElem h (fun j h1 h2 => ?_)
 have := hg j h1
 simpa [List.getD,h1,h2] using this
theorem addR_set {a b : List Rat} (h : a.length = b.length) (i : Nat) (x y : Rat) : (addR a b).set i (x + y) = addR (a.set i x) (b.set i y) := by
 refine ext_getD (by simp [addR,h]) (fun j hj => ?_)
 rw [addR_get (by simp [h])]
 have hj2 : j < a.length := by simpa [addR,h] using hj
 have hj3 : j < b.length := by omega
 by_cases e : i = j
 ·subst e
  have h4 : i < min a.length b.length := by omega
  simp [List.getD,addR,hj2,hj3,List.getElem?_set,h4]
 ·have h1 := addR_get h j
  simp [List.getD,List.getElem?_set,e] at h1 ⊢
  exact h1
theorem sclR_set (s : Rat) (a : List Rat) (i : Nat) (x : Rat) : (sclR s a).set i (s * x) = sclR s (a.set i x) := by
 simp [sclR,List.map_set]
theorem subQ_add (c d : Rat) : ∀ (g a b : List Rat) (i : Nat),a.length = b.length → subQ (c + d) g (addR a b) i = addR (subQ c g a i) (subQ d g b i)
 | [],a,b,i,_ => rfl
 | u :: g,a,b,i,h => by
   rw [subQ,subQ,subQ,addR_get h]
   have e : a.getD i 0 + b.getD i 0 - (c + d) * u = (a.getD i 0 - c * u) + (b.getD i 0 - d * u) := by grind
   rw [e,addR_set h]
   exact subQ_add c d g _ _ _ (by simp [h])
theorem subQ_scl (s c : Rat) : ∀ (g a : List Rat) (i : Nat),subQ (s * c) g (sclR s a) i = sclR s (subQ c g a i)
 | [],a,i => rfl
 | u :: g,a,i => by
   rw [subQ,subQ,sclR_get]
   have e : s * a.getD i 0 - s * c * u = s * (a.getD i 0 - c * u) := by grind
   rw [e,sclR_set]
   exact subQ_scl s c g _ _
theorem divR_add (g : List Rat) : ∀ (k : Nat) (a b : List Rat),a.length = b.length → divR g k (addR a b) = addR (divR g k a) (divR g k b)
 | 0,a,b,_ => rfl
 | k + 1,a,b,h => by
   rw [divR,divR,divR,addR_get h,subQ_add _ _ _ _ _ _ h]
   exact divR_add g k _ _ (by rw [subQ_len,subQ_len,h])
theorem divR_scl (g : List Rat) (s : Rat) : ∀ (k : Nat) (a : List Rat),divR g k (sclR s a) = sclR s (divR g k a)
 | 0,a => rfl
 | k + 1,a => by
   rw [divR,divR,sclR_get,subQ_scl]
   exact divR_scl g s k _
theorem subQ_app (c : Rat) (z : List Rat) : ∀ (g t : List Rat) (i : Nat),i + g.length ≤ t.length → subQ c g (t ++ z) i = subQ c g t i ++ z
 | [],t,i,_ => rfl
 | u :: g,t,i,h => by
   rw [List.length_cons] at h
   have hi : i < t.length := by omega
   have e : (t ++ z).getD i 0 = t.getD i 0 := by simp [List.getD,List.getElem?_append_left hi]
   rw [subQ,subQ,e,List.set_append_left _ _ hi]
   exact subQ_app c z g _ _ (by rw [List.length_set];omega)
theorem divR_app (g z : List Rat) (hg : 1 ≤ g.length) : ∀ (k : Nat) (t : List Rat),k + g.length ≤ t.length + 1 → divR g k (t ++ z) = divR g k t ++ z
 | 0,t,_ => rfl
 | k + 1,t,h => by
   have hi : k + g.length - 1 < t.length := by omega
   have e : (t ++ z).getD (k + g.length - 1) 0 = t.getD (k + g.length - 1) 0 := by simp [List.getD,List.getElem?_append_left hi]
   rw [divR,divR,e,subQ_app _ _ _ _ _ (by omega)]
   exact divR_app g z hg k _ (by rw [subQ_len];omega)
theorem divR_top (g : List Rat) (t : List Rat) : ∀ (m k : Nat),(∀ j,k + g.length ≤ j + 1 → t.getD j 0 = 0) → divR g (k + m) t = divR g k t
 | 0,k,_ => rfl
 | m + 1,k,h => by
   rw [show k + (m + 1) = (k + m) + 1 by omega,divR]
   have e : t.getD (k + m + g.length - 1) 0 = 0 := h _ (by omega)
   rw [e,subQ_zero]
   exact divR_top g t m k h
end Go.Num