/- Contracts of functions of the program, and what proves them (texts: BC12). -/
import Derived.Test.YtaidcaemdkncgaaGreatDoorZBC
import Derived.Test.YtaidcaemdkncgaaGreatDoorZBO
set_option linter.all false
set_option maxRecDepth 100000
set_option maxHeartbeats 8000000
namespace Go.Proofs.YtaidcaemdkncgaaGreatDoor
open Go Go.Lg Go.Num
def bsQ (h i : Nat) : List Rat := (List.range (2 * h)).map fun j => if j = i ∨ j = i + h then 1 else 0
def ptQ (h : Nat) (L : List Rat) (m : Nat) : List Rat := (List.range (2 * h)).map fun j => if j % h < m then L.getD j 0 else 0
theorem bsQ_len (h i : Nat) : (bsQ h i).length = 2 * h := by simp [bsQ]
theorem ptQ_len (h : Nat) (L : List Rat) (m : Nat) : (ptQ h L m).length = 2 * h := by simp [ptQ]
theorem ptQ_step {h : Nat} {L : List Rat} (hper : ∀ i,i < h → L.getD (i + h) 0 = L.getD i 0) {m : Nat} (hm : m < h) : ptQ h L (m + 1) = addR (ptQ h L m) (sclR (L.getD m 0) (bsQ h m)) := by
 have hl : (ptQ h L m).length = (sclR (L.getD m 0) (bsQ h m)).length := by rw [ptQ_len,sclR_len,bsQ_len]
 refine ext_getD (by rw [addR_len hl,ptQ_len,ptQ_len]) (fun j hj => ?_)
 rw [ptQ_len] at hj
 rw [addR_get hl,sclR_get]
 have e1 : ∀ m,(ptQ h L m).getD j 0 = if j % h < m then L.getD j 0 else 0 := fun m => by simp [ptQ,List.getD,hj]
 have e2 : (bsQ h m).getD j 0 = if j = m ∨ j = m + h then 1 else 0 := by simp [bsQ,List.getD,hj]
 rw [e1,e1,e2]
 have hjm : j = j % h ∨ j = j % h + h := by
  rcases Nat.lt_or_ge j h with hh | hh
  ·exact .inl (Nat.mod_eq_of_lt hh).symm
  ·have : j % h = j - h := by rw [Nat.mod_eq_sub_mod hh,Nat.mod_eq_of_lt (by omega)]
   exact .inr (by omega)
 have hmod : j % h < h := Nat.mod_lt _ (by omega)
 by_cases c1 : j % h = m
 ·rw [if_pos (by omega),if_neg (by omega),if_pos (by omega),Rat.mul_one,Rat.zero_add]
  rcases hjm with h1 | h1
  ·rw [← c1,← h1]
  ·rw [h1,c1,hper m hm]
 ·have : ¬ (j = m ∨ j = m + h) := by
   rintro (h1 | h1)
   ·exact c1 (by rw [h1,Nat.mod_eq_of_lt hm])
   ·exact c1 (by rw [h1,Nat.add_mod_right,Nat.mod_eq_of_lt hm])
  rw [if_neg this,Rat.mul_zero,Rat.add_zero]
  by_cases c2 : j % h < m
  ·rw [if_pos c2,if_pos (by omega)]
  ·rw [if_neg c2,if_neg (by omega)]
theorem ptQ_zero (h : Nat) (L : List Rat) : ptQ h L 0 = List.replicate (2 * h) 0 := by
 unfold ptQ
 simp [List.map_const']
theorem ptQ_all {h : Nat} {L : List Rat} (hl : L.length = 2 * h) : ptQ h L h = L := by
 refine ext_getD (by rw [ptQ_len,hl]) (fun j hj => ?_)
 rw [ptQ_len] at hj
 have : j % h < h := Nat.mod_lt _ (by omega)
 simp [ptQ,List.getD,hj,this]
theorem scl_zero (a : List Rat) : sclR 0 a = List.replicate a.length 0 := by
 unfold sclR
 have : (fun x : Rat => 0 * x) = fun _ => 0 := funext fun x => Rat.zero_mul x
 rw [this,List.map_const']
theorem scl_zeros (s : Rat) (n : Nat) : sclR s (List.replicate n 0) = List.replicate n 0 := by
 unfold sclR
 rw [List.map_replicate,Rat.mul_zero]
theorem add_zeros (n : Nat) : addR (List.replicate n 0) (List.replicate n 0) = List.replicate n 0 := by
 unfold addR
 rw [List.zipWith_replicate',Rat.add_zero]
theorem divR_zeros (g : List Rat) (k n : Nat) : divR g k (List.replicate n 0) = List.replicate n 0 := by
 have h := divR_scl g 0 k (List.replicate n 0)
 rw [scl_zeros,scl_zero,divR_len,List.length_replicate] at h
 exact h
theorem divR_half {g : List Rat} {h K : Nat} {L : List Rat} (hl : L.length = 2 * h) (hper : ∀ i,i < h → L.getD (i + h) 0 = L.getD i 0) (hc : ∀ i,i < h → divR g K (bsQ h i) = List.replicate (2 * h) 0) : divR g K L = List.replicate (2 * h) 0 := by
 have key : ∀ m,m ≤ h → divR g K (ptQ h L m) = List.replicate (2 * h) 0 := by
  intro m
  induction m with
  | zero => intro _;rw [ptQ_zero,divR_zeros]
  | succ m ih =>
    intro hm
    rw [ptQ_step hper (by omega),divR_add _ _ _ _ (by rw [ptQ_len,sclR_len,bsQ_len]),ih (by omega),divR_scl,hc m (by omega),scl_zeros,add_zeros]
 have := key h (Nat.le_refl _)
 rwa [ptQ_all hl] at this
def subZ (c : Int) : List Int → List Int → Nat → List Int
 | [],r,_ => r
 | b :: g,r,i => subZ c g (r.set i (r.getD i 0 - c * b)) (i + 1)
def dvI (g : List Int) : Nat → List Int → List Int
 | 0,r => r
 | k + 1,r => dvI g k (subZ (r.getD (k + g.length - 1) 0) g r k)
theorem subQ_rz (c : Int) : ∀ (g r : List Int) (i : Nat),subQ (c : Rat) (rz g) (rz r) i = rz (subZ c g r i)
 | [],r,i => rfl
 | b :: g,r,i => by
   show subQ (c : Rat) ((b : Rat) :: rz g) (rz r) i = _
   rw [subQ,subZ,rz_get,← Rat.intCast_mul,← Rat.intCast_sub,rz_set]
   exact subQ_rz c g _ _
theorem divR_rz (g : List Int) : ∀ (k : Nat) (r : List Int),divR (rz g) k (rz r) = rz (dvI g k r)
 | 0,r => rfl
 | k + 1,r => by
   rw [divR,dvI,rz_len,rz_get,subQ_rz]
   exact divR_rz g k _
def forceL {α : Type} : List Int → (List Int → α) → α
 | [],k => k []
 | x :: l,k => fInt x fun v => forceL l fun l' => k (v :: l')
theorem forceL_eq {α : Type} : ∀ (l : List Int) (k : List Int → α),forceL l k = k l
 | [],k => rfl
 | x :: l,k => by rw [forceL,fInt_eq,forceL_eq l]
def zrF (g : List Int) (d : Nat) : Nat → List Int → Bool
 | 0,r => r.all fun x => x == 0
 | k + 1,r => fInt (r.getD (k + d) 0) fun c => forceL (subZ c g r k) fun r' => zrF g d k r'
theorem zrF_ok {g : List Int} {d : Nat} (hd : d + 1 = g.length) : ∀ {k : Nat} {r : List Int},zrF g d k r = true → ∀ x ∈ dvI g k r,x = 0
 | 0,r,h,x,hx => by
   unfold zrF at h
   simpa using List.all_eq_true.1 h x hx
 | k + 1,r,h,x,hx => by
   unfold zrF at h
   rw [fInt_eq,forceL_eq] at h
   unfold dvI at hx
   rw [show k + g.length - 1 = k + d by omega] at hx
   exact zrF_ok hd h x hx
def bsZ (h i : Nat) : List Int := (List.range (2 * h)).map fun j => bif Nat.beq j i || Nat.beq j (i + h) then 1 else 0
theorem bsQ_rz (h i : Nat) : bsQ h i = rz (bsZ h i) := by
 unfold bsQ bsZ rz
 rw [List.map_map]
 refine List.map_congr_left (fun j _ => ?_)
 simp only [Function.comp]
 by_cases c : j = i ∨ j = i + h
 ·rw [if_pos c]
  have : (Nat.beq j i || Nat.beq j (i + h)) = true := by
   rw [Bool.or_eq_true,Nat.beq_eq,Nat.beq_eq];exact c
  rw [this]
  rfl
 ·rw [if_neg c]
  have : (Nat.beq j i || Nat.beq j (i + h)) = false := by
   rw [Bool.eq_false_iff,ne_eq,Bool.or_eq_true,Nat.beq_eq,Nat.beq_eq];exact c
  rw [this]
  rfl
def chkHi (o i : Nat) : Bool := forceL (bsZ (o / 2) i) fun r => zrF (cyF o) ((cyF o).length - 1) (o + 1 - (cyF o).length) r
def chkHf (o : Nat) : Bool := Nat.beq (o % 2) 1 || ((List.range (o / 2)).all (chkHi o))
theorem hf_2_0 : ((List.range 1).drop 0 |>.take 1).all (chkHi 2) = true := by decide +kernel
theorem hf_2 : chkHf 2 = true := by
 unfold chkHf
 rw [Bool.or_eq_true]
 refine .inr ?_
 have e : List.range (2 / 2) = ((List.range 1).drop 0 |>.take 1) := rfl
 rw [e]
 simp only [List.all_append,hf_2_0,Bool.and_true,Bool.and_self]
theorem hf_4_0 : ((List.range 2).drop 0 |>.take 2).all (chkHi 4) = true := by decide +kernel
theorem hf_4 : chkHf 4 = true := by
 unfold chkHf
 rw [Bool.or_eq_true]
 refine .inr ?_
 have e : List.range (4 / 2) = ((List.range 2).drop 0 |>.take 2) := rfl
 rw [e]
 simp only [List.all_append,hf_4_0,Bool.and_true,Bool.and_self]
theorem hf_6_0 : ((List.range 3).drop 0 |>.take 3).all (chkHi 6) = true := by decide +kernel
theorem hf_6 : chkHf 6 = true := by
 unfold chkHf
 rw [Bool.or_eq_true]
 refine .inr ?_
 have e : List.range (6 / 2) = ((List.range 3).drop 0 |>.take 3) := rfl
 rw [e]
 simp only [List.all_append,hf_6_0,Bool.and_true,Bool.and_self]
theorem hf_8_0 : ((List.range 4).drop 0 |>.take 4).all (chkHi 8) = true := by decide +kernel
theorem hf_8 : chkHf 8 = true := by
 unfold chkHf
 rw [Bool.or_eq_true]
 refine .inr ?_
 have e : List.range (8 / 2) = ((List.range 4).drop 0 |>.take 4) := rfl
 rw [e]
 simp only [List.all_append,hf_8_0,Bool.and_true,Bool.and_self]
theorem hf_10_0 : ((List.range 5).drop 0 |>.take 5).all (chkHi 10) = true := by decide +kernel
theorem hf_10 : chkHf 10 = true := by
 unfold chkHf
 rw [Bool.or_eq_true]
 refine .inr ?_
 have e : List.range (10 / 2) = ((List.range 5).drop 0 |>.take 5) := rfl
 rw [e]
 simp only [List.all_append,hf_10_0,Bool.and_true,Bool.and_self]
theorem hf_12_0 : ((List.range 6).drop 0 |>.take 5).all (chkHi 12) = true := by decide +kernel
theorem hf_12_5 : ((List.range 6).drop 5 |>.take 1).all (chkHi 12) = true := by decide +kernel
theorem hf_12 : chkHf 12 = true := by
 unfold chkHf
 rw [Bool.or_eq_true]
 refine .inr ?_
 have e : List.range (12 / 2) = ((List.range 6).drop 0 |>.take 5) ++ ((List.range 6).drop 5 |>.take 1) := rfl
 rw [e]
 simp only [List.all_append,hf_12_0,hf_12_5,Bool.and_true,Bool.and_self]
theorem hf_14_0 : ((List.range 7).drop 0 |>.take 5).all (chkHi 14) = true := by decide +kernel
theorem hf_14_5 : ((List.range 7).drop 5 |>.take 2).all (chkHi 14) = true := by decide +kernel
theorem hf_14 : chkHf 14 = true := by
 unfold chkHf
 rw [Bool.or_eq_true]
 refine .inr ?_
 have e : List.range (14 / 2) = ((List.range 7).drop 0 |>.take 5) ++ ((List.range 7).drop 5 |>.take 2) := rfl
 rw [e]
 simp only [List.all_append,hf_14_0,hf_14_5,Bool.and_true,Bool.and_self]
theorem hf_16_0 : ((List.range 8).drop 0 |>.take 5).all (chkHi 16) = true := by decide +kernel
theorem hf_16_5 : ((List.range 8).drop 5 |>.take 3).all (chkHi 16) = true := by decide +kernel
theorem hf_16 : chkHf 16 = true := by
 unfold chkHf
 rw [Bool.or_eq_true]
 refine .inr ?_
 have e : List.range (16 / 2) = ((List.range 8).drop 0 |>.take 5) ++ ((List.range 8).drop 5 |>.take 3) := rfl
 rw [e]
 simp only [List.all_append,hf_16_0,hf_16_5,Bool.and_true,Bool.and_self]
theorem hf_18_0 : ((List.range 9).drop 0 |>.take 5).all (chkHi 18) = true := by decide +kernel
theorem hf_18_5 : ((List.range 9).drop 5 |>.take 4).all (chkHi 18) = true := by decide +kernel
theorem hf_18 : chkHf 18 = true := by
 unfold chkHf
 rw [Bool.or_eq_true]
 refine .inr ?_
 have e : List.range (18 / 2) = ((List.range 9).drop 0 |>.take 5) ++ ((List.range 9).drop 5 |>.take 4) := rfl
 rw [e]
 simp only [List.all_append,hf_18_0,hf_18_5,Bool.and_true,Bool.and_self]
theorem hf_20_0 : ((List.range 10).drop 0 |>.take 5).all (chkHi 20) = true := by decide +kernel
theorem hf_20_5 : ((List.range 10).drop 5 |>.take 5).all (chkHi 20) = true := by decide +kernel
theorem hf_20 : chkHf 20 = true := by
 unfold chkHf
 rw [Bool.or_eq_true]
 refine .inr ?_
 have e : List.range (20 / 2) = ((List.range 10).drop 0 |>.take 5) ++ ((List.range 10).drop 5 |>.take 5) := rfl
 rw [e]
 simp only [List.all_append,hf_20_0,hf_20_5,Bool.and_true,Bool.and_self]
theorem hf_22_0 : ((List.range 11).drop 0 |>.take 5).all (chkHi 22) = true := by decide +kernel
theorem hf_22_5 : ((List.range 11).drop 5 |>.take 5).all (chkHi 22) = true := by decide +kernel
theorem hf_22_10 : ((List.range 11).drop 10 |>.take 1).all (chkHi 22) = true := by decide +kernel
theorem hf_22 : chkHf 22 = true := by
 unfold chkHf
 rw [Bool.or_eq_true]
 refine .inr ?_
 have e : List.range (22 / 2) = ((List.range 11).drop 0 |>.take 5) ++ ((List.range 11).drop 5 |>.take 5) ++ ((List.range 11).drop 10 |>.take 1) := rfl
 rw [e]
 simp only [List.all_append,hf_22_0,hf_22_5,hf_22_10,Bool.and_true,Bool.and_self]
theorem hf_24_0 : ((List.range 12).drop 0 |>.take 5).all (chkHi 24) = true := by decide +kernel
theorem hf_24_5 : ((List.range 12).drop 5 |>.take 5).all (chkHi 24) = true := by decide +kernel
theorem hf_24_10 : ((List.range 12).drop 10 |>.take 2).all (chkHi 24) = true := by decide +kernel
theorem hf_24 : chkHf 24 = true := by
 unfold chkHf
 rw [Bool.or_eq_true]
 refine .inr ?_
 have e : List.range (24 / 2) = ((List.range 12).drop 0 |>.take 5) ++ ((List.range 12).drop 5 |>.take 5) ++ ((List.range 12).drop 10 |>.take 2) := rfl
 rw [e]
 simp only [List.all_append,hf_24_0,hf_24_5,hf_24_10,Bool.and_true,Bool.and_self]
theorem hf_26_0 : ((List.range 13).drop 0 |>.take 5).all (chkHi 26) = true := by decide +kernel
theorem hf_26_5 : ((List.range 13).drop 5 |>.take 5).all (chkHi 26) = true := by decide +kernel
theorem hf_26_10 : ((List.range 13).drop 10 |>.take 3).all (chkHi 26) = true := by decide +kernel
theorem hf_26 : chkHf 26 = true := by
 unfold chkHf
 rw [Bool.or_eq_true]
 refine .inr ?_
 have e : List.range (26 / 2) = ((List.range 13).drop 0 |>.take 5) ++ ((List.range 13).drop 5 |>.take 5) ++ ((List.range 13).drop 10 |>.take 3) := rfl
 rw [e]
 simp only [List.all_append,hf_26_0,hf_26_5,hf_26_10,Bool.and_true,Bool.and_self]
theorem hf_28_0 : ((List.range 14).drop 0 |>.take 5).all (chkHi 28) = true := by decide +kernel
theorem hf_28_5 : ((List.range 14).drop 5 |>.take 5).all (chkHi 28) = true := by decide +kernel
theorem hf_28_10 : ((List.range 14).drop 10 |>.take 4).all (chkHi 28) = true := by decide +kernel
theorem hf_28 : chkHf 28 = true := by
 unfold chkHf
 rw [Bool.or_eq_true]
 refine .inr ?_
 have e : List.range (28 / 2) = ((List.range 14).drop 0 |>.take 5) ++ ((List.range 14).drop 5 |>.take 5) ++ ((List.range 14).drop 10 |>.take 4) := rfl
 rw [e]
 simp only [List.all_append,hf_28_0,hf_28_5,hf_28_10,Bool.and_true,Bool.and_self]
theorem hf_30_0 : ((List.range 15).drop 0 |>.take 5).all (chkHi 30) = true := by decide +kernel
theorem hf_30_5 : ((List.range 15).drop 5 |>.take 5).all (chkHi 30) = true := by decide +kernel
theorem hf_30_10 : ((List.range 15).drop 10 |>.take 5).all (chkHi 30) = true := by decide +kernel
theorem hf_30 : chkHf 30 = true := by
 unfold chkHf
 rw [Bool.or_eq_true]
 refine .inr ?_
 have e : List.range (30 / 2) = ((List.range 15).drop 0 |>.take 5) ++ ((List.range 15).drop 5 |>.take 5) ++ ((List.range 15).drop 10 |>.take 5) := rfl
 rw [e]
 simp only [List.all_append,hf_30_0,hf_30_5,hf_30_10,Bool.and_true,Bool.and_self]
theorem hf_36_0 : ((List.range 18).drop 0 |>.take 5).all (chkHi 36) = true := by decide +kernel
theorem hf_36_5 : ((List.range 18).drop 5 |>.take 5).all (chkHi 36) = true := by decide +kernel
theorem hf_36_10 : ((List.range 18).drop 10 |>.take 5).all (chkHi 36) = true := by decide +kernel
theorem hf_36_15 : ((List.range 18).drop 15 |>.take 3).all (chkHi 36) = true := by decide +kernel
theorem hf_36 : chkHf 36 = true := by
 unfold chkHf
 rw [Bool.or_eq_true]
 refine .inr ?_
 have e : List.range (36 / 2) = ((List.range 18).drop 0 |>.take 5) ++ ((List.range 18).drop 5 |>.take 5) ++ ((List.range 18).drop 10 |>.take 5) ++ ((List.range 18).drop 15 |>.take 3) := rfl
 rw [e]
 simp only [List.all_append,hf_36_0,hf_36_5,hf_36_10,hf_36_15,Bool.and_true,Bool.and_self]
theorem hf_42_0 : ((List.range 21).drop 0 |>.take 5).all (chkHi 42) = true := by decide +kernel
theorem hf_42_5 : ((List.range 21).drop 5 |>.take 5).all (chkHi 42) = true := by decide +kernel
theorem hf_42_10 : ((List.range 21).drop 10 |>.take 5).all (chkHi 42) = true := by decide +kernel
theorem hf_42_15 : ((List.range 21).drop 15 |>.take 5).all (chkHi 42) = true := by decide +kernel
theorem hf_42_20 : ((List.range 21).drop 20 |>.take 1).all (chkHi 42) = true := by decide +kernel
theorem hf_42 : chkHf 42 = true := by
 unfold chkHf
 rw [Bool.or_eq_true]
 refine .inr ?_
 have e : List.range (42 / 2) = ((List.range 21).drop 0 |>.take 5) ++ ((List.range 21).drop 5 |>.take 5) ++ ((List.range 21).drop 10 |>.take 5) ++ ((List.range 21).drop 15 |>.take 5) ++ ((List.range 21).drop 20 |>.take 1) := rfl
 rw [e]
 simp only [List.all_append,hf_42_0,hf_42_5,hf_42_10,hf_42_15,hf_42_20,Bool.and_true,Bool.and_self]
theorem hf_odd {o : Nat} (h : o % 2 = 1) : chkHf o = true := by
 unfold chkHf
 rw [h]
 rfl
theorem hf_all : ∀ o ∈ nFC,chkHf o = true := by
 have e : nFC = [1,2,3,4,5,6,7,8,9,10,11,12,13,14,15,16,18,20,21,22,24,26,28,30,36,42] := rfl
 rw [e]
 simp only [List.forall_mem_cons]
 exact ⟨hf_odd rfl,hf_2,hf_odd rfl,hf_4,hf_odd rfl,hf_6,hf_odd rfl,hf_8,hf_odd rfl,hf_10,hf_odd rfl,hf_12,hf_odd rfl,hf_14,hf_odd rfl,hf_16,hf_18,hf_20,hf_odd rfl,hf_22,hf_24,hf_26,hf_28,hf_30,hf_36,hf_42,by simp⟩
theorem remQ_half {o : Nat} (ho : o ∈ nFC) (he : o % 2 = 0) {L : List Rat} (hl : L.length = o) (hper : ∀ i,i < o / 2 → L.getD (i + o / 2) 0 = L.getD i 0) : remQ (rz (cyF o)) (trimQ L) = [] := by
 obtain ⟨c1,c2,c3,c4⟩ := cy_ok ho
 have h2 : 2 * (o / 2) = o := by omega
 have hk := hf_all o ho
 unfold chkHf at hk
 rw [Bool.or_eq_true,Nat.beq_eq] at hk
 have hk := hk.resolve_left (by omega)
 rw [remQ_full (by rw [rz_len];omega),hl,rz_len,divR_half (h := o / 2) (by rw [hl,h2]) hper (fun i hi => ?_),trimQ_zeros]
 have := List.all_eq_true.1 hk i (List.mem_range.2 hi)
 unfold chkHi at this
 rw [forceL_eq] at this
 rw [List.eq_replicate_iff]
 refine ⟨by rw [divR_len,bsQ_len],fun q hq => ?_⟩
 rw [bsQ_rz,divR_rz] at hq
 obtain ⟨z,hz,rfl⟩ := List.mem_map.1 hq
 rw [zrF_ok (by omega) this z hz]
 rfl
theorem remQ_nil {g : List Rat} (hg : 2 ≤ g.length) (n : Nat) : remQ g (trimQ (List.replicate n 0)) = [] := by
 rw [trimQ_zeros]
 unfold remQ
 rw [show ([] : List Rat).length + 1 - g.length = 0 by simp;omega,divR,trimQ_nil]
def chkOne (k : Nat) : Bool := Nat.beq (k % 2) 0 || Nat.ble k 1 || (trm k 1 0 == 0)
theorem one_all : (List.range 41).all chkOne = true := by kernel_rfl
theorem parity_zero {k o f : Nat} {w : List Nat} {b : Bool} (k2 : k ≤ 40) (f1 : 1 ≤ f) (ho : o ∈ nFC) (hlt : ∀ j i, j < f → ixB o f w j = some i → i < o) (h : prB b o f w = true) (hb : b = !decide (k % 2 = 0)) (h1 : ¬ (k = 1 ∧ f = 1)) (k1 : 1 ≤ k) :
  remQ (rz (cyF o)) (trimQ (plR (ixB o f w) k f o f)) = [] := by
 obtain ⟨c1,c2,c3,c4⟩ := cy_ok ho
 unfold prB at h
 rw [Bool.and_eq_true,Bool.and_eq_true] at h
 obtain ⟨⟨h2,h3⟩,h4⟩ := h
 have h4 := List.all_eq_true.1 h4
 cases b with
 | true =>
   have hk : k % 2 = 1 := by
     by_cases e : k % 2 = 0
     · rw [decide_eq_true e] at hb;cases hb
     · omega
   have hz : plR (ixB o f w) k f o f = List.replicate o 0 := by
     rw [List.eq_replicate_iff]
     refine ⟨plR_len _ _ _ _ _,fun q hq => ?_⟩
     unfold plR at hq
     obtain ⟨i,_,rfl⟩ := List.mem_map.1 hq
     by_cases hf : f = 1
     · subst hf
       have hk1 : k ≠ 1 := fun e => h1 ⟨e,rfl⟩
       have h5 := List.all_eq_true.1 one_all k (List.mem_range.2 (by omega))
       unfold chkOne at h5
       simp only [Bool.or_eq_true,Nat.beq_eq,Nat.ble_eq,beq_iff_eq] at h5
       have h6 : trm k 1 0 = 0 := by rcases h5 with (h5 | h5) | h5 <;> first | omega | exact h5
       unfold pwC
       rw [qsum_succ,qsum_zero,h6,Rat.mul_zero,Rat.add_zero]
     · have hl : ixB o f w (f - 1) = none := by
         rw [Bool.or_eq_true,Bool.and_eq_true,Nat.beq_eq] at h2
         rcases h2 with h2 | h2
         · exact absurd h2.2 hf
         · split at h2
           · assumption
           · cases h2
       refine pwC_even k2 f1 hk hl (fun j hj => ?_) i
       have h5 := h4 j (List.mem_range.2 hj)
       split at h5
       · rename_i e1 e2
         rw [e1,e2]
       · rename_i i1 i2 e1 e2
         rw [cond_true] at h5
         rw [e1,e2,Nat.eq_of_beq_eq_true h5]
       · cases h5
   rw [hz]
   exact remQ_nil (by rw [rz_len];omega) o
 | false =>
   have hk : k % 2 = 0 := by
     by_cases e : k % 2 = 0
     · exact e
     · rw [decide_eq_false e] at hb;cases hb
   have ho2 : o % 2 = 0 := by simpa using h3
   have hl : ixB o f w (f - 1) = none := by
     simp only [Bool.false_and,Bool.false_or] at h2
     split at h2
     · assumption
     · cases h2
   have h2o : 2 * (o / 2) = o := by omega
   refine remQ_half ho ho2 (plR_len _ _ _ _ _) (fun i hi => ?_)
   rw [plR_get (by omega),plR_get (by omega)]
   refine pwC_odd (h := o / 2) k2 f1 hk hl (fun j m hj hm => by have := hlt j m hj hm;omega) (fun j hj => ?_) hi
   have h5 := h4 j (List.mem_range.2 hj)
   split at h5
   · rename_i e1 e2
     exact .inl ⟨e1,e2⟩
   · rename_i i1 i2 e1 e2
     rw [cond_false] at h5
     have h6 := Nat.eq_of_beq_eq_true h5
     refine .inr ⟨i1,e1,?_⟩
     rw [e2,h2o,h6]
   · cases h5
attribute [local irreducible] Go.Lg.lrun Go.Lg.lwp Go.Lg.exThen Go.Lg.exBlk Go.Lg.keep Go.Lg.goodPost ec pt gn od cerr sg mg
theorem even_err {m : Int} {l : List Int} (hb : ChB m l) (he : ¬ cerr m l = 0) : PureGood Tryz.prog 23 [.agg [i64 m,.sl l.length (ec l)]] (.tup [bl false,i64 (cerr m l)]) := by
 have g1 := dcheck_good m l hb.m1 hb.ln
 have hv := cerr_val m l
 generalize cerr m l = e at *
 simp only [i64,bl] at *
 refine good_of_lwp mix Tryz.func23 rfl (by decide) (nt := 14) rfl (rs := [.tmp 2,.tmp 3]) rfl (nle rfl) ?_
 (repeat(first|refine zW ?_|refine zG5 ?_|refine zD5 ?_|refine zT5 ?_))
 exact zQ5
theorem lawPar_err {k : Int} {m : Int} {l : List Int} (hl : ¬ 100 < l.length) {e c g f : Int} {b : Bool} (he : e ≠ 0) (g1 : PureGood Tryz.prog 17 [i64 k, .agg [i64 m, .sl l.length (ec l)]] (errC e)) (g2 : PureGood Tryz.prog 23 [.agg [i64 m, .sl l.length (ec l)]] (.tup [bl b, i64 f])) (g3 : PureGood Tryz.prog 24 [.agg [i64 m, .sl l.length (ec l)]] (.tup [i64 c, i64 g])) :
  PureGood Tryz.prog 6 [i64 k,.agg [i64 m,.sl l.length (ec l)]] (bl true) := by
 have ga := awake_good
 unfold errC at g1
 generalize ec l = cx at *
 simp only [i64,bl] at *
 refine good_of_lwp mix Tryz.func6 rfl (by decide) (nt := 65) rfl (rs := [.tmp 4]) rfl (nle rfl) ?_
 (repeat(first|refine zW ?_|refine zG5 ?_|refine zD5 ?_|refine zT5 ?_))
 exact zQ5
theorem lawPar_many (k : Int) (m : Int) (l : List Int) (hl : 100 < l.length) : PureGood Tryz.prog 6 [i64 k,.agg [i64 m,.sl l.length (ec l)]] (bl true) := by
 have ga := awake_good
 generalize ec l = cx at *
 simp only [i64,bl] at *
 refine good_of_lwp mix Tryz.func6 rfl (by decide) (nt := 65) rfl (rs := [.tmp 4]) rfl (nle rfl) ?_
 (repeat(first|refine zW ?_|refine zG5 ?_|refine zD5 ?_|refine zT5 ?_))
 exact zQ5
theorem lawPar_in {k : Nat} {m : Int} {l : List Int} (k1 : 1 ≤ k) (k2 : k ≤ 40) (hl : ¬ 100 < l.length) {c o : Int} {b : Bool} {R : List Rat} (hR : R.length ≤ 60) (h : b = decide (k % 2 = 0) ∨ (k = 1 ∧ c = 1) ∨ R = []) (g1 : PureGood Tryz.prog 17 [i64 k, .agg [i64 m, .sl l.length (ec l)]] (.tup [encF R, i64 o, i64 0])) (g2 : PureGood Tryz.prog 23 [.agg [i64 m, .sl l.length (ec l)]] (.tup [bl b, i64 0])) (g3 : PureGood Tryz.prog 24 [.agg [i64 m, .sl l.length (ec l)]] (.tup [i64 c, i64 0])) :
  PureGood Tryz.prog 6 [i64 k,.agg [i64 m,.sl l.length (ec l)]] (bl true) := by
 have ga := awake_good
 rw [encF_qc] at g1
 have hk : (k : Int).tmod 2 = ((k % 2 : Nat) : Int) := by rw [Int.tmod_eq_emod_of_nonneg (by omega)];rfl
 generalize ec l = cx at *
 by_cases hb : b = decide (k % 2 = 0)
 ·by_cases hk2 : k % 2 = 0
  ·rw [decide_eq_true hk2] at hb
   subst hb
   rw [hk2] at hk
   generalize qc R = cR at *
   generalize R.length = lR at *
   simp only [i64,bl] at *
   refine good_of_lwp mix Tryz.func6 rfl (by decide) (nt := 65) rfl (rs := [.tmp 4]) rfl (nle rfl) ?_
   (repeat(first|refine zW ?_|refine zG9 ?_|refine zD9 ?_|refine zT9 ?_))
   exact zQ9
  ·rw [decide_eq_false hk2] at hb
   subst hb
   rw [show k % 2 = 1 by omega] at hk
   generalize qc R = cR at *
   generalize R.length = lR at *
   simp only [i64,bl] at *
   refine good_of_lwp mix Tryz.func6 rfl (by decide) (nt := 65) rfl (rs := [.tmp 4]) rfl (nle rfl) ?_
   (repeat(first|refine zW ?_|refine zG9 ?_|refine zD9 ?_|refine zT9 ?_))
   exact zQ9
 ·by_cases h1 : k = 1 ∧ c = 1
  ·obtain ⟨rfl,rfl⟩ := h1
   have hb' : b = true := by
    cases b with
    | true => rfl
    | false => exact absurd rfl hb
   subst hb'
   generalize qc R = cR at *
   generalize R.length = lR at *
   simp only [i64,bl] at *
   refine good_of_lwp mix Tryz.func6 rfl (by decide) (nt := 65) rfl (rs := [.tmp 4]) rfl (nle rfl) ?_
   (repeat(first|refine zW ?_|refine zG9 ?_|refine zD9 ?_|refine zT9 ?_))
   exact zQ9
  ·have hR0 : R = [] := by
    rcases h with h | h | h
    ·exact absurd h hb
    ·exact absurd h h1
    ·exact h
   subst hR0
   have e0 : qc [] = [] := rfl
   rw [e0,List.length_nil] at g1
   clear h hR e0
   by_cases hk2 : k % 2 = 0
   ·rw [decide_eq_true hk2] at hb
    have hb' : b = false := by cases b <;> simp_all
    subst hb'
    rw [hk2] at hk
    have hkn : ¬ k = 1 := fun e => by subst e;omega
    simp only [i64,bl] at *
    refine good_of_lwp mix Tryz.func6 rfl (by decide) (nt := 65) rfl (rs := [.tmp 4]) rfl (nle rfl) ?_
    (repeat(first|refine zW ?_|refine zG9 ?_|refine zD9 ?_|refine zT9 ?_))
    exact zQ9
   ·rw [decide_eq_false hk2] at hb
    have hb' : b = true := by cases b <;> simp_all
    subst hb'
    rw [show k % 2 = 1 by omega] at hk
    by_cases hkn : k = 1
    ·subst hkn
     have hc : ¬ c = 1 := fun e => h1 ⟨rfl,e⟩
     simp only [i64,bl] at *
     refine good_of_lwp mix Tryz.func6 rfl (by decide) (nt := 65) rfl (rs := [.tmp 4]) rfl (nle rfl) ?_
     (repeat(first|refine zW ?_|refine zG9 ?_|refine zD9 ?_|refine zT9 ?_))
     exact zQ9
    ·simp only [i64,bl] at *
     refine good_of_lwp mix Tryz.func6 rfl (by decide) (nt := 65) rfl (rs := [.tmp 4]) rfl (nle rfl) ?_
     (repeat(first|refine zW ?_|refine zG9 ?_|refine zD9 ?_|refine zT9 ?_))
     exact zQ9
theorem lawParity_of (hall : ∀ {n : Nat},1 ≤ n → n ≤ 60 → ∀ {v : List Nat},v ∈ prodN (od n) → chkBC n v = true) (k : Int) (hk : -9223372036854775808 ≤ k ∧ k ≤ 9223372036854775807) (m : Int) (l : List Int) (hm : -9223372036854775808 ≤ m ∧ m ≤ 9223372036854775807) : PureGood Tryz.prog 6 [i64 k,.agg [i64 m,.sl l.length (ec l)]] (bl true) := by
 by_cases h1 : 100 < l.length
 ·exact lawPar_many k m l h1
 ·have hb : ChB m l := ⟨hm,by omega⟩
  by_cases he : cerr m l = 0
  ·obtain ⟨n,rfl,n1,n2,v,hv,rfl⟩ := cerr_ok he
   obtain ⟨hor,⟨eb,ge⟩,⟨cc,gc⟩,h⟩ := chkBC_ok n2 hb he (hall n1 n2 hv)
   obtain ⟨⟨o1,o2⟩,go,gro⟩ := chkOr_ok hor
   by_cases h2 : k < 1 ∨ 40 < k
   ·exact lawPar_err h1 (by omega) (bcharP_range hk h2 n _ ⟨_,_,rfl⟩) ge gc
   ·rcases h with h | ⟨f,w,hf,hc,hr,hcd,b,hev,hpb⟩
    ·exact lawPar_err h1 (by omega) (bcharP_large (by omega) (by omega) hb he o1 o2 go h) ge gc
    ·obtain ⟨kn,rfl⟩ : ∃ j : Nat,k = j := ⟨k.toNat,by omega⟩
     obtain ⟨g1,g3,g4⟩ := bcharP_small (k := kn) (by omega) (by omega) hf hc
     refine lawPar_in (by omega) (by omega) h1 g4 ?_ g1 hev hcd
     by_cases e1 : b = decide (kn % 2 = 0)
     ·exact .inl e1
     ·by_cases e2 : kn = 1 ∧ f = 1
      ·exact .inr (.inl ⟨e2.1,by rw [e2.2];rfl⟩)
      ·refine .inr (.inr (parity_zero (by omega) hf.1 hf.2.2.2.1 (fun j i hj hi => (hc.yes j i hj hi).1) hpb ?_ e2 (by omega)))
       cases b <;> simp_all
  ·have g1 := even_err hb he
   have g2 := cond_err hb he
   by_cases h2 : k < 1 ∨ 40 < k
   ·exact lawPar_err h1 (by omega) (bcharP_range hk h2 m _ ⟨_,_,rfl⟩) g1 g2
   ·exact lawPar_err h1 he (bcharP_err (by omega) (by omega) hb he) g1 g2
end Go.Proofs.YtaidcaemdkncgaaGreatDoor