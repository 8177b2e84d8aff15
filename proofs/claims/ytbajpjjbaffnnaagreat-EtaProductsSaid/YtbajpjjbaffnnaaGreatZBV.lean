/- Contracts of functions of the program, and what proves them (texts: NumW). -/
import Derived.Test.YtbajpjjbaffnnaaGreatZAQ
set_option linter.all false
namespace Go.Num
def atk (E xs : List Int) (t l : Int) : Nat → Int
 | 0 => 0
 | k + 1 => if E.getD k 0 * t = l then xs.getD k 0 else atk E xs t l k
def mdL (D E xs : List Int) (t : Int) : List Int := D.map fun l => atk E xs t l E.length
theorem mdL_len (D E xs : List Int) (t : Int) : (mdL D E xs t).length = D.length := by simp [mdL]
theorem mdL_get {D : List Int} {i : Nat} (E xs : List Int) (t : Int) (h : i < D.length) : (mdL D E xs t).getD i 0 = atk E xs t (D.getD i 0) E.length := by
 simp [mdL,List.getD,h]
theorem mdL_take {D : List Int} {i : Nat} (E xs : List Int) (t : Int) (h : i < D.length) : (mdL D E xs t).take (i + 1) = (mdL D E xs t).take i ++ [atk E xs t (D.getD i 0) E.length] := by
 rw [List.take_add_one,List.getElem?_eq_getElem (by rw [mdL_len];exact h),Option.toList]
 simp [mdL,List.getD,h]
theorem atk_bd {E xs : List Int} {t l B : Int} (hB : 0 ≤ B) (h : ∀ k,-B ≤ xs.getD k 0 ∧ xs.getD k 0 ≤ B) : ∀ k,-B ≤ atk E xs t l k ∧ atk E xs t l k ≤ B
 | 0 => by simp [atk];omega
 | k + 1 => by
   rw [atk]
   split
   · exact h k
   · exact atk_bd hB h k
theorem mdL_small {D E xs : List Int} {t B : Int} (hB : 0 ≤ B) (h : ∀ k,-B ≤ xs.getD k 0 ∧ xs.getD k 0 ≤ B) : ∀ x ∈ mdL D E xs t,-B ≤ x ∧ x ≤ B := by
 intro x hx
 obtain ⟨l,_,rfl⟩ := List.mem_map.1 hx
 exact atk_bd hB h _
theorem divN_lt (n : Nat) : (divN n).Pairwise (· < ·) := (List.pairwise_lt_range' (s := 1) (n := n)).filter _
theorem divL_apart {n i j : Nat} (h : i < j) (hj : j < (divN n).length) : (divL n).getD i 0 ≠ (divL n).getD j 0 := by
 have hp := List.pairwise_iff_getElem.1 (divN_lt n) i j (by omega) hj h
 have e1 : (divL n).getD i 0 = ((divN n)[i]'(by omega) : Nat) := by simp [divL,List.getD,show i < (divN n).length by omega]
 have e2 : (divL n).getD j 0 = ((divN n)[j] : Nat) := by simp [divL,List.getD,hj]
 rw [e1,e2]
 omega
theorem div_place {n m t i : Nat} (hm1 : 1 ≤ m) (hm : m % (n * t) = 0) (hi : i < (divN n).length) : ∃ p,p < (divN m).length ∧ (divL m).getD p 0 = (divL n).getD i 0 * t := by
 obtain ⟨d,e1,e2,e3,e4,e5⟩ := divL_get (n := n) (k := i) hi
 have hdvd : d * t ∣ m := Nat.dvd_trans (Nat.mul_dvd_mul_right (Nat.dvd_of_mod_eq_zero e4) t) (Nat.dvd_of_mod_eq_zero hm)
 have hmem : d * t ∈ divN m := by
  simp only [divN,List.mem_filter,List.mem_range'_1]
  have hpos : 0 < d * t := Nat.pos_of_dvd_of_pos hdvd hm1
  have hle := Nat.le_of_dvd hm1 hdvd
  exact ⟨by omega,by rw [Nat.mod_eq_zero_of_dvd hdvd];rfl⟩
 obtain ⟨p,hp,hpe⟩ := List.getElem_of_mem hmem
 refine ⟨p,hp,?_⟩
 rw [e1]
 simp [divL,List.getD,hp,hpe]
theorem EtaOk.md {n m : Nat} {xs : List Int} (h : EtaOk n xs) (m1 : 1 ≤ m) (m2 : m ≤ 600) (t : Int) : EtaOk m (mdL (divL m) (divL n) xs t) :=
 ⟨m1,m2,by rw [mdL_len,divL_length],mdL_small (by omega) (fun k => h.get k)⟩
theorem etaErr_zero {n : Nat} {xs : List Int} (h : EtaOk n xs) : etaErr n xs = 0 := by
 have h1 := h.n1
 have h2 := h.n2
 unfold etaErr
 rw [if_pos ⟨by omega,by omega⟩,Int.toNat_natCast,if_pos h.len,if_pos h.small]
def adZ : List Int → List Int → List Int
 | a :: f,b :: g => (a + b) :: adZ f g
 | _,_ => []
theorem adZ_len : ∀ {f g : List Int},f.length = g.length → (adZ f g).length = f.length
 | [],[],_ => rfl
 | a :: f,b :: g,h => by simp [adZ,adZ_len (f := f) (g := g) (by simpa using h)]
 | [],_ :: _,h => by cases h
 | _ :: _,[],h => by cases h
theorem adZ_get : ∀ {f g : List Int} {i : Nat},f.length = g.length → (adZ f g).getD i 0 = f.getD i 0 + g.getD i 0
 | [],[],i,_ => by simp [adZ]
 | a :: f,b :: g,0,_ => by simp [adZ]
 | a :: f,b :: g,i + 1,h => by
   have := adZ_get (f := f) (g := g) (i := i) (by simpa using h)
   simpa [adZ] using this
 | [],_ :: _,i,h => by cases h
 | _ :: _,[],i,h => by cases h
def adT (f g : List Int) (i : Nat) : List Int := (adZ f g).take i ++ f.drop i
theorem adT_zero (f g : List Int) : adT f g 0 = f := by simp [adT]
theorem adT_end {f g : List Int} (h : f.length = g.length) : adT f g f.length = adZ f g := by
 unfold adT
 rw [List.drop_length,List.append_nil,List.take_of_length_le (by rw [adZ_len h];exact Nat.le_refl _)]
theorem adT_len {f g : List Int} (h : f.length = g.length) {i : Nat} (hi : i ≤ f.length) : (adT f g i).length = f.length := by
 unfold adT
 rw [List.length_append,List.length_take,List.length_drop,adZ_len h]
 omega
theorem adT_get {f g : List Int} (h : f.length = g.length) {i : Nat} (hi : i < f.length) : (adT f g i).getD i 0 = f.getD i 0 := by
 have hl : ((adZ f g).take i).length = i := by rw [List.length_take,adZ_len h];omega
 unfold adT
 rw [List.getD,List.getElem?_append_right (by omega),hl,Nat.sub_self,List.getElem?_drop,Nat.add_zero]
 rfl
theorem getD_elem {l : List Int} {j : Nat} (h : j < l.length) : l[j] = l.getD j 0 := by simp [List.getD,h]
theorem setD_same {l : List Int} {i : Nat} (v : Int) (h : i < l.length) : (l.set i v).getD i 0 = v := by simp [List.getD,h]
theorem setD_ne {l : List Int} {i j : Nat} (v : Int) (h : i ≠ j) : (l.set i v).getD j 0 = l.getD j 0 := by simp [List.getD,List.getElem?_set,h]
theorem adT_getD {f g : List Int} (h : f.length = g.length) {k : Nat} (hk : k ≤ f.length) (j : Nat) : (adT f g k).getD j 0 = if j < k then f.getD j 0 + g.getD j 0 else f.getD j 0 := by
 have hlk : ((adZ f g).take k).length = k := by rw [List.length_take,adZ_len h];omega
 unfold adT
 by_cases hjk : j < k
 ·rw [if_pos hjk,← adZ_get h,List.getD_eq_getElem?_getD,List.getD_eq_getElem?_getD,List.getElem?_append_left (by omega),List.getElem?_take,if_pos hjk]
 ·rw [if_neg hjk,List.getD_eq_getElem?_getD,List.getD_eq_getElem?_getD,List.getElem?_append_right (by omega),hlk,List.getElem?_drop,show k + (j - k) = j by omega]
theorem adT_succ {f g : List Int} (h : f.length = g.length) {i : Nat} (hi : i < f.length) : adT f g (i + 1) = (adT f g i).set i (f.getD i 0 + g.getD i 0) := by
 apply List.ext_getElem
 ·rw [adT_len h hi,List.length_set,adT_len h (by omega)]
 ·intro j h1 h2
  rw [getD_elem h1,getD_elem h2,adT_getD h hi]
  by_cases hji : i = j
  ·subst hji
   rw [if_pos (by omega),setD_same _ (by rw [adT_len h (by omega)];exact hi)]
  ·rw [setD_ne _ hji,adT_getD h (by omega)]
   by_cases hj : j < i
   ·rw [if_pos hj,if_pos (by omega)]
   ·rw [if_neg hj,if_neg (by omega)]
end Go.Num