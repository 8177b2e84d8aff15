/- Contracts of functions of the program, and what proves them (texts: NumX X0). -/
import Derived.Test.YtbajpjjbaffnnaaGreatZAP
import Derived.Test.YtbajpjjbaffnnaaGreatZAS
import Derived.Test.YtbajpjjbaffnnaaGreatZBE
import Derived.Test.YtbajpjjbaffnnaaGreatZBH
set_option linter.all false
namespace Go.Num
theorem set_range {α : Type} {f g : Nat → α} {N i : Nat} {v : α} (hv : g i = v) (hg : ∀ m, m < N → m ≠ i → g m = f m) :
  ((List.range N).map f).set i v = (List.range N).map g := by
 refine List.ext_getElem (by simp) (fun m h1 h2 => ?_)
 simp only [List.length_map,List.length_range] at h2
 rw [List.getElem_set]
 split
 ·rename_i h;subst h;simp [hv]
 ·rename_i h;simp [hg m h2 (fun e => h e.symm)]
theorem range_getD {α : Type} {f : Nat → α} {N i : Nat} {z : α} (h : i < N) : ((List.range N).map f).getD i z = f i := by simp [List.getD,h]
def dvs (n : Nat) (j : Nat) : Nat := (divN n).getD j 0
def etaM (n : Nat) (xs : List Int) (N k m : Nat) : List Int := (List.range N).map fun i => svM (dvs n) (exS xs) k m (i + 1)
def etaK (n : Nat) (xs : List Int) (N k : Nat) : List Int := (List.range N).map fun i => sv (dvs n) (exS xs) k (i + 1)
def etaC (n : Nat) (xs : List Int) (N : Nat) : List Int := etaK n xs N xs.length
theorem etaM_len (n : Nat) (xs : List Int) (N k m : Nat) : (etaM n xs N k m).length = N := by simp [etaM]
theorem etaK_len (n : Nat) (xs : List Int) (N k : Nat) : (etaK n xs N k).length = N := by simp [etaK]
theorem etaC_len (n : Nat) (xs : List Int) (N : Nat) : (etaC n xs N).length = N := etaK_len ..
theorem etaK_zero (n : Nat) (xs : List Int) (N : Nat) : etaK n xs N 0 = List.replicate N 0 := by
 have : (fun i => sv (dvs n) (exS xs) 0 (i + 1)) = fun _ => 0 := rfl
 rw [etaK,this,List.map_const']
 simp only [List.length_range]
theorem etaM_first (n : Nat) (xs : List Int) (N k : Nat) : etaM n xs N k (dvs n k) = etaK n xs N k := by
 unfold etaM etaK
 exact List.map_congr_left (fun i _ => svM_first (by omega))
theorem etaM_last {n : Nat} {xs : List Int} {N k m : Nat} (h : N < m) : etaM n xs N k m = etaK n xs N (k + 1) := by
 unfold etaM etaK
 exact List.map_congr_left (fun i hi => svM_last (by have := List.mem_range.1 hi;omega))
theorem etaM_get {n : Nat} {xs : List Int} {N k m i : Nat} (h : i < N) : (etaM n xs N k m).getD i 0 = svM (dvs n) (exS xs) k m (i + 1) := range_getD h
theorem etaM_set {n : Nat} {xs : List Int} {N k t : Nat} (hd : 0 < dvs n k) (h1 : 1 ≤ t * dvs n k) (h2 : t * dvs n k ≤ N) :
  (etaM n xs N k (t * dvs n k)).set (t * dvs n k - 1) ((etaM n xs N k (t * dvs n k)).getD (t * dvs n k - 1) 0 + xs.getD k 0) = etaM n xs N k (t * dvs n k + dvs n k) := by
 rw [etaM_get (by omega),show t * dvs n k - 1 + 1 = t * dvs n k by omega]
 unfold etaM
 refine set_range ?_ (fun m hm hne => ?_)
 ·rw [show t * dvs n k - 1 + 1 = t * dvs n k by omega,svM_at hd]
  rfl
 ·exact svM_next hd (by omega)
theorem svM_bd {n : Nat} {xs : List Int} (h : EtaOk n xs) {k : Nat} (hk : k < xs.length) (m i : Nat) : -4800 ≤ svM (dvs n) (exS xs) k m i ∧ svM (dvs n) (exS xs) k m i ≤ 4800 := by
 have hl := h.len_le
 have h1 := fun j => sv_bd (d := dvs n) (x := exS xs) (B := 200) (k := xs.length) (by omega) (fun j _ => h.get j) i j
 unfold svM
 split
 ·have := h1 (k + 1) (by omega);omega
 ·have := h1 k (by omega);omega
theorem etaM_bd {n : Nat} {xs : List Int} (h : EtaOk n xs) {k : Nat} (hk : k < xs.length) (N m i : Nat) : -4800 ≤ (etaM n xs N k m).getD i 0 ∧ (etaM n xs N k m).getD i 0 ≤ 4800 := by
 by_cases hi : i < N
 ·rw [etaM_get hi];exact svM_bd h hk m (i + 1)
 ·have := etaM_len n xs N k m
  simp [List.getD,show (etaM n xs N k m).length ≤ i by omega]
theorem etaC_small {n : Nat} {xs : List Int} (h : EtaOk n xs) (N : Nat) : ∀ x ∈ etaC n xs N,-4800 ≤ x ∧ x ≤ 4800 := by
 intro x hx
 simp only [etaC,etaK,List.mem_map] at hx
 obtain ⟨i,_,rfl⟩ := hx
 have hl := h.len_le
 have h1 := sv_bd (d := dvs n) (x := exS xs) (B := 200) (k := xs.length) (by omega) (fun j _ => h.get j) (i + 1) xs.length (Nat.le_refl _)
 omega
theorem etaC_get {n : Nat} {xs : List Int} {N i : Nat} (h : i < N) : (etaC n xs N).getD i 0 = sv (dvs n) (exS xs) xs.length (i + 1) := range_getD h
theorem etaC_getD_bd {n : Nat} {xs : List Int} (h : EtaOk n xs) (N i : Nat) : -4800 ≤ (etaC n xs N).getD i 0 ∧ (etaC n xs N).getD i 0 ≤ 4800 := by
 by_cases hi : i < N
 ·refine etaC_small h N _ ?_
  have hl := etaC_len n xs N
  have : (etaC n xs N).getD i 0 = (etaC n xs N)[i] := by simp [hl,hi]
  rw [this];exact List.getElem_mem _
 ·have := etaC_len n xs N
  simp [List.getD,show (etaC n xs N).length ≤ i by omega]
def spP (c : List Int) (k m i : Nat) : Option Rat := if i = 0 ∨ k = 0 ∧ m ≤ i then none else some ((svM (fun j => j + 1) (dc c) k m i : Int) : Rat)
def spM (c : List Int) (k m : Nat) : List (Option Rat) := (List.range (c.length + 1)).map (spP c k m)
theorem spM_len (c : List Int) (k m : Nat) : (spM c k m).length = c.length + 1 := by simp [spM]
theorem spM_get {c : List Int} {k m i : Nat} (h : i ≤ c.length) : (spM c k m).getD i none = spP c k m i := range_getD (by omega)
theorem spM_zero (c : List Int) : spM c 0 1 = List.replicate (c.length + 1) none := by
 have : ∀ i ∈ List.range (c.length + 1),spP c 0 1 i = none := fun i _ => by
  unfold spP
  rw [if_pos]
  omega
 rw [spM,List.map_congr_left this,List.map_const']
 simp only [List.length_range]
theorem spM_next {c : List Int} {k m : Nat} (h : c.length < m) : spM c k m = spM c (k + 1) (k + 2) := by
 unfold spM
 refine List.map_congr_left (fun i hi => ?_)
 have := List.mem_range.1 hi
 unfold spP
 by_cases h0 : i = 0
 ·rw [if_pos (.inl h0),if_pos (.inl h0)]
 ·rw [if_neg (by omega),if_neg (by omega),svM_last (by omega),show k + 2 = (fun j => j + 1) (k + 1) from rfl,svM_first (by omega)]
theorem spM_set {c : List Int} {k t m : Nat} (hm : m = t * (k + 1)) (h1 : 1 ≤ m) (h2 : m ≤ c.length) :
  (spM c k m).set m (some ((svM (fun j => j + 1) (dc c) k m m + dc c k : Int) : Rat)) = spM c k (m + (k + 1)) := by
 subst hm
 unfold spM
 refine set_range ?_ (fun m hm hne => ?_)
 ·unfold spP
  rw [if_neg (by omega),svM_at (d := fun j => j + 1) (k := k) (t := t) (by simp)]
 ·unfold spP
  by_cases h0 : m = 0 ∨ k = 0 ∧ t * (k + 1) ≤ m
  ·rw [if_pos h0,if_pos]
   rcases h0 with h0 | ⟨rfl,h0⟩
   ·exact .inl h0
   ·refine .inr ⟨rfl,?_⟩
    omega
  ·rw [if_neg h0,if_neg (by omega),svM_next (d := fun j => j + 1) (k := k) (t := t) (by simp) hne]
theorem spM_none {c : List Int} {m : Nat} (h2 : m ≤ c.length) : (spM c 0 m).getD m none = none := by
 rw [spM_get h2]
 unfold spP
 rw [if_pos (.inr ⟨rfl,Nat.le_refl _⟩)]
theorem spM_some {c : List Int} {k m : Nat} (hk : k ≠ 0) (h1 : 1 ≤ m) (h2 : m ≤ c.length) : (spM c k m).getD m none = some ((svM (fun j => j + 1) (dc c) k m m : Int) : Rat) := by
 rw [spM_get h2]
 unfold spP
 rw [if_neg (by omega)]
theorem svM_one {c : List Int} {m i : Nat} (h : m ≤ i) : svM (fun j => j + 1) (dc c) 0 m i = 0 := by
 unfold svM
 rw [if_neg (by omega)]
 rfl
def aP (a : Nat → Rat) (m : Nat) : List Rat := (List.range m).map a
theorem aP_len (a : Nat → Rat) (m : Nat) : (aP a m).length = m := by simp [aP]
theorem aP_succ (a : Nat → Rat) (m : Nat) : aP a (m + 1) = aP a m ++ [a m] := by simp [aP,List.range_succ]
theorem aP_get {a : Nat → Rat} {m i : Nat} (h : i < m) : (aP a m).getD i 0 = a i := range_getD h
theorem sp_last {c : List Int} {i : Nat} (h1 : 1 ≤ i) (h2 : i ≤ c.length) : (spM c c.length (c.length + 1)).getD i none = some ((sS c i : Int) : Rat) := by
 rw [spM_get h2]
 unfold spP
 rw [if_neg (by omega),show c.length + 1 = (fun j => j + 1) c.length from rfl,svM_first h1]
 rfl
theorem qs_step (s : Nat → Int) (a : Nat → Rat) (n i : Nat) : -(qs s a n i) - (s (i + 1) : Rat) * a (n - 1 - i) = -(qs s a n (i + 1)) := by
 rw [qs_succ,Rat.sub_eq_add_neg,Rat.neg_add]
def cQ (c : List Int) (m : Nat) : List Rat := (List.range m).map fun i => ((c.getD i 0 : Int) : Rat)
theorem cQ_len (c : List Int) (m : Nat) : (cQ c m).length = m := by simp [cQ]
theorem cQ_get {c : List Int} {m i : Nat} (h : i < m) : (cQ c m).getD i 0 = ((c.getD i 0 : Int) : Rat) := range_getD h
end Go.Num
namespace Go.Lg
open Go
theorem Sub.heapR {n : Nat} {f : Nat → LV} {h : Nat → Option Blk} {nb nb' : Nat} {l : List (Nat × LV)} {hl : List (Nat × Blk)} (ρ : List Nat) (hnb : nb' = ρ.length) (hd : ρ.Nodup) (hf : ∀ p ∈ l, renL nb' (fun b => ρ.getD b 0) p.2 = some (f p.1))
  (hlt : ∀ p ∈ hl,p.1 < ρ.length) (hb : ∀ p ∈ hl,∃ cs,h (ρ.getD p.1 0) = some ⟨p.2.ty,cs,p.2.fz⟩ ∧ renLs nb' (fun b => ρ.getD b 0) p.2.cells = some cs) : Sub 0 ⟨n,f,h,nb⟩ ⟨n,lk l,lkH hl,nb'⟩ := by
 subst hnb
 refine Sub.heap (fun b => ρ.getD b 0) hf (fun p hp' => ⟨hlt p hp',hb p hp'⟩) ?_ ⟨by omega,fun b hb => by omega⟩
 intro p hp' q hq heq
 have h1 := hlt p hp'
 have h2 := hlt q hq
 simp only [List.getD_eq_getElem?_getD,List.getElem?_eq_getElem h1,List.getElem?_eq_getElem h2,Option.getD_some] at heq
 exact (List.getElem_inj hd).1 heq
theorem mk_pos3 {α : Type} {j : Int} {n m k l : Nat} {x y : α} (h : 0 ≤ j ∧ n ≤ m ∧ k ≤ l) : (if 0 ≤ j ∧ n ≤ m ∧ k ≤ l then x else y) = x := if_pos h
theorem cyc_snoc (a b c d : LV) (n : Nat) : cyc [a,b,c,d] (n * 4 + 4) = cyc [a,b,c,d] (n * 4) ++ [a,b,c,d] := by
 unfold cyc
 have e0 : n * 4 % 4 = 0 := by omega
 have e1 : (n * 4 + 1) % 4 = 1 := by omega
 have e2 : (n * 4 + 2) % 4 = 2 := by omega
 have e3 : (n * 4 + 3) % 4 = 3 := by omega
 rw [List.range_succ,List.range_succ,List.range_succ,List.range_succ]
 simp only [List.map_append,List.map_cons,List.map_nil,List.length_cons,List.length_nil,Nat.zero_add,Nat.reduceAdd,e0,e1,e2,e3,List.append_assoc,List.cons_append,List.nil_append]
 rfl
end Go.Lg
namespace Go.Proofs.YtbajpjjbaffnnaaGreat
open Go Go.Lg Go.Num
set_option maxRecDepth 100000
set_option maxHeartbeats 4000000
def oqc : Option Rat → List LV
 | none => [.lit (.bool false),.lit (.slice none 0 0),.lit (.bool false),.lit (.slice none 0 0)]
 | some q => qcells q
def oc (l : List (Option Rat)) : List LV := l.flatMap oqc
theorem oqc_none : oqc none = [.lit (.bool false),.lit (.slice none 0 0),.lit (.bool false),.lit (.slice none 0 0)] := rfl
theorem oqc_some (q : Rat) : oqc (some q) = [sg (q).num,mg (q).num,sg ((q).den : Int),mg ((q).den : Int)] := qcells_sm q
theorem oqc_len (o : Option Rat) : (oqc o).length = 4 := by cases o <;> rfl
theorem oc_len (l : List (Option Rat)) : (oc l).length = l.length * 4 := by induction l with
 | nil => rfl
 | cons a l ih => rw [oc,List.flatMap_cons,List.length_append,oqc_len];rw [oc] at ih;rw [ih,List.length_cons];omega
theorem oc_split : ∀ {l : List (Option Rat)} {j : Nat},j < l.length → ∃ a b,oc l = a ++ oqc (l.getD j none) ++ b ∧ a.length = j * 4 ∧ ∀ o,oc (l.set j o) = a ++ oqc o ++ b
 | [],j,h => by simp at h
 | x :: l,0,_ => ⟨[],oc l,by simp [oc],rfl,fun o => by simp [oc]⟩
 | x :: l,j + 1,h => by
   obtain ⟨a,b,h1,h2,h3⟩ := oc_split (l := l) (j := j) (by simpa using h)
   refine ⟨oqc x ++ a,b,?_,?_,fun o => ?_⟩
   · show oqc x ++ oc l = _
     rw [h1];simp
   · rw [List.length_append,oqc_len,h2];omega
   · show oqc x ++ oc (l.set j o) = _
     rw [h3];simp
theorem oc_td {l : List (Option Rat)} {j : Nat} (h : j < l.length) : ((oc l).drop (j * 4)).take 4 = oqc (l.getD j none) := by
 obtain ⟨a,b,h1,h2,_⟩ := oc_split h
 rw [h1,← h2,List.append_assoc,List.drop_left,← oqc_len (l.getD j none),List.take_left]
theorem oc_set {l : List (Option Rat)} {j : Nat} (h : j < l.length) (q : Rat) : (oc l).take (j * 4) ++ [sg (q).num,mg (q).num,sg ((q).den : Int),mg ((q).den : Int)] ++ (oc l).drop (j * 4 + 4) = oc (l.set j (some q)) := by
 obtain ⟨a,b,h1,h2,h3⟩ := oc_split h
 rw [h3,← oqc_some,h1,← h2]
 have e : a.length + 4 = (a ++ oqc (l.getD j none)).length := by rw [List.length_append,oqc_len]
 rw [e,List.drop_left,List.append_assoc a (oqc (l.getD j none)) b,List.take_left]
theorem oc_zeros : ∀ n,cyc [.lit (.bool false),.lit (.slice none 0 0),.lit (.bool false),.lit (.slice none 0 0)] (n * 4) = oc (List.replicate n none)
 | 0 => by rw [Nat.zero_mul,cyc_0];rfl
 | n + 1 => by
   rw [Nat.add_mul,Nat.one_mul,cyc_snoc,oc_zeros n,List.replicate_succ',oc,oc,List.flatMap_append]
   rfl
attribute [local irreducible] sg mg
theorem oqc_plain (o : Option Rat) : ∀ c ∈ oqc o,plainC c = true := by
 cases o with
 | none => intro c hc;simp [oqc] at hc;rcases hc with rfl | rfl | rfl | rfl <;> rfl
 | some q =>
   rw [oqc_some]
   intro c hc
   simp only [List.mem_cons,List.not_mem_nil,or_false] at hc
   rcases hc with rfl | rfl | rfl | rfl
   · exact s9 _
   · exact s10 _
   · exact s9 _
   · exact s10 _
theorem oc_plain' (l : List (Option Rat)) : ∀ c ∈ oc l,plainC c = true := by
 intro c hc
 simp only [oc,List.mem_flatMap] at hc
 obtain ⟨o,_,ho⟩ := hc
 exact oqc_plain o c ho
theorem oc_plain (l : List (Option Rat)) : (∀ c ∈ oc l,plainC c = true) = True := eq_true (oc_plain' l)
theorem ren_oc {nb : Nat} {ρ : Nat → Nat} (l : List (Option Rat)) : renLs nb ρ (oc l) = some (oc l) := rens_plain (oc_plain' l)
def mC (a : Nat → Rat) (N i : Nat) : List LV := if i = 0 then oc (List.replicate N none) else qc (aP a i)
theorem mC_zero (a : Nat → Rat) (N : Nat) : oc (List.replicate N none) = mC a N 0 := rfl
theorem mC_take (a : Nat → Rat) (N i : Nat) : (mC a N i).take (i * 4) = qc (aP a i) := by
 unfold mC
 split
 ·rename_i h;subst h;rw [Nat.zero_mul,List.take_zero];rfl
 ·exact qc_take (by rw [aP_len])
theorem mC_len (a : Nat → Rat) (N i : Nat) : i * 4 ≤ (mC a N i).length := by
 unfold mC
 split
 ·rename_i h;subst h;omega
 ·rw [qc_len,aP_len];exact Nat.le_refl _
theorem mC_le {α : Type} {a : Nat → Rat} {N i k l m n : Nat} {x y : α} (h : k ≤ l ∧ m ≤ n) : (if i * 4 ≤ (mC a N i).length ∧ k ≤ l ∧ m ≤ n then x else y) = x := if_pos ⟨mC_len a N i,h⟩
theorem mC_ge {α : Type} {a : Nat → Rat} {N i : Nat} {x y : α} : (if i * 4 ≤ (mC a N i).length then x else y) = x := if_pos (mC_len a N i)
theorem mC_succ {a : Nat → Rat} {N i : Nat} {q : Rat} (h : a i = q) : qc (aP a i) ++ [sg (q).num,mg (q).num,sg ((q).den : Int),mg ((q).den : Int)] = mC a N (i + 1) := by
 subst h
 rw [mC,if_neg (by omega),qc_app,← aP_succ]
theorem mC_plain' (a : Nat → Rat) (N i : Nat) : ∀ c ∈ mC a N i,plainC c = true := by
 unfold mC
 split
 ·exact oc_plain' _
 ·exact qc_all s9 s10 _
theorem mC_plain (a : Nat → Rat) (N i : Nat) : (∀ c ∈ mC a N i,plainC c = true) = True := eq_true (mC_plain' a N i)
theorem ren_mC {nb : Nat} {ρ : Nat → Nat} (a : Nat → Rat) (N i : Nat) : renLs nb ρ (mC a N i) = some (mC a N i) := rens_plain (mC_plain' a N i)
def smM := And.intro mC_take (And.intro @mC_le (And.intro @mC_ge (And.intro mC_plain @ren_mC)))
theorem lenL_mg (s : LS) (z : Int) : lenL s (mg z) = some (digs z.natAbs).length := by with_unfolding_all rfl
def smO := And.intro oc_len (And.intro @oc_td (And.intro oqc_none (And.intro oqc_some (And.intro oc_zeros (And.intro oc_plain (And.intro @ren_oc @mk_pos3))))))
end Go.Proofs.YtbajpjjbaffnnaaGreat