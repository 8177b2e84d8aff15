/- Contracts of functions of the program, and what proves them (texts: NumU2). -/
import Derived.Test.YtbajpjjbaffnnaaGreatZBX
set_option linter.all false
namespace Go.Num
theorem sN_eq {n m k N : Nat} {xs : List Int} (hc : ∀ j, sv (dvs n) (exS xs) xs.length (j + 1) = if (j + 1) % m = 0 then (k : Int) else 0) {i : Nat} (h1 : 1 ≤ i) (h2 : i ≤ N) :
    sS (etaC n xs N) i = ((sN m k i i : Nat) : Int) := by
  have lc := etaC_len n xs N
  have key : ∀ j, j ≤ N → sv (fun j => j + 1) (dc (etaC n xs N)) j i = ((sN m k i j : Nat) : Int) := by
    intro j
    induction j with
    | zero => intro _; rfl
    | succ j ih =>
      intro hj
      rw [sv_succ, ih (by omega), sN, Int.natCast_add]
      congr 1
      rw [dc, etaC_get (by omega), hc]
      by_cases a : i % (j + 1) = 0
      · rw [if_pos a]
        by_cases b : (j + 1) % m = 0
        · rw [if_pos b, a, b]; simp
        · rw [if_neg b]
          have : Nat.beq ((j + 1) % m) 0 = false := Bool.eq_false_iff.2 fun e => b (Nat.eq_of_beq_eq_true e)
          rw [this]; simp
      · rw [if_neg a]
        have : Nat.beq (i % (j + 1)) 0 = false := Bool.eq_false_iff.2 fun e => a (Nat.eq_of_beq_eq_true e)
        rw [this]; simp
  unfold sS
  rw [lc, sv_ge h1 h2, key i h2]
theorem qs_int (s : Nat → Int) (f : Nat → Int) (n : Nat) : ∀ i, qs s (fun q => ((f (q + 1) : Int) : Rat)) n i = ((psum (fun i => s (i + 1) * f (n - 1 - i + 1)) i : Int) : Rat)
  | 0 => rfl
  | i + 1 => by rw [qs, qs_int s f n i, psum, Rat.intCast_add, Rat.intCast_mul]
theorem lq_int63 {z : Int} (h : -9223372036854775808 ≤ z ∧ z ≤ 9223372036854775808) : lq (z : Rat) ≤ 3 := by
  have h3 : len z ≤ 2 := len_pow_lt (e := 2) (by omega)
  rw [lq_int]
  omega
theorem chkU_use {m k : Nat} {f : Nat → Int} (h : chkU m k f = true) : (∀ i, i < 499 → -100 ≤ f (i + 1) ∧ f (i + 1) ≤ 100) ∧ f 1 = 1 ∧
    ∀ n : Nat, 1 ≤ n → n < 499 → (n : Int) * f (n + 1) = -(psum (fun i => ((sN m k (i + 1) (i + 1) : Nat) : Int) * f (n - 1 - i + 1)) n) := by
  unfold chkU at h
  rw [fI_eq, fI_eq, Bool.and_eq_true] at h
  obtain ⟨h1, h2⟩ := h
  have lU : (uL f).length = 499 := by simp [uL]
  have lS : (sL m k).length = 498 := by simp [sL]
  have gU : ∀ i, i < 499 → (uL f).getD i 0 = f (i + 1) := fun i hi => range_getD (f := fun i => f (i + 1)) hi
  have gS : ∀ i, i < 498 → (sL m k).getD i 0 = ((sN m k (i + 1) (i + 1) : Nat) : Int) := fun i hi => range_getD (f := fun i => ((sN m k (i + 1) (i + 1) : Nat) : Int)) hi
  refine ⟨fun i hi => ?_, ?_, ?_⟩
  · have hm : f (i + 1) ∈ uL f := by
      unfold uL
      exact List.mem_map.2 ⟨i, List.mem_range.2 hi, rfl⟩
    have := List.all_eq_true.1 h1 _ hm
    rw [Bool.and_eq_true] at this
    exact ⟨of_decide_eq_true this.1, of_decide_eq_true this.2⟩
  · rw [← gU 0 (by omega)]
    generalize uL f = U at *
    cases U with
    | nil => simp at lU
    | cons u rest =>
      rw [Bool.and_eq_true] at h2
      exact of_decide_eq_true h2.1
  · intro n n1 n2
    have key : ∀ U : List Int, U = uL f → (n : Int) * U.getD n 0 = -(psum (fun i => (sL m k).getD i 0 * U.getD (n - 1 - i) 0) n) := by
      intro U hU
      rw [← hU] at h2 lU
      cases U with
      | nil => simp at lU
      | cons u rest =>
        rw [Bool.and_eq_true] at h2
        exact chkA_ok (sL m k) (u :: rest) rest [u] 1 rfl rfl (by omega) h2.2 n n1 (by omega)
    have := key _ rfl
    rw [gU n n2] at this
    rw [this]
    refine congrArg (fun z : Int => -z) (psum_congr (fun i hi => ?_))
    rw [gS i (by omega), gU _ (by omega)]
theorem prodOk_U {n m k N : Nat} {xs : List Int} {f : Nat → Int} (ok : EtaOk n xs) (hN : N ≤ 498) (hc : ∀ j, sv (dvs n) (exS xs) xs.length (j + 1) = if (j + 1) % m = 0 then (k : Int) else 0) (h : chkU m k f = true) :
    ProdOk (etaC n xs N) (fun q => ((f (q + 1) : Int) : Rat)) := by
  have lc := etaC_len n xs N
  obtain ⟨hb, h1, hst⟩ := chkU_use h
  have hsm := etaC_small ok N
  have hs : ∀ i, -4790404800 ≤ sS (etaC n xs N) i ∧ sS (etaC n xs N) i ≤ 4790404800 := by
    intro i
    have c0 : ∀ j, j < (etaC n xs N).length → -4795200 ≤ dc (etaC n xs N) j ∧ dc (etaC n xs N) j ≤ 4795200 := by
      intro j hj
      have := etaC_getD_bd ok N j
      exact mul_bd (A := 999) (B := 4800) (by omega) this
    have h3 := sv_bd (d := fun j => j + 1) (x := dc (etaC n xs N)) (B := 4795200) (k := (etaC n xs N).length) (by omega) c0 i _ (Nat.le_refl _)
    unfold sS
    omega
  refine ⟨by omega, hsm, by simp only [Nat.zero_add]; rw [h1]; rfl, ?_, ?_, ?_⟩
  · intro q q1 q2
    rw [lc] at q2
    rw [qs_int]
    have e := hst q q1 (by omega)
    have e2 : psum (fun i => sS (etaC n xs N) (i + 1) * f (q - 1 - i + 1)) q = psum (fun i => ((sN m k (i + 1) (i + 1) : Nat) : Int) * f (q - 1 - i + 1)) q :=
      psum_congr (fun i hi => by rw [sN_eq hc (by omega) (by omega)])
    rw [e2]
    have e3 : -(((psum (fun i => ((sN m k (i + 1) (i + 1) : Nat) : Int) * f (q - 1 - i + 1)) q : Int)) : Rat) = ((q : Int) : Rat) * ((f (q + 1) : Int) : Rat) := by
      rw [← Rat.intCast_neg, ← e, Rat.intCast_mul]
    rw [e3, Rat.div_def, Rat.mul_comm ((q : Int) : Rat), Rat.mul_assoc, Rat.mul_inv_cancel, Rat.mul_one]
    intro hz
    have := Rat.intCast_inj.1 (hz.trans Rat.intCast_zero.symm)
    omega
  · intro q q2
    have := hb q (by omega)
    have := lq_int63 (z := f (q + 1)) (by omega)
    omega
  · intro q i q1 q2 q3
    rw [lc] at q2
    rw [qs_int]
    have h4 := psum_bound (f := fun i => sS (etaC n xs N) (i + 1) * f (q - 1 - i + 1)) (B := 479040480000) (n := q) (fun j hj => by
      have b1 := hs (j + 1)
      have b2 := hb (q - 1 - j) (by omega)
      rcases Int.le_total 0 (sS (etaC n xs N) (j + 1)) with hp | hp
      · exact mul_bd (A := 4790404800) (B := 100) (by omega) (by omega)
      · have := mul_bd (a := -(sS (etaC n xs N) (j + 1))) (b := f (q - 1 - j + 1)) (A := 4790404800) (B := 100) (by omega) (by omega)
        rw [Int.neg_mul] at this
        omega) i q3
    have := lq_int63 (z := psum (fun i => sS (etaC n xs N) (i + 1) * f (q - 1 - i + 1)) i) (by omega)
    omega
def xsA : List Int := [0, 0, 0, 0, 0, 0, 0, 1]
def xsB : List Int := [0, 0, 0, 3]
theorem okA : EtaOk 24 xsA := ⟨by omega, by omega, by decide +kernel, by decide⟩
theorem okB : EtaOk 8 xsB := ⟨by omega, by omega, by decide +kernel, by decide⟩
theorem errA : etaErr 24 xsA = 0 := by decide +kernel
theorem errB : etaErr 8 xsB = 0 := by decide +kernel
theorem lowA : psum (exL 24 xsA) xsA.length = 24 := by decide +kernel
theorem lowB : psum (exL 8 xsB) xsB.length = 24 := by decide +kernel
theorem dvA : dvs 24 7 = 24 := by decide +kernel
theorem dvB : dvs 8 3 = 8 := by decide +kernel
theorem cA (j : Nat) : sv (dvs 24) (exS xsA) xsA.length (j + 1) = if (j + 1) % 24 = 0 then ((1 : Nat) : Int) else 0 := by
  have e : ∀ i, i < 7 → svS (dvs 24) (exS xsA) (j + 1) i = 0 := by
    intro i hi
    unfold svS
    have : exS xsA i = 0 := by
      match i, hi with
      | 0, _ => rfl
      | 1, _ => rfl
      | 2, _ => rfl
      | 3, _ => rfl
      | 4, _ => rfl
      | 5, _ => rfl
      | 6, _ => rfl
    rw [this]; simp
  show psum _ 8 = _
  simp only [psum, e 0 (by omega), e 1 (by omega), e 2 (by omega), e 3 (by omega), e 4 (by omega), e 5 (by omega), e 6 (by omega)]
  unfold svS
  rw [dvA]
  simp [exS, xsA]
theorem cB (j : Nat) : sv (dvs 8) (exS xsB) xsB.length (j + 1) = if (j + 1) % 8 = 0 then ((3 : Nat) : Int) else 0 := by
  have e : ∀ i, i < 3 → svS (dvs 8) (exS xsB) (j + 1) i = 0 := by
    intro i hi
    unfold svS
    have : exS xsB i = 0 := by
      match i, hi with
      | 0, _ => rfl
      | 1, _ => rfl
      | 2, _ => rfl
    rw [this]; simp
  show psum _ 4 = _
  simp only [psum, e 0 (by omega), e 1 (by omega), e 2 (by omega)]
  unfold svS
  rw [dvB]
  simp [exS, xsB]
theorem prodA {N : Nat} (h : N ≤ 498) : ProdOk (etaC 24 xsA N) (fun q => ((xF 61 (q + 1) : Int) : Rat)) := prodOk_U okA h cA chkU_x
theorem prodB {N : Nat} (h : N ≤ 498) : ProdOk (etaC 8 xsB N) (fun q => ((yF 61 (q + 1) : Int) : Rat)) := prodOk_U okB h cB chkU_y
theorem xF_0 : xF 61 0 = 0 := by decide +kernel
theorem yF_0 : yF 61 0 = 0 := by decide +kernel
theorem xF_bd (k : Nat) : ∀ t, -1 ≤ xF t k ∧ xF t k ≤ 1
  | 0 => by unfold xF; omega
  | t + 1 => by
    have := xF_bd k t
    unfold xF sgT
    split
    · split <;> omega
    · exact this
theorem yF_bd (k : Nat) : ∀ t, t ≤ 61 → -100 ≤ yF t k ∧ yF t k ≤ 100
  | 0, _ => by unfold yF; omega
  | t + 1, h => by
    have := yF_bd k t (by omega)
    unfold yF sgT
    split
    · split
      · rw [Int.one_mul]; omega
      · rw [Int.neg_mul, Int.one_mul]; omega
    · exact this
end Go.Num
