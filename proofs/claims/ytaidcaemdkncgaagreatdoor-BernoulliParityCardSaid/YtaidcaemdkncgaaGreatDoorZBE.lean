/- Contracts of functions of the program, and what proves them (texts: BC9). -/
import Derived.Test.YtaidcaemdkncgaaGreatDoorZAY
import Derived.Test.YtaidcaemdkncgaaGreatDoorZBD
set_option linter.all false
set_option maxRecDepth 100000
set_option maxHeartbeats 8000000
namespace Go.Proofs.YtaidcaemdkncgaaGreatDoor
open Go Go.Lg Go.Num
def ixB (o f : Nat) (w : List Nat) (j : Nat) : Option Nat := match orcDV [chV f w,.lit (.int .i64 (.ofNat (Nat.succ j)))] with
 | some (.tup [.agg [.lit (.bool z),.lit (.int .i64 (.ofNat a)),.lit (.int .i64 (.ofNat d))],.lit (.int .i64 (.ofNat _))]) => bif z then none else some (a * (o / d))
 | _ => none
def vlB (o f : Nat) (w : List Nat) (j : Nat) : Bool := match orcDV [chV f w,.lit (.int .i64 (.ofNat (Nat.succ j)))] with
 | some (.tup [.agg [.lit (.bool z),.lit (.int .i64 (.ofNat a)),.lit (.int .i64 (.ofNat d))],.lit (.int .i64 (.ofNat e))]) => Nat.beq e 0 && (match orcRv [chV f w,.lit (.int .i64 (.ofNat (Nat.succ j)))] with
   | some (.agg [.lit (.bool z'),.lit (.int .i64 (.ofNat a')),.lit (.int .i64 (.ofNat d'))]) => (bif z then z' else (!z' && Nat.beq a a' && Nat.beq d d' && Nat.ble 1 d && Nat.ble d 60 && Nat.ble a 60 && Nat.blt (a * (o / d)) o))
   | _ => false)
 | _ => false
def isB (x : Option LV) (b : Bool) : Bool := match x with
 | some (.tup [.lit (.bool c),.lit (.int .i64 (.ofNat e))]) => (bif b then c else !c) && Nat.beq e 0
 | _ => false
def isT (x : Option LV) (f : Nat) : Bool := match x with
 | some (.tup [.lit (.int .i64 (.ofNat k)),.lit (.int .i64 (.ofNat e))]) => Nat.beq k f && Nat.beq e 0
 | _ => false
def isI (x : Option LV) (f : Nat) : Bool := match x with
 | some (.lit (.int .i64 (.ofNat k))) => Nat.beq k f
 | _ => false
def isCh (x : Option LV) (f : Nat) (w : List Nat) : Bool := match x with
 | some (.agg [.lit (.int .i64 (.ofNat k)),.sl m cs]) => Nat.beq k f && isN w.length w (.sl m cs)
 | _ => false
theorem isB_ok {x : Option LV} {b : Bool} (h : isB x b = true) : x = some (.tup [.lit (.bool b),.lit (.int .i64 0)]) := by
 unfold isB at h
 split at h
 ·rename_i c e
  rw [Bool.and_eq_true] at h
  have e2 := Nat.eq_of_beq_eq_true h.2
  subst e2
  have : c = b := by
   have h1 := h.1
   cases b <;> cases c <;> simp_all
  rw [this]
  rfl
 ·cases h
theorem isT_ok {x : Option LV} {f : Nat} (h : isT x f = true) : x = some (.tup [.lit (.int .i64 (f : Int)),.lit (.int .i64 0)]) := by
 unfold isT at h
 split at h
 ·rename_i k e
  rw [Bool.and_eq_true] at h
  have e1 := Nat.eq_of_beq_eq_true h.1
  have e2 := Nat.eq_of_beq_eq_true h.2
  subst e1 e2
  rfl
 ·cases h
theorem isI_ok {x : Option LV} {f : Nat} (h : isI x f = true) : x = some (.lit (.int .i64 (f : Int))) := by
 unfold isI at h
 split at h
 ·rename_i k
  have e1 := Nat.eq_of_beq_eq_true h
  subst e1
  rfl
 ·cases h
theorem isCh_ok {x : Option LV} {f : Nat} {w : List Nat} (h : isCh x f w = true) : x = some (.agg [.lit (.int .i64 (f : Int)),.sl (nI w).length (ec (nI w))]) := by
 unfold isCh at h
 split at h
 ·rename_i k m cs
  rw [Bool.and_eq_true] at h
  have e1 := Nat.eq_of_beq_eq_true h.1
  subst e1
  have := isN_ok h.2
  rw [this,nlv_eq,nI_len]
  rfl
 ·cases h
def prB (b : Bool) (o f : Nat) (w : List Nat) : Bool := ((b && Nat.beq f 1) || (match ixB o f w (f - 1) with
 | none => true
 | some _ => false)) && (b || Nat.beq (o % 2) 0) && ((List.range (f - 1)).all fun j => match ixB o f w j,ixB o f w (f - 2 - j) with
 | none,none => true
 | some i,some i' => bif b then Nat.beq i i' else Nat.beq ((i + o / 2) % o) i'
 | _,_ => false)
noncomputable def chkWp (n : Nat) (v : List Nat) (f : Nat) (w : List Nat) : Bool := fNat (ordN n v) fun o => Nat.ble 1 f && Nat.ble f 60 && Nat.ble w.length 10 && nFC.elem o && Nat.ble (phK o) 12 && ((List.range f).all (vlB o f w))
noncomputable def chkW (n : Nat) (v : List Nat) (f : Nat) (w : List Nat) : Bool := chkWp n v f w && (fNat (ordN n v) fun o => isI (evo orcX 64 [chV n v]) f && isCh (evo orcX 65 [.lit (.int .i64 (.ofNat f)),chV n v]) f w && isT (evo orcX 24 [chV n v]) f && ((isB (evo orcX 23 [chV n v]) true && prB true o f w) || (isB (evo orcX 23 [chV n v]) false && prB false o f w)))
def anyB (x : Option LV) : Bool := match x with
 | some (.tup [.lit (.bool _),.lit (.int .i64 (.ofNat e))]) => Nat.beq e 0
 | _ => false
def anyT (x : Option LV) : Bool := match x with
 | some (.tup [.lit (.int .i64 _),.lit (.int .i64 (.ofNat e))]) => Nat.beq e 0
 | _ => false
theorem anyB_ok {x : Option LV} (h : anyB x = true) : ∃ b,x = some (.tup [.lit (.bool b),.lit (.int .i64 0)]) := by
 unfold anyB at h
 split at h
 ·rename_i b e
  have e2 := Nat.eq_of_beq_eq_true h
  subst e2
  exact ⟨b,rfl⟩
 ·cases h
theorem anyT_ok {x : Option LV} (h : anyT x = true) : ∃ c,x = some (.tup [.lit (.int .i64 c),.lit (.int .i64 0)]) := by
 unfold anyT at h
 split at h
 ·rename_i c e
  have e2 := Nat.eq_of_beq_eq_true h
  subst e2
  exact ⟨c,rfl⟩
 ·cases h
noncomputable def chkBC (n : Nat) (v : List Nat) : Bool := chkOr n v && (fNat (ordN n v) fun o => (Nat.blt 12 (phK o) && anyB (evo orcX 23 [chV n v]) && anyT (evo orcX 24 [chV n v])) || (match evo orcX 57 [chV n v] with
 | some (.tup [.agg [.lit (.int .i64 (.ofNat f)),.sl m cs],.lit (.int .i64 (.ofNat e))]) => (match rdNs cs with
   | some w => Nat.beq e 0 && Nat.beq m w.length && chkW n v f w
   | none => false)
 | _ => false))
theorem vl_ok {o f j : Nat} {w : List Nat} (h : vlB o f w j = true) :
  (ixB o f w j = none → (∃ a d : Int,PureGood Tryz.prog 44 [.agg [i64 f,.sl (nI w).length (ec (nI w))],i64 ((j : Int) + 1)] (.tup [.agg [bl true,i64 a,i64 d],i64 0])) ∧ ∃ a d : Int,PureGood Tryz.prog 68 [.agg [i64 f,.sl (nI w).length (ec (nI w))],i64 ((j : Int) + 1)] (.agg [bl true,i64 a,i64 d])) ∧
  (∀ i,ixB o f w j = some i → i < o ∧ ∃ a d : Nat,1 ≤ d ∧ d ≤ 60 ∧ a ≤ 60 ∧ a * (o / d) = i ∧ PureGood Tryz.prog 44 [.agg [i64 f,.sl (nI w).length (ec (nI w))],i64 ((j : Int) + 1)] (.tup [.agg [bl false,i64 a,i64 d],i64 0]) ∧ PureGood Tryz.prog 68 [.agg [i64 f,.sl (nI w).length (ec (nI w))],i64 ((j : Int) + 1)] (.agg [bl false,i64 a,i64 d])) := by
 have e1 : ((j : Int) + 1) = Int.ofNat (Nat.succ j) := rfl
 rw [e1,← chV_eq]
 unfold vlB at h
 split at h
 ·rename_i z a d e he
  rw [Bool.and_eq_true] at h
  have e2 := Nat.eq_of_beq_eq_true h.1
  subst e2
  have g1 := orcDV_ok he
  have h := h.2
  have hix : ixB o f w j = bif z then none else some (a * (o / d)) := by unfold ixB;rw [he]
  split at h
  ·rename_i z' a' d' he'
   have g2 := orcRv_ok he'
   cases z with
   | true =>
     rw [cond_true] at h hix
     subst h
     rw [hix]
     exact ⟨fun _ => ⟨⟨_,_,g1⟩,⟨_,_,g2⟩⟩,fun i hi => nomatch hi⟩
   | false =>
     rw [cond_false] at h hix
     simp only [Bool.and_eq_true,Nat.ble_eq,Nat.beq_eq,Bool.not_eq_true'] at h
     obtain ⟨⟨⟨⟨⟨⟨rfl,rfl⟩,rfl⟩,h4⟩,h5⟩,h6⟩,h7⟩ := h
     rw [hix]
     refine ⟨fun e => (nomatch e),fun i hi => ?_⟩
     injection hi with hi
     subst hi
     exact ⟨Nat.le_of_ble_eq_true h7,a,d,h4,h5,h6,rfl,g1,g2⟩
  ·cases h
 ·cases h
theorem chkWp_ok {n f : Nat} {v w : List Nat} (n2 : n ≤ 60) (hor : chkOr n v = true) (hp : PureGood Tryz.prog 57 [.agg [i64 n, .sl (nI v).length (ec (nI v))]] (.tup [.agg [i64 f, .sl (nI w).length (ec (nI w))], i64 0])) (h : chkWp n v f w = true) :
  (1 ≤ f ∧ f ≤ 60 ∧ (nI w).length ≤ 10 ∧ ordN n v ∈ nFC ∧ phN (ordN n v) (ordN n v) ≤ 12) ∧ ChD n (nI v) (ordN n v) f (nI w) (ixB (ordN n v) f w) := by
 obtain ⟨⟨o1,o2⟩,go,gro⟩ := chkOr_ok hor
 unfold chkWp at h
 rw [fNat_eq] at h
 simp only [Bool.and_eq_true,Nat.ble_eq] at h
 obtain ⟨⟨⟨⟨⟨f1,f2⟩,lw⟩,hf⟩,hph⟩,hv⟩ := h
 have hv := List.all_eq_true.1 hv
 rw [phK_eq] at hph
 refine ⟨⟨f1,f2,by rw [nI_len];exact lw,List.elem_iff.1 hf,hph⟩,⟨o1,o2,f1,f2,go,hp,fun j hj hn => ((vl_ok (hv j (List.mem_range.2 hj))).1 hn).1,fun j i hj hi => ?_⟩⟩
 obtain ⟨h1,a,d,h2,h3,h4,h5,h6,h7⟩ := (vl_ok (hv j (List.mem_range.2 hj))).2 i hi
 exact ⟨h1,a,d,h2,h3,h4,h5,h6⟩
theorem chkW_ok {n f : Nat} {v w : List Nat} (n2 : n ≤ 60) (hb : ChB n (nI v)) (he : cerr n (nI v) = 0) (hor : chkOr n v = true) (hp : PureGood Tryz.prog 57 [.agg [i64 n, .sl (nI v).length (ec (nI v))]] (.tup [.agg [i64 f, .sl (nI w).length (ec (nI w))], i64 0])) (h : chkW n v f w = true) :
  (1 ≤ f ∧ f ≤ 60 ∧ (nI w).length ≤ 10 ∧ ordN n v ∈ nFC ∧ phN (ordN n v) (ordN n v) ≤ 12) ∧ ChD n (nI v) (ordN n v) f (nI w) (ixB (ordN n v) f w) ∧ RChD n (nI v) (ordN n v) f (nI w) (ixB (ordN n v) f w) ∧ PureGood Tryz.prog 24 [.agg [i64 n,.sl (nI v).length (ec (nI v))]] (.tup [i64 f,i64 0]) ∧
  ∃ b,PureGood Tryz.prog 23 [.agg [i64 n,.sl (nI v).length (ec (nI v))]] (.tup [bl b,i64 0]) ∧ prB b (ordN n v) f w = true := by
 obtain ⟨⟨o1,o2⟩,go,gro⟩ := chkOr_ok hor
 unfold chkW at h
 rw [fNat_eq] at h
 simp only [Bool.and_eq_true,Bool.or_eq_true] at h
 obtain ⟨hwp,⟨⟨hc,hw⟩,hcd⟩,hpar⟩ := h
 obtain ⟨h5,hC⟩ := chkWp_ok n2 hor hp hwp
 have hv : (List.range f).all (vlB (ordN n v) f w) = true := by
  unfold chkWp at hwp
  rw [fNat_eq,Bool.and_eq_true] at hwp
  exact hwp.2
 have hv := List.all_eq_true.1 hv
 have gc := rcheck28_good n (nI v) hb.m1 hb.ln
 rw [he] at gc
 have g1 := evo_good orcX_ok (isI_ok hc)
 have g2 := evo_good orcX_ok (isCh_ok hw)
 have g3 := evo_good orcX_ok (isT_ok hcd)
 rw [chV_eq] at g1 g2 g3
 refine ⟨h5,hC,⟨gc,gro,g1,g2,fun j hj hn => ((vl_ok (hv j (List.mem_range.2 hj))).1 hn).2,fun j i hj hi => ?_⟩,g3,?_⟩
 ·obtain ⟨h1,a,d,h2,h3,h4,h5,h6,h7⟩ := (vl_ok (hv j (List.mem_range.2 hj))).2 i hi
  exact ⟨h1,a,d,h2,h3,h4,h5,h7⟩
 ·rcases hpar with ⟨h1,h2⟩ | ⟨h1,h2⟩
  ·have := evo_good orcX_ok (isB_ok h1)
   rw [chV_eq] at this
   exact ⟨true,this,h2⟩
  ·have := evo_good orcX_ok (isB_ok h1)
   rw [chV_eq] at this
   exact ⟨false,this,h2⟩
theorem chkBC_ok {n : Nat} {v : List Nat} (n2 : n ≤ 60) (hb : ChB n (nI v)) (he : cerr n (nI v) = 0) (h : chkBC n v = true) : chkOr n v = true ∧ (∃ b, PureGood Tryz.prog 23 [.agg [i64 n, .sl (nI v).length (ec (nI v))]] (.tup [bl b, i64 0])) ∧ (∃ c, PureGood Tryz.prog 24 [.agg [i64 n, .sl (nI v).length (ec (nI v))]] (.tup [i64 c, i64 0])) ∧ (12 < phN (ordN n v) (ordN n v) ∨ ∃ f w, (1 ≤ f ∧ f ≤ 60 ∧ (nI w).length ≤ 10 ∧ ordN n v ∈ nFC ∧ phN (ordN n v) (ordN n v) ≤ 12) ∧ ChD n (nI v) (ordN n v) f (nI w) (ixB (ordN n v) f w) ∧ RChD n (nI v) (ordN n v) f (nI w) (ixB (ordN n v) f w) ∧ PureGood Tryz.prog 24 [.agg [i64 n, .sl (nI v).length (ec (nI v))]] (.tup [i64 f, i64 0]) ∧
  ∃ b,PureGood Tryz.prog 23 [.agg [i64 n,.sl (nI v).length (ec (nI v))]] (.tup [bl b,i64 0]) ∧ prB b (ordN n v) f w = true) := by
 unfold chkBC at h
 rw [Bool.and_eq_true,fNat_eq,Bool.or_eq_true,Bool.and_eq_true,Bool.and_eq_true,phK_eq] at h
 obtain ⟨hor,h⟩ := h
 refine ⟨hor,?_⟩
 rcases h with ⟨⟨h,he1⟩,hc1⟩ | h
 ·obtain ⟨b,hb1⟩ := anyB_ok he1
  obtain ⟨c,hc2⟩ := anyT_ok hc1
  have g1 := evo_good orcX_ok hb1
  have g2 := evo_good orcX_ok hc2
  rw [chV_eq] at g1 g2
  exact ⟨⟨b,g1⟩,⟨c,g2⟩,.inl (Nat.le_of_ble_eq_true h)⟩
 ·split at h
  ·rename_i f m cs e hp
   split at h
   ·rename_i w hw
    simp only [Bool.and_eq_true,Nat.beq_eq] at h
    obtain ⟨⟨rfl,rfl⟩,h⟩ := h
    obtain ⟨rfl,_⟩ := rdNs_ok hw
    have g := evo_good orcX_ok hp
    rw [chV_eq] at g
    have hk := chkW_ok (w := w) n2 hb he hor (by
     rw [nI_len w]
     exact g) h
    obtain ⟨k1,k2,k3,k4,b,k5,k6⟩ := hk
    exact ⟨⟨b,k5⟩,⟨_,k4⟩,.inr ⟨f,w,k1,k2,k3,k4,b,k5,k6⟩⟩
   ·cases h
  ·cases h
noncomputable def pB (n a b : Nat) : Bool := (((prodN (od n)).drop a).take b).all (chkBC n)
def pP (n M : Nat) : Nat → Nat → Prop
 | 0,_ => True
 | k + 1,j => pB n (j * M) M = true ∧ pP n M k (j + 1)
theorem pP_get {n M : Nat} : ∀ {k j : Nat},pP n M k j → ∀ i,i < k → pB n ((j + i) * M) M = true
 | 0,_,_,i,hi => by omega
 | k + 1,j,h,0,_ => h.1
 | k + 1,j,h,i + 1,hi => by
   have := pP_get h.2 i (by omega)
   rwa [show j + 1 + i = j + (i + 1) by omega] at this
theorem pJ (n M k : Nat) (h1 : (prodN (od n)).length ≤ k * M) (h : pP n M k 0) : (prodN (od n)).all (chkBC n) = true := all_parts M k h1 (fun j hj => by
 have := pP_get h j hj
 rwa [Nat.zero_add] at this)
end Go.Proofs.YtaidcaemdkncgaaGreatDoor