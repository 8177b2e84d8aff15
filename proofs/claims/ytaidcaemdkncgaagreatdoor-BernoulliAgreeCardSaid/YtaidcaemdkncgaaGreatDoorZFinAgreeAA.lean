/- Contracts of functions of the program, and what proves them (texts: NumK K1 K2 NumT K6b). -/
import Derived.Test.YtaidcaemdkncgaaGreatDoorZAP
import Derived.Test.YtaidcaemdkncgaaGreatDoorZAU
import Derived.Test.YtaidcaemdkncgaaGreatDoorZAZ
import Derived.Test.YtaidcaemdkncgaaGreatDoorZBB
set_option linter.all false
set_option maxRecDepth 100000
set_option maxHeartbeats 8000000
namespace Go.Num
def fdL : List Int := [-59,-56,-55,-52,-51,-47,-43,-40,-39,-35,-31,-24,-23,-20,-19,-15,-11,-8,-7,-4,-3,1,5,8,12,13,17,21,24,28,29,33,37,40,41,44,53,56,57,60]
def tzF : Nat → Nat → Nat
 | 0,_ => 0
 | f + 1,n => bif Nat.beq (Nat.mod n 2) 0 then Nat.succ (tzF f (Nat.div n 2)) else 0
def tz (n : Nat) : Nat := tzF 10 n
def odP (n : Nat) : Nat := Nat.div n (Nat.pow 2 (tz n))
def jsg1 (a m : Nat) (o : Int) : Int := bif Nat.beq (Nat.mod (tz a) 2) 1 && (Nat.beq (Nat.mod m 8) 3 || Nat.beq (Nat.mod m 8) 5) then -o else o
def jsg (a m : Nat) (o : Int) : Int := bif Nat.beq (Nat.mod (odP a) 4) 3 && Nat.beq (Nat.mod m 4) 3 then -(jsg1 a m o) else jsg1 a m o
def jac : Nat → Nat → Nat → Int → Int
 | 0,_,_,_ => 0
 | f + 1,a,m,o => bif Nat.beq a 0 then (bif Nat.beq m 1 then o else 0) else jac f (Nat.mod m (odP a)) (odP a) (jsg a m o)
def dm (d : Int) (m : Nat) : Nat := Int.toNat (Int.emod d (Int.ofNat m))
def krP (d : Int) (n : Nat) : Int :=
 bif Nat.beq (tz n) 0 then jac 1001 (dm d n) n 1
 else bif Nat.beq (dm d 2) 0 then 0 else (bif Nat.beq (Nat.mod (tz n) 2) 1 && (Nat.beq (dm d 8) 3 || Nat.beq (dm d 8) 5) then -1 else 1) * jac 1001 (dm d (odP n)) (odP n) 1
def two (d : Int) : Int := bif Nat.beq (dm d 8) 1 || Nat.beq (dm d 8) 7 then 1 else bif Nat.beq (dm d 8) 3 || Nat.beq (dm d 8) 5 then -1 else 0
def krT : List Nat := [0,0x8088a280802800aa82a8a82088a89,0,0,0x1115191191511199959199195999,0x218058102669224112a685a8629,0,0,0x19911151119919119995999119,0x9069841141849869669841a49,0,0,0,0x200a22028a082a220aa2a9,0,0,0,0xa2280800a880aa8a82209,0,0,0x19511115919159999519,0x1061059261245a61a69,0,0,0,0x81984050a5a984689,0,0,0,0x20802a2202a8a29,0,0,0,0,0,0,0x151151959959,0x220a0a22a9,0,0,0x1151199599,0xa0088aa09,0,0,0,0x1161669,0,0,0,0x80a89,0,0,0x1199,0x229,0,0,0x19,0x9,0,0,0,0x2,0,0,0,0x209,0,0,0x9119,0,0,0,0x951159,0x2280289,0,0,0,0x2880a0229,0,0,0,0x21a51045a49,0,0,0x959151151959,0,0,0,0x99159111195199,0x20aa2020808aa09,0,0,0,0x29849141a41461269,0,0,0,0x22822a8080202a88289,0,0,0x99519195111159191599,0x28a0a80088a22002a0a29,0,0,0x9199951119119111599919,0,0,0,0,0,0,0,0,0x208a2a22a000a0a000a88a8a209,0,0,0x9195999111519119151119995919,0x29869049851061a49045261069269,0,0,0x955959159151551155151951959559]
def krt (d : Int) : Nat := krT.getD (Int.toNat (Int.add d 60)) 0
def kr (d : Int) (n : Nat) : Int := Int.subNatNat (Nat.mod (Nat.div (krt d) (Nat.pow 4 (Nat.mod n (Int.natAbs d)))) 4) 1
def okS (z : Int) : Bool := match z with
 | .ofNat 0 => true
 | .ofNat 1 => true
 | .negSucc 0 => true
 | _ => false
def eqS (y z : Int) : Bool := match y,z with
 | .ofNat m,.ofNat n => Nat.beq m n
 | .negSucc m,.negSucc n => Nat.beq m n
 | _,_ => false
theorem eqS_ok : ∀ {y z : Int},eqS y z = true → y = z
 | .ofNat m,.ofNat n,h => congrArg _ (Nat.eq_of_beq_eq_true h)
 | .negSucc m,.negSucc n,h => congrArg _ (Nat.eq_of_beq_eq_true h)
theorem okS_ok {z : Int} (h : okS z = true) : z = 1 ∨ z = 0 ∨ z = -1 := by
 unfold okS at h
 split at h
 ·exact .inr (.inl rfl)
 ·exact .inl rfl
 ·exact .inr (.inr rfl)
 ·cases h
def chkK (d : Int) (n : Nat) : Bool := eqS (krP d n) (kr d n) && okS (kr d n)
def all1 (c : Nat → Bool) : Nat → Bool
 | 0 => true
 | n + 1 => c (Nat.succ n) && all1 c n
theorem all1_ok {c : Nat → Bool} : ∀ {n : Nat},all1 c n = true → ∀ {i : Nat},1 ≤ i → i ≤ n → c i = true
 | 0,_,i,h1,h2 => by omega
 | n + 1,h,i,h1,h2 => by
   rw [all1,Bool.and_eq_true] at h
   by_cases e : i = n + 1
   · rw [e];exact h.1
   · exact all1_ok h.2 h1 (by omega)
theorem kkm59 : all1 (chkK (-59)) 1000 = true := by decide +kernel
theorem kkm56 : all1 (chkK (-56)) 1000 = true := by decide +kernel
theorem kkm55 : all1 (chkK (-55)) 1000 = true := by decide +kernel
theorem kkm52 : all1 (chkK (-52)) 1000 = true := by decide +kernel
theorem kkm51 : all1 (chkK (-51)) 1000 = true := by decide +kernel
theorem kkm47 : all1 (chkK (-47)) 1000 = true := by decide +kernel
theorem kkm43 : all1 (chkK (-43)) 1000 = true := by decide +kernel
theorem kkm40 : all1 (chkK (-40)) 1000 = true := by decide +kernel
theorem kkm39 : all1 (chkK (-39)) 1000 = true := by decide +kernel
theorem kkm35 : all1 (chkK (-35)) 1000 = true := by decide +kernel
theorem kkm31 : all1 (chkK (-31)) 1000 = true := by decide +kernel
theorem kkm24 : all1 (chkK (-24)) 1000 = true := by decide +kernel
theorem kkm23 : all1 (chkK (-23)) 1000 = true := by decide +kernel
theorem kkm20 : all1 (chkK (-20)) 1000 = true := by decide +kernel
theorem kkm19 : all1 (chkK (-19)) 1000 = true := by decide +kernel
theorem kkm15 : all1 (chkK (-15)) 1000 = true := by decide +kernel
theorem kkm11 : all1 (chkK (-11)) 1000 = true := by decide +kernel
theorem kkm8 : all1 (chkK (-8)) 1000 = true := by decide +kernel
theorem kkm7 : all1 (chkK (-7)) 1000 = true := by decide +kernel
theorem kkm4 : all1 (chkK (-4)) 1000 = true := by decide +kernel
theorem kkm3 : all1 (chkK (-3)) 1000 = true := by decide +kernel
theorem kkp1 : all1 (chkK (1)) 1000 = true := by decide +kernel
theorem kkp5 : all1 (chkK (5)) 1000 = true := by decide +kernel
theorem kkp8 : all1 (chkK (8)) 1000 = true := by decide +kernel
theorem kkp12 : all1 (chkK (12)) 1000 = true := by decide +kernel
theorem kkp13 : all1 (chkK (13)) 1000 = true := by decide +kernel
theorem kkp17 : all1 (chkK (17)) 1000 = true := by decide +kernel
theorem kkp21 : all1 (chkK (21)) 1000 = true := by decide +kernel
theorem kkp24 : all1 (chkK (24)) 1000 = true := by decide +kernel
theorem kkp28 : all1 (chkK (28)) 1000 = true := by decide +kernel
theorem kkp29 : all1 (chkK (29)) 1000 = true := by decide +kernel
theorem kkp33 : all1 (chkK (33)) 1000 = true := by decide +kernel
theorem kkp37 : all1 (chkK (37)) 1000 = true := by decide +kernel
theorem kkp40 : all1 (chkK (40)) 1000 = true := by decide +kernel
theorem kkp41 : all1 (chkK (41)) 1000 = true := by decide +kernel
theorem kkp44 : all1 (chkK (44)) 1000 = true := by decide +kernel
theorem kkp53 : all1 (chkK (53)) 1000 = true := by decide +kernel
theorem kkp56 : all1 (chkK (56)) 1000 = true := by decide +kernel
theorem kkp57 : all1 (chkK (57)) 1000 = true := by decide +kernel
theorem kkp60 : all1 (chkK (60)) 1000 = true := by decide +kernel
theorem kk_all : ∀ d ∈ fdL,all1 (chkK d) 1000 = true := by
 simp only [fdL,List.forall_mem_cons]
 exact ⟨kkm59,kkm56,kkm55,kkm52,kkm51,kkm47,kkm43,kkm40,kkm39,kkm35,kkm31,kkm24,kkm23,kkm20,kkm19,kkm15,kkm11,kkm8,kkm7,kkm4,kkm3,kkp1,kkp5,kkp8,kkp12,kkp13,kkp17,kkp21,kkp24,kkp28,kkp29,kkp33,kkp37,kkp40,kkp41,kkp44,kkp53,kkp56,kkp57,kkp60,by simp⟩
end Go.Num
namespace Go.Proofs.YtaidcaemdkncgaaGreatDoor
open Go Go.Lg Go.Num
attribute [local irreducible] Go.Lg.lrun Go.Lg.lwp Go.Lg.exThen Go.Lg.exBlk Go.Lg.keep Go.Lg.goodPost
noncomputable def chkTz (m : Nat) : Bool := match evl 120 [.lit (.int .u64 (m : Int))] with
 | some (.lit (.int .i64 (.ofNat k))) => Nat.beq k (tz m)
 | _ => false
theorem tz_a : all1 chkTz 250 = true := by kernel_rfl
theorem tz_b : all1 (fun i => chkTz (Nat.add 250 i)) 250 = true := by kernel_rfl
theorem tz_c : all1 (fun i => chkTz (Nat.add 500 i)) 250 = true := by kernel_rfl
theorem tz_d : all1 (fun i => chkTz (Nat.add 750 i)) 250 = true := by kernel_rfl
theorem chkTz_all {m : Nat} (h1 : 1 ≤ m) (h2 : m ≤ 1000) : chkTz m = true := by
 by_cases a1 : m ≤ 250
 ·exact all1_ok tz_a h1 a1
 ·by_cases a2 : m ≤ 500
  ·have := all1_ok tz_b (i := m - 250) (by omega) (by omega)
   rwa [show Nat.add 250 (m - 250) = m from Nat.add_sub_cancel' (by omega)] at this
  ·by_cases a3 : m ≤ 750
   ·have := all1_ok tz_c (i := m - 500) (by omega) (by omega)
    rwa [show Nat.add 500 (m - 500) = m from Nat.add_sub_cancel' (by omega)] at this
   ·have := all1_ok tz_d (i := m - 750) (by omega) (by omega)
    rwa [show Nat.add 750 (m - 750) = m from Nat.add_sub_cancel' (by omega)] at this
theorem tz_good {m : Nat} (h1 : 1 ≤ m) (h2 : m ≤ 1000) : PureGood Tryz.prog 120 [.lit (.int .u64 (m : Int))] (i64 (tz m : Nat)) := by
 have h := chkTz_all h1 h2
 unfold chkTz at h
 split at h
 ·rename_i k he
  have := Nat.eq_of_beq_eq_true h
  subst this
  exact evl_good he
 ·cases h
theorem tz_bd : (all1 fun m => Nat.ble (tz m) 9 && Nat.ble 1 (odP m) && Nat.ble (odP m) m && Nat.beq (Nat.mod (odP m) 2) 1) 1000 = true := by decide +kernel
theorem tz_le {m : Nat} (h1 : 1 ≤ m) (h2 : m ≤ 1000) : tz m ≤ 9 ∧ 1 ≤ odP m ∧ odP m ≤ m := by
 have h := all1_ok tz_bd h1 h2
 simp only [Bool.and_eq_true] at h
 exact ⟨Nat.le_of_ble_eq_true h.1.1.1,Nat.le_of_ble_eq_true h.1.1.2,Nat.le_of_ble_eq_true h.1.2⟩
theorem od_fdiv (m : Nat) : (m : Int) / 2 ^ tz m = ((odP m : Nat) : Int) := by
 show (m : Int) / 2 ^ tz m = ((m / 2 ^ tz m : Nat) : Int)
 rw [Int.natCast_ediv,Int.natCast_pow]
 rfl
theorem dm_eq (d : Int) {m : Nat} (hm : 1 ≤ m) : ((dm d m : Nat) : Int) = d % (m : Int) := by
 show ((Int.toNat (d % (m : Int)) : Nat) : Int) = _
 rw [Int.toNat_of_nonneg (Int.emod_nonneg _ (by omega))]
theorem dm_lt (d : Int) {m : Nat} (hm : 1 ≤ m) : dm d m < m := by
 have h1 := dm_eq d hm
 have h2 := Int.emod_lt_of_pos d (b := (m : Int)) (by omega)
 omega
theorem residue_good (a : Int) (m : Nat) (ha : -1000000 ≤ a ∧ a ≤ 1000000) (hm : 1 ≤ m ∧ m ≤ 1000000) : PureGood Tryz.prog 115 [i64 a,i64 m] (i64 (dm a m)) := by
 have h1 := emod_of_tmod a (m := m) (by omega)
 have h2 := tmod_bd a (b := m) (by omega)
 rw [dm_eq a hm.1]
 by_cases h : a.tmod m < 0
 ·rw [if_pos h] at h1
  rw [h1]
  clear h1
  refine good_of_lwp mix Tryz.func115 rfl (by decide) (nt := 14) rfl (rs := [.tmp 4]) rfl (nle rfl) ?_
  (repeat(first|refine zW ?_|refine zG3 ?_|refine zD3 ?_|refine zT3 ?_))
  exact zQ3
 ·rw [if_neg h] at h1
  rw [h1]
  clear h1
  refine good_of_lwp mix Tryz.func115 rfl (by decide) (nt := 14) rfl (rs := [.tmp 4]) rfl (nle rfl) ?_
  (repeat(first|refine zW ?_|refine zG3 ?_|refine zD3 ?_|refine zT3 ?_))
  exact zQ3
theorem neg_emod (a : Int) (h : a < 0) (h' : -1000000 ≤ a) : ∃ b : Nat,(b : Int) = -a ∧ IntKind.u64.wrap (-(IntKind.u64.wrap a)) = (b : Int) := by
 refine ⟨(-a).toNat,by omega,?_⟩
 rw [wrap_u64_mod,wrap_u64_mod]
 omega
theorem dm_neg {a : Int} {b m : Nat} (hm : 1 ≤ m) (hb : (b : Int) = -a) : dm a m = if 0 < b % m then m - b % m else 0 := by
 have h1 := dm_eq a hm
 have h2 : a = -(b : Int) := by omega
 have h3 := Nat.div_add_mod b m
 have h4 := Nat.mod_lt b (show 0 < m by omega)
 have h5 := Int.emod_emod_of_dvd a (m := (m : Int)) (k := m) (Int.dvd_refl _)
 have key : a % (m : Int) = ((if 0 < b % m then m - b % m else 0 : Nat) : Int) := by
  split
  ·rename_i h
   have e : a = (((m - b % m : Nat) : Int)) + (m : Int) * (-(((b / m : Nat) : Int)) - 1) := by
    rw [Int.mul_sub,Int.mul_neg,Int.mul_one]
    have : ((m * (b / m) : Nat) : Int) = (m : Int) * ((b / m : Nat) : Int) := by simp
    omega
   rw [e,Int.add_mul_emod_self_left,Int.emod_eq_of_lt (by omega) (by omega)]
  ·rename_i h
   have e : a = (m : Int) * (-(((b / m : Nat) : Int))) := by
    rw [Int.mul_neg]
    have : ((m * (b / m) : Nat) : Int) = (m : Int) * ((b / m : Nat) : Int) := by simp
    omega
   rw [e,Int.mul_emod_right]
   rfl
 omega
theorem reduced_good (a : Int) (m : Nat) (ha : -1000000 ≤ a ∧ a ≤ 1000000) (hm : 1 ≤ m ∧ m ≤ 1000000) : PureGood Tryz.prog 122 [i64 a,.lit (.int .u64 (m : Int))] (.lit (.int .u64 (dm a m : Nat))) := by
 by_cases h : a < 0
 ·obtain ⟨b,hb,hw⟩ := neg_emod a h ha.1
  rw [dm_neg hm.1 hb]
  have hlt := Nat.mod_lt b (show 0 < m by omega)
  have hz : (0 : Int) - IntKind.u64.wrap a = -(IntKind.u64.wrap a) := by omega
  by_cases h0 : 0 < b % m
  ·rw [if_pos h0,show ((m - b % m : Nat) : Int) = (m : Int) - ((b % m : Nat) : Int) by omega]
   refine good_of_lwp mix Tryz.func122 rfl (by decide) (nt := 23) rfl (rs := [.tmp 4]) rfl (nle rfl) ?_
   (repeat (first|refine zW ?_|((first|apply l_go rfl|apply c_dec|apply zT rfl (by decide) rfl);(case hs=>(simp (disch := first|omega|exact kD rfl|exact kX rfl) only [smY,simprocAttr,bl,i64,hw,hz];exact rfl));first|refine c_bt ?_|refine c_bf ?_|refine zq ?_|(case hg=>assumption))))
   ((first|apply g_ret|apply g_end);case hres => (simp only [smR];simp (disch := first|omega|exact kD rfl|exact kX rfl) only [smY,simprocAttr,bl,i64,hw,hz];exact rfl))
   simp (disch := first|omega|exact kD rfl|exact kX rfl) only [smY,simprocAttr,bl,i64,hw,hz]
  ·rw [if_neg h0,show ((0 : Nat) : Int) = ((b % m : Nat) : Int) by omega]
   refine good_of_lwp mix Tryz.func122 rfl (by decide) (nt := 23) rfl (rs := [.tmp 4]) rfl (nle rfl) ?_
   (repeat (first|refine zW ?_|((first|apply l_go rfl|apply c_dec|apply zT rfl (by decide) rfl);(case hs=>(simp (disch := first|omega|exact kD rfl|exact kX rfl) only [smY,simprocAttr,bl,i64,hw,hz];exact rfl));first|refine c_bt ?_|refine c_bf ?_|refine zq ?_|(case hg=>assumption))))
   ((first|apply g_ret|apply g_end);case hres => (simp only [smR];simp (disch := first|omega|exact kD rfl|exact kX rfl) only [smY,simprocAttr,bl,i64,hw,hz];exact rfl))
   simp (disch := first|omega|exact kD rfl|exact kX rfl) only [smY,simprocAttr,bl,i64,hw,hz]
 ·obtain ⟨b,rfl⟩ : ∃ b : Nat,a = b := ⟨a.toNat,by omega⟩
  have e : dm (b : Int) m = b % m := by
   have := dm_eq (b : Int) hm.1
   omega
  rw [e]
  refine good_of_lwp mix Tryz.func122 rfl (by decide) (nt := 23) rfl (rs := [.tmp 4]) rfl (nle rfl) ?_
  (repeat(first|refine zW ?_|refine zG3 ?_|refine zD3 ?_|refine zT3 ?_))
  exact zQ3
end Go.Proofs.YtaidcaemdkncgaaGreatDoor
namespace Go.Num
theorem beq_no {a b : Nat} (h : ¬ a = b) : Nat.beq a b = false := by
 cases e : Nat.beq a b with
 | false => rfl
 | true => exact absurd (Nat.eq_of_beq_eq_true e) h
theorem beq_yes {a b : Nat} (h : a = b) : Nat.beq a b = true := by rw [h];exact Nat.beq_refl b
theorem jsg1_t {a m : Nat} {o : Int} (h1 : tz a % 2 = 1) (h2 : m % 8 = 3 ∨ m % 8 = 5) : jsg1 a m o = 0 - o := by
 rw [Int.zero_sub]
 have e1 : Nat.beq (Nat.mod (tz a) 2) 1 = true := beq_yes h1
 have e2 : (Nat.beq (Nat.mod m 8) 3 || Nat.beq (Nat.mod m 8) 5) = true := by
  rcases h2 with h | h
  ·rw [show Nat.beq (Nat.mod m 8) 3 = true from beq_yes h];rfl
  ·rw [show Nat.beq (Nat.mod m 8) 5 = true from beq_yes h,Bool.or_true]
 rw [jsg1,e1,e2];rfl
theorem jsg1_f1 {a m : Nat} {o : Int} (h1 : ¬ tz a % 2 = 1) : jsg1 a m o = o := by
 rw [jsg1,show Nat.beq (Nat.mod (tz a) 2) 1 = false from beq_no h1];rfl
theorem jsg1_f2 {a m : Nat} {o : Int} (h1 : ¬ m % 8 = 3) (h2 : ¬ m % 8 = 5) : jsg1 a m o = o := by
 rw [jsg1,show Nat.beq (Nat.mod m 8) 3 = false from beq_no h1,show Nat.beq (Nat.mod m 8) 5 = false from beq_no h2,Bool.or_false,Bool.and_false];rfl
theorem jsg_t {a m : Nat} {o : Int} (h1 : odP a % 4 = 3) (h2 : m % 4 = 3) : jsg a m o = 0 - jsg1 a m o := by
 rw [Int.zero_sub]
 rw [jsg,show Nat.beq (Nat.mod (odP a) 4) 3 = true from beq_yes h1,show Nat.beq (Nat.mod m 4) 3 = true from beq_yes h2];rfl
theorem jsg_f1 {a m : Nat} {o : Int} (h1 : ¬ odP a % 4 = 3) : jsg a m o = jsg1 a m o := by
 rw [jsg,show Nat.beq (Nat.mod (odP a) 4) 3 = false from beq_no h1];rfl
theorem jsg_f2 {a m : Nat} {o : Int} (h1 : ¬ m % 4 = 3) : jsg a m o = jsg1 a m o := by
 rw [jsg,show Nat.beq (Nat.mod m 4) 3 = false from beq_no h1,Bool.and_false];rfl
theorem jsg_bd {a m : Nat} {o : Int} (h : -1 ≤ o ∧ o ≤ 1) : -1 ≤ jsg a m o ∧ jsg a m o ≤ 1 := by
 unfold jsg jsg1
 cases (Nat.beq (Nat.mod (odP a) 4) 3 && Nat.beq (Nat.mod m 4) 3) <;> cases (Nat.beq (Nat.mod (tz a) 2) 1 && (Nat.beq (Nat.mod m 8) 3 || Nat.beq (Nat.mod m 8) 5)) <;> simp only [cond_true,cond_false] <;> omega
theorem jac_zero (f m : Nat) (o : Int) : jac (f + 1) 0 m o = if m = 1 then o else 0 := by
 unfold jac
 by_cases h : m = 1
 ·subst h;rfl
 ·rw [if_neg h,beq_no h];rfl
theorem jac_step {f a m : Nat} {o : Int} (h : a ≠ 0) : jac (f + 1) a m o = jac f (m % odP a) (odP a) (jsg a m o) := by
 rw [jac,beq_no h];rfl
theorem jac_bd : ∀ {f a m : Nat} {o : Int},-1 ≤ o ∧ o ≤ 1 → -1 ≤ jac f a m o ∧ jac f a m o ≤ 1
 | 0,_,_,_,_ => by unfold jac;omega
 | f + 1,a,m,o,h => by
   by_cases h0 : a = 0
   · subst h0
     rw [jac_zero]
     split <;> omega
   · rw [jac_step h0]
     exact jac_bd (jsg_bd h)
end Go.Num
namespace Go.Proofs.YtaidcaemdkncgaaGreatDoor
open Go Go.Lg Go.Num
attribute [local irreducible] Go.Lg.lrun Go.Lg.lwp Go.Lg.exThen Go.Lg.exBlk Go.Lg.keep Go.Lg.goodPost tz odP jac dm
theorem jacobi_good (a0 m0 : Nat) (ha : a0 ≤ 1000) (hm : 1 ≤ m0 ∧ m0 ≤ 1000) : PureGood Tryz.prog 121 [.lit (.int .u64 (a0 : Int)),.lit (.int .u64 (m0 : Int))] (i64 (jac 1001 a0 m0 1)) := by
 generalize hJ0 : jac 1001 a0 m0 1 = J
 refine good_of_lwp mix Tryz.func121 rfl (by decide) (nt := 46) rfl (rs := [.tmp 4]) rfl (nle rfl) ?_
 (repeat(first|refine zW ?_|refine zG3 ?_|refine zD3 ?_|refine zT3 ?_))
 refine w_loop (α := {p : Nat × Nat × Int × Nat // jac (p.2.2.2 + 1) p.1 p.2.1 p.2.2.1 = J ∧ p.1 ≤ p.2.2.2 ∧ p.2.2.2 ≤ 1000 ∧ (1 ≤ p.2.1 ∧ p.2.1 ≤ 1000) ∧ (-1 ≤ p.2.2.1 ∧ p.2.2.1 ≤ 1)}) (fun p => st 46 (lk [(0,.lit (.int .u64 (p.1.1 : Int))),(1,.lit (.int .u64 (p.1.2.1 : Int))),(5,i64 p.1.2.2.1)]) (lkH []) 0) (fun p => p.1.1) ⟨(a0,m0,1,1000),hJ0,ha,by simp only;omega,hm,by simp only;omega⟩ ?_ ?_
 ·(refine Sub.plain ?_;simp only [smF,dg,renL,renLs,simprocAttr,bl,i64])
 ·rintro ⟨⟨a,m,o,f⟩,hJ,haf,hf,hm,ho⟩
  simp only at hJ haf hf hm ho
  simp only [st]
  by_cases h0 : a = 0
  ·subst h0
   rw [jac_zero] at hJ
   by_cases h1 : m = 1
   ·rw [if_pos h1] at hJ
    subst hJ
    (repeat(first|refine zW ?_|refine zG3 ?_|refine zD3 ?_|refine zT3 ?_))
    exact zQ3
   ·rw [if_neg h1] at hJ
    subst hJ
    (repeat(first|refine zW ?_|refine zG3 ?_|refine zD3 ?_|refine zT3 ?_))
    exact zQ3
  ·obtain ⟨t1,t2,t3⟩ := tz_le (m := a) (by omega) (by omega)
   have hod := od_fdiv a
   have hof := (Int.fdiv_eq_ediv_of_nonneg (a : Int) (b := 2 ^ tz a) (Int.pow_nonneg (by omega))).trans hod
   have rz := tz_good (m := a) (by omega) (by omega)
   obtain ⟨f,rfl⟩ : ∃ g,f = g + 1 := ⟨f - 1,by omega⟩
   rw [jac_step h0] at hJ
   have hob := jsg_bd (a := a) (m := m) ho
   have hlt : m % odP a < a := Nat.lt_of_lt_of_le (Nat.mod_lt _ (by omega)) t3
   simp only [i64] at rz
   by_cases c1 : tz a % 2 = 1
   ·by_cases c2 : m % 8 = 3
    ·by_cases c3 : odP a % 4 = 3
     ·by_cases c4 : m % 4 = 3
      ·
       have hE := (jsg_t (a := a) (o := o) c3 c4).trans (congrArg (fun z : Int => 0 - z) (jsg1_t c1 (.inl c2)))
       rw [hE] at hJ hob
       (repeat(first|refine zW ?_|refine zG7 ?_|refine zD7 ?_|refine zT7 ?_))
       refine ⟨⟨(m % odP a,odP a,_,f),⟨hJ,by simp only;omega,by simp only;omega,by simp only;omega,by simp only;omega⟩⟩,?_,hlt⟩
       (refine Sub.plain ?_;simp only [smF,dg,renL,renLs,simprocAttr,bl,i64,hod,hof])
      ·
       exfalso;omega
     ·
      have hE := (jsg_f1 (a := a) (o := o) (m := m) c3).trans (jsg1_t c1 (.inl c2))
      rw [hE] at hJ hob
      (repeat(first|refine zW ?_|refine zG7 ?_|refine zD7 ?_|refine zT7 ?_))
      refine ⟨⟨(m % odP a,odP a,_,f),⟨hJ,by simp only;omega,by simp only;omega,by simp only;omega,by simp only;omega⟩⟩,?_,hlt⟩
      (refine Sub.plain ?_;simp only [smF,dg,renL,renLs,simprocAttr,bl,i64,hod,hof])
    ·by_cases c2' : m % 8 = 5
     ·by_cases c3 : odP a % 4 = 3
      ·by_cases c4 : m % 4 = 3
       ·
        exfalso;omega
       ·
        have hE := (jsg_f2 (a := a) (o := o) c4).trans (jsg1_t c1 (.inr c2'))
        rw [hE] at hJ hob
        (repeat(first|refine zW ?_|refine zG7 ?_|refine zD7 ?_|refine zT7 ?_))
        refine ⟨⟨(m % odP a,odP a,_,f),⟨hJ,by simp only;omega,by simp only;omega,by simp only;omega,by simp only;omega⟩⟩,?_,hlt⟩
        (refine Sub.plain ?_;simp only [smF,dg,renL,renLs,simprocAttr,bl,i64,hod,hof])
      ·
       have hE := (jsg_f1 (a := a) (o := o) (m := m) c3).trans (jsg1_t c1 (.inr c2'))
       rw [hE] at hJ hob
       (repeat(first|refine zW ?_|refine zG7 ?_|refine zD7 ?_|refine zT7 ?_))
       refine ⟨⟨(m % odP a,odP a,_,f),⟨hJ,by simp only;omega,by simp only;omega,by simp only;omega,by simp only;omega⟩⟩,?_,hlt⟩
       (refine Sub.plain ?_;simp only [smF,dg,renL,renLs,simprocAttr,bl,i64,hod,hof])
     ·by_cases c3 : odP a % 4 = 3
      ·by_cases c4 : m % 4 = 3
       ·
        have hE := (jsg_t (a := a) (o := o) c3 c4).trans (congrArg (fun z : Int => 0 - z) (jsg1_f2 c2 c2'))
        rw [hE] at hJ hob
        (repeat(first|refine zW ?_|refine zG7 ?_|refine zD7 ?_|refine zT7 ?_))
        refine ⟨⟨(m % odP a,odP a,_,f),⟨hJ,by simp only;omega,by simp only;omega,by simp only;omega,by simp only;omega⟩⟩,?_,hlt⟩
        (refine Sub.plain ?_;simp only [smF,dg,renL,renLs,simprocAttr,bl,i64,hod,hof])
       ·
        have hE := (jsg_f2 (a := a) (o := o) c4).trans (jsg1_f2 c2 c2')
        rw [hE] at hJ hob
        (repeat(first|refine zW ?_|refine zG7 ?_|refine zD7 ?_|refine zT7 ?_))
        refine ⟨⟨(m % odP a,odP a,_,f),⟨hJ,by simp only;omega,by simp only;omega,by simp only;omega,by simp only;omega⟩⟩,?_,hlt⟩
        (refine Sub.plain ?_;simp only [smF,dg,renL,renLs,simprocAttr,bl,i64,hod,hof])
      ·
       have hE := (jsg_f1 (a := a) (o := o) (m := m) c3).trans (jsg1_f2 c2 c2')
       rw [hE] at hJ hob
       (repeat(first|refine zW ?_|refine zG7 ?_|refine zD7 ?_|refine zT7 ?_))
       refine ⟨⟨(m % odP a,odP a,_,f),⟨hJ,by simp only;omega,by simp only;omega,by simp only;omega,by simp only;omega⟩⟩,?_,hlt⟩
       (refine Sub.plain ?_;simp only [smF,dg,renL,renLs,simprocAttr,bl,i64,hod,hof])
   ·by_cases c3 : odP a % 4 = 3
    ·by_cases c4 : m % 4 = 3
     ·
      have hE := (jsg_t (a := a) (o := o) c3 c4).trans (congrArg (fun z : Int => 0 - z) (jsg1_f1 c1))
      rw [hE] at hJ hob
      (repeat(first|refine zW ?_|refine zG7 ?_|refine zD7 ?_|refine zT7 ?_))
      refine ⟨⟨(m % odP a,odP a,_,f),⟨hJ,by simp only;omega,by simp only;omega,by simp only;omega,by simp only;omega⟩⟩,?_,hlt⟩
      (refine Sub.plain ?_;simp only [smF,dg,renL,renLs,simprocAttr,bl,i64,hod,hof])
     ·
      have hE := (jsg_f2 (a := a) (o := o) c4).trans (jsg1_f1 c1)
      rw [hE] at hJ hob
      (repeat(first|refine zW ?_|refine zG7 ?_|refine zD7 ?_|refine zT7 ?_))
      refine ⟨⟨(m % odP a,odP a,_,f),⟨hJ,by simp only;omega,by simp only;omega,by simp only;omega,by simp only;omega⟩⟩,?_,hlt⟩
      (refine Sub.plain ?_;simp only [smF,dg,renL,renLs,simprocAttr,bl,i64,hod,hof])
    ·
     have hE := (jsg_f1 (a := a) (o := o) (m := m) c3).trans (jsg1_f1 c1)
     rw [hE] at hJ hob
     (repeat(first|refine zW ?_|refine zG7 ?_|refine zD7 ?_|refine zT7 ?_))
     refine ⟨⟨(m % odP a,odP a,_,f),⟨hJ,by simp only;omega,by simp only;omega,by simp only;omega,by simp only;omega⟩⟩,?_,hlt⟩
     (refine Sub.plain ?_;simp only [smF,dg,renL,renLs,simprocAttr,bl,i64,hod,hof])
theorem krP_0 {d : Int} {n : Nat} (h : tz n = 0) : krP d n = jac 1001 (dm d n) n 1 := by
 rw [krP,beq_yes h];rfl
theorem krP_even {d : Int} {n : Nat} (h : ¬ tz n = 0) (h2 : dm d 2 = 0) : krP d n = 0 := by
 rw [krP,beq_no h,beq_yes h2];rfl
theorem krP_neg {d : Int} {n : Nat} (h : ¬ tz n = 0) (h2 : ¬ dm d 2 = 0) (h3 : tz n % 2 = 1) (h4 : dm d 8 = 3 ∨ dm d 8 = 5) : krP d n = -1 * jac 1001 (dm d (odP n)) (odP n) 1 := by
 have e2 : (Nat.beq (dm d 8) 3 || Nat.beq (dm d 8) 5) = true := by
  rcases h4 with h | h
  ·rw [beq_yes h];rfl
  ·rw [beq_yes h,Bool.or_true]
 rw [krP,beq_no h,beq_no h2,show Nat.beq (Nat.mod (tz n) 2) 1 = true from beq_yes h3,e2];rfl
theorem krP_pos1 {d : Int} {n : Nat} (h : ¬ tz n = 0) (h2 : ¬ dm d 2 = 0) (h3 : ¬ tz n % 2 = 1) : krP d n = 1 * jac 1001 (dm d (odP n)) (odP n) 1 := by
 rw [krP,beq_no h,beq_no h2,show Nat.beq (Nat.mod (tz n) 2) 1 = false from beq_no h3];rfl
theorem krP_pos2 {d : Int} {n : Nat} (h : ¬ tz n = 0) (h2 : ¬ dm d 2 = 0) (h3 : ¬ dm d 8 = 3) (h4 : ¬ dm d 8 = 5) : krP d n = 1 * jac 1001 (dm d (odP n)) (odP n) 1 := by
 rw [krP,beq_no h,beq_no h2,beq_no h3,beq_no h4,Bool.or_false,Bool.and_false];rfl
theorem kronP_good (d : Int) (n : Nat) (hd : -1000 ≤ d ∧ d ≤ 1000) (h1 : 1 ≤ n) (h2 : n ≤ 1000) : PureGood Tryz.prog 42 [i64 d,i64 n] (i64 (krP d n)) := by
 obtain ⟨t1,t2,t3⟩ := tz_le h1 h2
 have hod := od_fdiv n
 have hof := (Int.fdiv_eq_ediv_of_nonneg (n : Int) (b := 2 ^ tz n) (Int.pow_nonneg (by omega))).trans hod
 have rz := tz_good h1 h2
 by_cases c0 : tz n = 0
 ·rw [krP_0 c0]
  have hl := dm_lt d h1
  have r1 := reduced_good d n (by omega) (by omega)
  have r2 := jacobi_good (dm d n) n (by omega) (by omega)
  have jb := jac_bd (f := 1001) (a := dm d n) (m := n) (o := 1) (by omega)
  have e1 : ∀ z : Int,1 * z = z := Int.one_mul
  generalize jac 1001 (dm d n) n 1 = J at *
  generalize dm d n = x at *
  simp only [i64] at *
  refine good_of_lwp mix Tryz.func42 rfl (by decide) (nt := 57) rfl (rs := [.tmp 4]) rfl (nle rfl) ?_
  (repeat (first|refine zW ?_|((first|apply l_go rfl|apply c_dec|apply zT rfl (by decide) rfl);(case hs=>(simp (disch := first|omega|exact kD rfl|exact kX rfl) only [smY,simprocAttr,bl,i64,e1];exact rfl));first|refine c_bt ?_|refine c_bf ?_|refine zq ?_|(case hg=>assumption))))
  ((first|apply g_ret|apply g_end);case hres => (simp only [smR];simp (disch := first|omega|exact kD rfl|exact kX rfl) only [smY,simprocAttr,bl,i64,e1];exact rfl))
  simp (disch := first|omega|exact kD rfl|exact kX rfl) only [smY,simprocAttr,bl,i64,e1]
 ·have hm2 := tmod_iff d 2
  have he := dm_eq d (m := 2) (by omega)
  by_cases c1 : dm d 2 = 0
  ·rw [krP_even c0 c1]
   have h3 := hm2.2 (by omega)
   simp only [i64] at *
   refine good_of_lwp mix Tryz.func42 rfl (by decide) (nt := 57) rfl (rs := [.tmp 4]) rfl (nle rfl) ?_
   (repeat (first|refine zW ?_|((first|apply l_go rfl|apply c_dec|apply zT rfl (by decide) rfl);(case hs=>(simp (disch := first|omega|exact kD rfl|exact kX rfl) only [smY,simprocAttr,bl,i64,h3];exact rfl));first|refine c_bt ?_|refine c_bf ?_|refine zq ?_|(case hg=>assumption))))
   ((first|apply g_ret|apply g_end);case hres => (simp only [smR];simp (disch := first|omega|exact kD rfl|exact kX rfl) only [smY,simprocAttr,bl,i64,h3];exact rfl))
   simp (disch := first|omega|exact kD rfl|exact kX rfl) only [smY,simprocAttr,bl,i64,h3]
  ·have h3 : ¬ d.tmod 2 = 0 := fun e => c1 (by have := hm2.1 e;omega)
   have hb := tmod_bd d (b := 2) (by omega)
   have hl := dm_lt d t2
   have r0 := residue_good d 8 (by omega) (by omega)
   have r1 := reduced_good d (odP n) (by omega) (by omega)
   have r2 := jacobi_good (dm d (odP n)) (odP n) (by omega) (by omega)
   have jb := jac_bd (f := 1001) (a := dm d (odP n)) (m := odP n) (o := 1) (by omega)
   by_cases c2 : tz n % 2 = 1
   ·by_cases c3 : dm d 8 = 3
    ·rw [krP_neg c0 c1 c2 (.inl c3)]
     generalize jac 1001 (dm d (odP n)) (odP n) 1 = J at *
     generalize dm d (odP n) = x at *
     generalize dm d 8 = y at *
     simp only [i64] at *
     refine good_of_lwp mix Tryz.func42 rfl (by decide) (nt := 57) rfl (rs := [.tmp 4]) rfl (nle rfl) ?_
     (repeat(first|refine zW ?_|refine zG7 ?_|refine zD7 ?_|refine zT7 ?_))
     exact zQ7
    ·by_cases c4 : dm d 8 = 5
     ·rw [krP_neg c0 c1 c2 (.inr c4)]
      generalize jac 1001 (dm d (odP n)) (odP n) 1 = J at *
      generalize dm d (odP n) = x at *
      generalize dm d 8 = y at *
      simp only [i64] at *
      refine good_of_lwp mix Tryz.func42 rfl (by decide) (nt := 57) rfl (rs := [.tmp 4]) rfl (nle rfl) ?_
      (repeat(first|refine zW ?_|refine zG7 ?_|refine zD7 ?_|refine zT7 ?_))
      exact zQ7
     ·rw [krP_pos2 c0 c1 c3 c4]
      generalize jac 1001 (dm d (odP n)) (odP n) 1 = J at *
      generalize dm d (odP n) = x at *
      generalize dm d 8 = y at *
      simp only [i64] at *
      refine good_of_lwp mix Tryz.func42 rfl (by decide) (nt := 57) rfl (rs := [.tmp 4]) rfl (nle rfl) ?_
      (repeat(first|refine zW ?_|refine zG7 ?_|refine zD7 ?_|refine zT7 ?_))
      exact zQ7
   ·rw [krP_pos1 c0 c1 c2]
    generalize jac 1001 (dm d (odP n)) (odP n) 1 = J at *
    generalize dm d (odP n) = x at *
    generalize dm d 8 = y at *
    simp only [i64] at *
    refine good_of_lwp mix Tryz.func42 rfl (by decide) (nt := 57) rfl (rs := [.tmp 4]) rfl (nle rfl) ?_
    (repeat(first|refine zW ?_|refine zG7 ?_|refine zD7 ?_|refine zT7 ?_))
    exact zQ7
end Go.Proofs.YtaidcaemdkncgaaGreatDoor
namespace Go.Num
theorem kr_val {d : Int} (hd : d ∈ fdL) {n : Nat} (h1 : 1 ≤ n) (h2 : n ≤ 1000) : krP d n = kr d n ∧ (kr d n = 1 ∨ kr d n = 0 ∨ kr d n = -1) := by
 have h := all1_ok (kk_all d hd) h1 h2
 rw [chkK,Bool.and_eq_true] at h
 exact ⟨eqS_ok h.1,okS_ok h.2⟩
theorem fd_rng {d : Int} (hd : d ∈ fdL) : d ≠ 0 ∧ -60 ≤ d ∧ d ≤ 60 := by
 have key : (fdL.all fun d => decide (d ≠ 0 ∧ -60 ≤ d ∧ d ≤ 60)) = true := by decide +kernel
 exact of_decide_eq_true (List.all_eq_true.1 key d hd)
def gB (k : Nat) (d : Int) : Rat := qsum (fun j => kr d (j + 1)) k d.natAbs d.natAbs
def ordF (a : Nat → Rat) : Nat → Nat → Nat
 | 0,i => i
 | f + 1,i => if a i = 0 then ordF a f (i + 1) else i
def ordN (a : Nat → Rat) (N : Nat) : Nat := ordF a N 0
end Go.Num
namespace Go.Proofs.YtaidcaemdkncgaaGreatDoor
open Go Go.Lg Go.Num
theorem kronA_good (d : Int) (hd : d ∈ fdL) (n : Nat) (h1 : 1 ≤ n) (h2 : n ≤ 1000) : PureGood Tryz.prog 42 [i64 d,i64 n] (i64 (kr d n)) := by
 have h := kronP_good d n (by have := (fd_rng hd).2;omega) h1 h2
 rw [(kr_val hd h1 h2).1] at h
 exact h
attribute [local irreducible] Go.Lg.lrun Go.Lg.lwp Go.Lg.exThen Go.Lg.exBlk Go.Lg.keep Go.Lg.goodPost sg mg bq bpL horQ trm qsum kr bsum ch
theorem quadB_of {d : Int} (hd : d ∈ fdL) (hq : ∃ m n cs,PureGood Tryz.prog 11 [i64 d] (.tup [.agg [.lit (.int .i64 m),.sl n cs],i64 0])) (k : Nat) (hk1 : 1 ≤ k) (hk : k ≤ 40) : PureGood Tryz.prog 20 [i64 k,i64 d] (.tup [encQ (gB k d),i64 0]) := by
 obtain ⟨hd0,hdr⟩ := fd_rng hd
 obtain ⟨qm,qn,qcs,h1⟩ := hq
 have h2 := summands_good k d.natAbs hk1 hk (by omega) (by omega)
 have h3 := qof_good 0 (by omega)
 rw [show ((0 : Int) : Rat) = 0 from rfl] at h3
 have hmx : (if 0 - d > d then 0 - d else d) = (d.natAbs : Int) := by split <;> omega
 have hz := qsum_zero (fun j => kr d (j + 1)) k d.natAbs
 have step : ∀ j, j < d.natAbs → PureGood Tryz.prog 42 [i64 d, i64 ((j + 1 : Nat) : Int)] (i64 (kr d (j + 1))) ∧ PureGood Tryz.prog 73 [i64 (kr d (j + 1))] (encQ (kr d (j + 1))) ∧
   PureGood Tryz.prog 74 [encQ (kr d (j + 1)),encQ (trm k d.natAbs j)] (encQ ((kr d (j + 1) : Rat) * trm k d.natAbs j)) ∧
   PureGood Tryz.prog 59 [encQ (qsum (fun j => kr d (j + 1)) k d.natAbs j),encQ ((kr d (j + 1) : Rat) * trm k d.natAbs j)] (encQ (qsum (fun j => kr d (j + 1)) k d.natAbs (j + 1))) ∧ (kr d (j + 1) = 1 ∨ kr d (j + 1) = 0 ∨ kr d (j + 1) = -1) := by
  intro j hj
  have a1 := kronA_good d hd (j + 1) (by omega) (by omega)
  have a3 := (kr_val hd (n := j + 1) (by omega) (by omega)).2
  have lt := lq_trm (k := k) (f := d.natAbs) (j := j) hk (by omega) (by omega) hj
  have ls := lq_qsum (c := fun j => kr d (j + 1)) (k := k) (f := d.natAbs) (fun j hj => (kr_val hd (n := j + 1) (by omega) (by omega)).2) hk (by omega) (by omega) (n := j) (by omega)
  have lk : lq (kr d (j + 1) : Rat) ≤ 2 := by
   rw [lq_int]
   have := len_pow_lt (a := kr d (j + 1)) (e := 1) (by omega)
   omega
  have lm := lq_mul (kr d (j + 1) : Rat) (trm k d.natAbs j)
  refine ⟨a1,qof_good _ (by omega),qmul_good _ _ (by omega) (by omega),?_,a3⟩
  rw [qsum_succ]
  exact qadd_good _ _ (by omega) (by omega)
 unfold gB
 generalize hf : d.natAbs = f at *
 generalize hC : (fun j => kr d (j + 1)) = C at *
 rw [encF_qc,smd_length] at h2
 have hls := smd_length k f f
 simp only [encQ_sm,i64] at h1 h2 h3 step ⊢
 refine good_of_lwp mix Tryz.func20 rfl (by decide) (nt := 51) rfl (rs := [.cell 4 47,.tmp 5]) rfl (nle rfl) ?_
 (repeat (first|refine zW ?_|((first|apply l_go rfl|apply c_dec|apply zT rfl (by decide) rfl);(case hs=>(simp (disch := first|omega|exact kD rfl|exact kX rfl) only [smY,simprocAttr,bl,i64,smT,hmx];exact rfl));first|refine c_bt ?_|refine c_bf ?_|refine zq ?_|(case hg=>assumption))))
 refine w_loop (α := {j : Nat // j ≤ f}) (fun j => st 51 (lk [(0,i64 k),(1,i64 d),(4,.ptr 0 0),(8,.ptr 1 0),(33,.sl f (qc (smd k f f))),(34,i64 f),(35,i64 j.1)]) (lkH [(0,⟨47,[bl false,.lit (.slice none 0 0),bl false,.lit (.slice none 0 0)],false⟩),(1,⟨47,[sg (qsum C k f j.1).num,mg (qsum C k f j.1).num,sg ((qsum C k f j.1).den : Int),mg ((qsum C k f j.1).den : Int)],false⟩)]) 2) (fun j => f - j.1) ⟨0,by omega⟩ ?_ ?_
 ·(refine Sub.heapL [0,19] rfl (by decide) ?_ (by simp only [smL];decide) ?_ ?_;all_goals (first|(simp only [plainC,smF,dg,renL,renLs,simprocAttr,bl,i64,smT];done) | (simp only [smF,dg,renL,renLs,simprocAttr,bl,i64,smT];(repeat' apply And.intro);all_goals rfl) | (simp only [smF,dg,renL,renLs,simprocAttr,bl,i64,smT]) | skip))
  all_goals (first | done | (rw [hz];exact ⟨trivial,rfl⟩))
 ·rintro ⟨j,hj⟩
  simp only [st]
  by_cases hlt : j < f
  ·obtain ⟨w1,w2,w3,w4,hz⟩ := step j hlt
   have e1 : (smd k f f).getD j 0 = trm k f j := smd_getD hlt
   have hj1 : ((j + 1 : Nat) : Int) = (j : Int) + 1 := by omega
   rw [hj1] at w1
   generalize trm k f j = T at *
   generalize ((kr d (j + 1) : Int) : Rat) * T = M at *
   generalize ((kr d (j + 1) : Int) : Rat) = K at *
   generalize kr d (j + 1) = z at *
   (repeat (first|refine zW ?_|((first|apply l_go rfl|apply c_dec|apply zT rfl (by decide) rfl);(case hs=>(simp (disch := first|omega|exact kD rfl|exact kX rfl) only [smY,simprocAttr,bl,i64,smT,e1];exact rfl));first|refine c_bt ?_|refine c_bf ?_|refine zq ?_|(case hg=>assumption))))
   refine ⟨⟨j + 1,by omega⟩,?_,by simp only;omega⟩
   (refine Sub.heapL [0,1] rfl (by decide) ?_ (by simp only [smL];decide) ?_ ?_;all_goals (first|(simp only [plainC,smF,dg,renL,renLs,simprocAttr,bl,i64,smT];done) | (simp only [smF,dg,renL,renLs,simprocAttr,bl,i64,smT];(repeat' apply And.intro);all_goals rfl) | (simp only [smF,dg,renL,renLs,simprocAttr,bl,i64,smT]) | skip))
  ·obtain rfl : j = f := by omega
   (repeat(first|refine zW ?_|refine zG1 ?_|refine zD1 ?_|refine zT1 ?_))
   exact zQ1
end Go.Proofs.YtaidcaemdkncgaaGreatDoor