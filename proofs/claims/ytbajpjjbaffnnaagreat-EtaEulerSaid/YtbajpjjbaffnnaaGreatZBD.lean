/- Contracts of functions of the program, and what proves them (texts: E3). -/
import Derived.Test.YtbajpjjbaffnnaaGreatZBC
set_option linter.all false
namespace Go.Proofs.YtbajpjjbaffnnaaGreat
open Go Go.Lg Go.Num
set_option maxRecDepth 100000
set_option maxHeartbeats 4000000
attribute [local irreducible] Go.Lg.lrun Go.Lg.lwp Go.Lg.exThen Go.Lg.exBlk Go.Lg.keep Go.Lg.goodPost ec
theorem bmod_good (a m : Int) (ha : -9223372036854775808 ≤ a ∧ a ≤ 9223372036854775807) (hm : 0 < m ∧ m ≤ 4611686018427387904) : PureGood Tryz.prog 19 [i64 a, i64 m] (i64 (a % m)) := by
  have h1 := emod_of_tmod a hm.1
  have h2 := tmod_bd a hm.1
  by_cases h : a.tmod m < 0
  · rw [if_pos h] at h1
    rw [h1]
    clear h1
    refine good_of_lwp mix Tryz.func19 rfl (by decide) (nt := 15) rfl (rs := [.tmp 4]) rfl (Nat.le_of_ble_eq_true rfl) ?_
    (repeat (first|apply zO (by decide +kernel)|apply zP (by decide +kernel)|apply zA|apply zB|apply zF|apply zG|apply zH|apply zI|apply zJ|apply zK|apply zL (by decide)|apply zM|apply zN (by decide)|apply zD|apply zC|apply zE|((first|apply l_go rfl|apply c_dec); (case hs => (simp (disch := first|omega|exact kD rfl|exact kX rfl) only [smZ, tyA, simprocAttr, bl, i64, smE]; exact rfl)); first|refine c_bt ?_|refine c_bf ?_|show lrun _ _ _ _ _ _ _ _ _)|(apply l_call rfl (by decide) rfl; (case hc => (simp (disch := first|omega|exact kD rfl|exact kX rfl) only [smZ, tyA, simprocAttr, bl, i64, smE]; exact rfl)); (case hg => assumption))))
    ((first | apply g_ret | apply g_end); case hres => (simp only [resL, rOs, rO, Option.map_some]; simp (disch := first|omega|exact kD rfl|exact kX rfl) only [smZ, tyA, simprocAttr, bl, i64, smE]; exact rfl))
    simp (disch := first|omega|exact kD rfl|exact kX rfl) only [smZ, tyA, simprocAttr, bl, i64, smE]
  · rw [if_neg h] at h1
    rw [h1]
    clear h1
    refine good_of_lwp mix Tryz.func19 rfl (by decide) (nt := 15) rfl (rs := [.tmp 4]) rfl (Nat.le_of_ble_eq_true rfl) ?_
    (repeat (first|apply zO (by decide +kernel)|apply zP (by decide +kernel)|apply zA|apply zB|apply zF|apply zG|apply zH|apply zI|apply zJ|apply zK|apply zL (by decide)|apply zM|apply zN (by decide)|apply zD|apply zC|apply zE|((first|apply l_go rfl|apply c_dec); (case hs => (simp (disch := first|omega|exact kD rfl|exact kX rfl) only [smZ, tyA, simprocAttr, bl, i64, smE]; exact rfl)); first|refine c_bt ?_|refine c_bf ?_|show lrun _ _ _ _ _ _ _ _ _)|(apply l_call rfl (by decide) rfl; (case hc => (simp (disch := first|omega|exact kD rfl|exact kX rfl) only [smZ, tyA, simprocAttr, bl, i64, smE]; exact rfl)); (case hg => assumption))))
    ((first | apply g_ret | apply g_end); case hres => (simp only [resL, rOs, rO, Option.map_some]; simp (disch := first|omega|exact kD rfl|exact kX rfl) only [smZ, tyA, simprocAttr, bl, i64, smE]; exact rfl))
    simp (disch := first|omega|exact kD rfl|exact kX rfl) only [smZ, tyA, simprocAttr, bl, i64, smE]
theorem psum_z (f : Nat → Int) : psum f 0 = 0 := rfl
theorem psum_s (f : Nat → Int) (k : Nat) : psum f (k + 1) = psum f k + f k := rfl
end Go.Proofs.YtbajpjjbaffnnaaGreat
