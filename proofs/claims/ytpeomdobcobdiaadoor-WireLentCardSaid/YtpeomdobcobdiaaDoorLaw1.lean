/- Plain laws of chapter 1: what is written is read. No program in sight; no condition. -/
import Derived.Test.YtpeomdobcobdiaaDoorCrc
namespace Go.Proofs.YtpeomdobcobdiaaDoor
set_option linter.unusedVariables false
set_option linter.unusedSimpArgs false
theorem frameB_len (body : List UInt8) : (frameB body).length = body.length + 12 := by simp [frameB, le4_len]; omega
theorem take_len {α : Type} (a b : List α) (n : Nat) (h : a.length = n) : (a ++ b).take n = a := by subst h; exact List.take_left
theorem drop_len {α : Type} (a b : List α) (n : Nat) (h : a.length = n) : (a ++ b).drop n = b := by subst h; exact List.drop_left
theorem readFrame_frame (pre body rest : List UInt8) (h : body.length ≤ 1048576) : readFrameV (pre ++ frameB body ++ rest) (pre.length : Nat) = (body, ((pre.length + (body.length + 12) : Nat) : Int), 0) := by
  unfold readFrameV
  have hl := frameB_len body
  rw [if_neg (by simp only [List.length_append]; omega)]
  have hm : (pre ++ frameB body ++ rest).drop ((pre.length : Int)).toNat = le4 body.length ++ (le4 (crcV (le4 body.length)) ++ (body ++ (le4 (crcV body) ++ rest))) := by
    rw [Int.toNat_natCast, List.append_assoc, drop_len _ _ _ rfl]
    simp [frameB]
  simp only [hm]
  generalize hM : le4 body.length ++ (le4 (crcV (le4 body.length)) ++ (body ++ (le4 (crcV body) ++ rest))) = M
  have hML : M.length = 4 + (4 + (body.length + (4 + rest.length))) := by rw [← hM]; simp [le4_len]
  have h1 : M.take 4 = le4 body.length := by rw [← hM]; exact take_len _ _ 4 (le4_len _)
  have h2 : M.drop 4 = le4 (crcV (le4 body.length)) ++ (body ++ (le4 (crcV body) ++ rest)) := by rw [← hM]; exact drop_len _ _ 4 (le4_len _)
  have h3 : (M.drop 4).take 4 = le4 (crcV (le4 body.length)) := by rw [h2]; exact take_len _ _ 4 (le4_len _)
  have h4 : M.drop 8 = body ++ (le4 (crcV body) ++ rest) := by
    have : M.drop 8 = (M.drop 4).drop 4 := by rw [List.drop_drop]
    rw [this, h2]; exact drop_len _ _ 4 (le4_len _)
  have h5 : (M.drop 8).take body.length = body := by rw [h4]; exact take_len _ _ _ rfl
  have h6 : (M.drop (8 + body.length)).take 4 = le4 (crcV body) := by
    have : M.drop (8 + body.length) = (M.drop 8).drop body.length := by rw [List.drop_drop]
    rw [this, h4, drop_len _ _ _ rfl]; exact take_len _ _ 4 (le4_len _)
  have hw : wordV (le4 body.length) = body.length := wordV_le4 _ (by omega)
  rw [if_neg (by omega), h3, h1, wordV_le4 _ (crcV_lt _), if_neg (by simp), hw, if_neg (by omega), if_neg (by omega), h6, h5, wordV_le4 _ (crcV_lt _), if_neg (by simp)]
  congr 2
  push_cast; omega
theorem readFrame_big (k : Nat) (h1 : 1 ≤ k) (h9 : k ≤ 9) (rest : List UInt8) : readFrameV (([UInt8.ofNat k, 0, 16, 0] : List UInt8) ++ le4 (crcV [UInt8.ofNat k, 0, 16, 0]) ++ rest) 0 = ([], 0, 13) := by
  unfold readFrameV
  rw [if_neg (by simp only [List.length_append]; omega)]
  generalize hA : ([UInt8.ofNat k, 0, 16, 0] : List UInt8) = A
  have hAl : A.length = 4 := by rw [← hA]; rfl
  have hAw : wordV A = 1048576 + k := by
    rw [← hA]; simp only [wordV, List.getD_cons_zero, List.getD_cons_succ, UInt8.toNat_ofNat']
    have : (0 : UInt8).toNat = 0 := rfl
    have : (16 : UInt8).toNat = 16 := rfl
    omega
  have e0 : (A ++ le4 (crcV A) ++ rest).drop ((0 : Int)).toNat = A ++ (le4 (crcV A) ++ rest) := by simp
  simp only [e0]
  rw [if_neg (by simp [hAl, le4_len]; omega), drop_len A _ 4 hAl, take_len _ _ 4 (le4_len _), take_len A _ 4 hAl, wordV_le4 _ (crcV_lt _), if_neg (by simp), hAw, if_pos (by omega)]
end Go.Proofs.YtpeomdobcobdiaaDoor
