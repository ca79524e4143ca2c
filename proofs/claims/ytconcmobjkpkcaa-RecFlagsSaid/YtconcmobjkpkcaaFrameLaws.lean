/- A whole frame, behind any flag and between any bytes, is read back. -/
import Derived.Test.YtconcmobjkpkcaaClassLoops
namespace Go.Proofs.Ytconcmobjkpkcaa.FrameLaws
open Go Go.RowKit Go.Proofs.Ytconcmobjkpkcaa.G Go.Proofs.YtconcmobjkpkcaaW.PrintWords Go.Proofs.YtconcmobjkpkcaaW.PrintLast SumMath SumLoops RecLoops ClassLoops
/-- A frame behind any flag. -/
def body (l : List Int) : List Int := dig 2 l.length ++ (dig 4 (sumOf l) ++ (l ++ [0]))
theorem frame_is (l : List Int) : frame l = 127 :: body l := rfl
theorem body_length (l : List Int) : (body l).length = l.length + 7 := by simp [body, dig_length]; omega
theorem body_octs {l : List Int} (hl : octs l) : octs (body l) := fun x hx => frame_octs hl x (by rw [frame_is]; exact List.mem_cons_of_mem _ hx)
theorem rd_pre (p l : List Int) (i : Nat) : rd (p ++ l) ((p.length + i : Nat) : Int) = rd l (i : Int) := by
  unfold rd
  rw [Int.toNat_natCast, Int.toNat_natCast, List.getD_eq_getElem?_getD, List.getD_eq_getElem?_getD, List.getElem?_append_right (by omega), Nat.add_sub_cancel_left]
theorem num_four (y : Int) (h0 : 0 ≤ y) (h1 : y < 4294967296) : num 0 (dig 4 y) = y := by
  simp only [dig, num]
  omega
theorem whole_is (p q l : List Int) (F : Int) (hlen : l.length ≤ 65535) (hF : st F ≠ 3) :
    classS (p ++ (F :: body l ++ q)) p.length = (st F, l, ((p.length + 8 + l.length : Nat) : Int)) := by
  have hr := sumOf_range l
  have h3 : p ++ (F :: body l ++ q) = (p ++ (F :: dig 2 l.length)) ++ dig 4 (sumOf l) ++ (l ++ [0] ++ q) := by simp [body]
  have h7 : p ++ (F :: body l ++ q) = (p ++ (F :: dig 2 l.length) ++ dig 4 (sumOf l)) ++ l ++ ([0] ++ q) := by simp [body]
  have e1 : (p ++ (F :: body l ++ q)).drop p.length = F :: body l ++ q := List.drop_left' rfl
  have e2 : rd (p ++ (F :: body l ++ q)) p.length = F := by
    simp [rd]
  have e3 : (p ++ (F :: body l ++ q)).length = p.length + 8 + l.length + q.length := by simp [body_length]; omega
  have e4 : two (p ++ (F :: body l ++ q)) p.length = l.length := by
    unfold two
    rw [rd_pre p _ 1, rd_pre p _ 2]
    have g1 : rd (F :: body l ++ q) ((1 : Nat) : Int) = (l.length : Int) / 256 % 256 := by simp [rd, body, dig]
    have g2 : rd (F :: body l ++ q) ((2 : Nat) : Int) = (l.length : Int) % 256 := by simp [rd, body, dig]
    rw [g1, g2]
    omega
  have e5 : four (p ++ (F :: body l ++ q)) p.length = sumOf l := by
    unfold four
    rw [h3, List.take_left' (by simp [dig_length]), List.drop_left' (by simp [dig_length]), num_four _ hr.1 hr.2]
  have e6 : ClassLoops.part (p ++ (F :: body l ++ q)) p.length l.length = l := by
    unfold ClassLoops.part
    rw [h7, List.take_left' (by simp [dig_length]; omega), List.drop_left' (by simp [dig_length])]
  have e7 : rd (p ++ (F :: body l ++ q)) ((p.length + 7 + l.length : Nat) : Int) = 0 := by
    rw [h7]
    have := rd_pre ((p ++ (F :: dig 2 l.length) ++ dig 4 (sumOf l)) ++ l) ([0] ++ q) 0
    rw [show ((p ++ (F :: dig 2 l.length) ++ dig 4 (sumOf l)) ++ l).length + 0 = p.length + 7 + l.length by simp [dig_length]; omega] at this
    rw [this]
    simp [rd]
  have hn : F ≠ 255 := by rintro rfl; exact hF (by decide)
  unfold classS
  rw [e1, e2, e3, e4, e5, e6, e7]
  rw [if_neg (by simp [hn]), if_neg (by intro h; rcases h with h | h; exact hF h; omega), if_neg (by intro h; rcases h with h | h; omega; exact h rfl), if_pos rfl]
end Go.Proofs.Ytconcmobjkpkcaa.FrameLaws
