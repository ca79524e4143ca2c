/- A head of which bits were taken, or whose death was begun, is none but as a whole; a dead one that is erased from the front is none, as long as not all of it is. No conditions. -/
import Derived.Test.YtconcmobjkpkcaaDoorG8
import Derived.Test.YtconcmobjkpkcaaDoorHeadFixed
import Derived.Test.YtconcmobjkpkcaaDoorHeadLaws
import Derived.Test.YtconcmobjkpkcaaDoorRowAt
namespace Go.Proofs.YtconcmobjkpkcaaDoor.Pure
open Go Go.RowKit Go.Proofs.YtconcmobjkpkcaaDoor.G Go.Proofs.YtconcmobjkpkcaaDoorW.PrintWords Go.Proofs.YtconcmobjkpkcaaDoorW.PrintLast Go.Proofs.YtconcmobjkpkcaaDoorW.PrintMore SumMath
theorem and_oct (a b : Int) : 0 ≤ Go.bits .and .u8 a b ∧ Go.bits .and .u8 a b ≤ 255 := by
  show 0 ≤ IntKind.u8.wrap _ ∧ IntKind.u8.wrap _ ≤ 255
  rw [IntKind.wrap_u8']; omega
theorem andNot_oct (a b : Int) : 0 ≤ Go.bits .andNot .u8 a b ∧ Go.bits .andNot .u8 a b ≤ 255 := by
  show 0 ≤ IntKind.u8.wrap _ ∧ IntKind.u8.wrap _ ≤ 255
  rw [IntKind.wrap_u8']; omega
theorem or_zero (m : Int) (h : 0 ≤ m ∧ m ≤ 255) : Go.bits .or .u8 0 m = m := by
  rw [u8_or 0 m (by omega) (by omega) (by omega) (by omega)]
  simp; omega
theorem octs_rep (n : Nat) {v : Int} (h : 0 ≤ v ∧ v ≤ 255) : octs (List.replicate n v) := fun x hx => by
  rw [List.mem_replicate] at hx; omega
theorem cpyr_octs {n : Nat} {l : List Int} (h : octs l) : octs (Kit.cpy (List.replicate n 255) l) := by
  unfold Kit.cpy
  exact octs_append (octs_take h _) (octs_drop (octs_rep n (by omega)) _)
theorem cpy_octs2 {r l : List Int} (hr : octs r) (h : octs l) : octs (Kit.cpy r l) := by
  unfold Kit.cpy
  exact octs_append (octs_take h _) (octs_drop hr _)
theorem setL_octs {n : Nat} {v : Int} (hv : 0 ≤ v ∧ v ≤ 255) (r : List Int) (hr : octs r) : octs (Kit.setL r 0 (List.replicate n v)) := by
  induction n with
  | zero => exact hr
  | succ n ih => rw [RowAt.setL_succ]; exact octs_set ih n hv
/-- Live, just where the first eight bytes are the head. -/
theorem live_is {g0 g1 : Int} (h : Head.mayB g0 g1 = true) {A : List Int} (hl : (A.length : Int) = g1) (ho : octs A) :
    ((Head.classS g0 g1 A == 1) != ((strOfNums (A.take 8)).toList == (strOfNums (Head.head g0 g1)).toList)) = false := by
  rw [Head.class_in h hl]
  by_cases c : A.take 8 = Head.head g0 g1
  · rw [if_pos c, c]; simp
  · have c2 : ¬ (strOfNums (A.take 8)).toList = (strOfNums (Head.head g0 g1)).toList := fun e => c (Head.str_inj (octs_take ho 8) (Head.head_octs g0 g1) e)
    rw [if_neg c, beq_eq_false_iff_ne.mpr c2]
    split <;> simp
theorem rc_is (z : Nat) (hz : 8 ≤ z) : Kit.cpy (List.replicate z 255) (List.replicate 8 0) = 0 :: 0 :: 0 :: 0 :: 0 :: 0 :: 0 :: 0 :: List.replicate (z - 8) (255 : Int) := by
  unfold Kit.cpy
  rw [List.length_replicate, List.take_of_length_le (by simp; omega), List.drop_replicate, List.length_replicate]
  rfl
theorem head_not (g0 g1 : Int) (a b : Int) (t : List Int) (h : a ≠ 84 ∨ b ≠ 120) : ¬ (a :: b :: t = Head.head g0 g1) := by
  intro e
  have e' : a :: b :: t = 84 :: 120 :: ([78, 82] ++ RecLoops.dig 4 (more 1 (Head.body g0 g1))) := e
  simp only [List.cons.injEq] at e'
  omega
theorem dead_is {g0 : Int} {z : Nat} (h : Head.mayB g0 z = true) (hz : 512 ≤ z) (n : Nat) (hn : n < 8) (m : Int) (hm : 0 ≤ m ∧ m ≤ 255) :
    (if n = 7 then ((Head.classS g0 z (hlC (Kit.cpy (List.replicate z 255) (List.replicate 8 0)) n m) == 2) == !(m == 255)) = true else Head.classS g0 z (hlC (Kit.cpy (List.replicate z 255) (List.replicate 8 0)) n m) = 2) := by
  have hlen : (hlC (Kit.cpy (List.replicate z 255) (List.replicate 8 0)) n m).length = z := by
    unfold hlC
    rw [List.length_set, Kit.setL_length, Kit.cpy_length, List.length_replicate]
  rw [Head.class_in h (by rw [hlen]), rc_is z (by omega)]
  have hR : ∀ x ∈ List.replicate (z - 8) (255 : Int), x = 255 := fun x hx => (List.mem_replicate.1 hx).2
  generalize List.replicate (z - 8) (255 : Int) = R at hR ⊢
  have ho := or_zero m hm
  have hall : ∀ l : List Int, ¬ (∀ x ∈ l, x = 255) → ¬ (l.all fun c => c == 255) = true := fun l hl e => hl (by simpa using e)
  by_cases c0 : n = 0
  · subst c0
    have e : hlC (0 :: 0 :: 0 :: 0 :: 0 :: 0 :: 0 :: 0 :: R) 0 m = m :: 0 :: 0 :: 0 :: 0 :: 0 :: 0 :: 0 :: R := by
      unfold hlC
      rw [show (Kit.setL (0 :: 0 :: 0 :: 0 :: 0 :: 0 :: 0 :: 0 :: R) 0 (List.replicate 0 255)).getD 0 0 = 0 from rfl, ho]; rfl
    have ht : ¬ ((m :: 0 :: 0 :: 0 :: 0 :: 0 :: 0 :: 0 :: R).take 8 = Head.head g0 z) := head_not g0 z m 0 _ (.inr (by omega))
    rw [e]
    rw [if_neg (by omega), if_neg ht, if_neg (hall _ (fun hx => by have := hx 0 (by simp); omega))]
  by_cases c1 : n = 1
  · subst c1
    have e : hlC (0 :: 0 :: 0 :: 0 :: 0 :: 0 :: 0 :: 0 :: R) 1 m = 255 :: m :: 0 :: 0 :: 0 :: 0 :: 0 :: 0 :: R := by
      unfold hlC
      rw [show (Kit.setL (0 :: 0 :: 0 :: 0 :: 0 :: 0 :: 0 :: 0 :: R) 0 (List.replicate 1 255)).getD 1 0 = 0 from rfl, ho]; rfl
    have ht : ¬ ((255 :: m :: 0 :: 0 :: 0 :: 0 :: 0 :: 0 :: R).take 8 = Head.head g0 z) := head_not g0 z 255 m _ (.inl (by omega))
    rw [e]
    rw [if_neg (by omega), if_neg ht, if_neg (hall _ (fun hx => by have := hx 0 (by simp); omega))]
  by_cases c2 : n = 2
  · subst c2
    have e : hlC (0 :: 0 :: 0 :: 0 :: 0 :: 0 :: 0 :: 0 :: R) 2 m = 255 :: 255 :: m :: 0 :: 0 :: 0 :: 0 :: 0 :: R := by
      unfold hlC
      rw [show (Kit.setL (0 :: 0 :: 0 :: 0 :: 0 :: 0 :: 0 :: 0 :: R) 0 (List.replicate 2 255)).getD 2 0 = 0 from rfl, ho]; rfl
    have ht : ¬ ((255 :: 255 :: m :: 0 :: 0 :: 0 :: 0 :: 0 :: R).take 8 = Head.head g0 z) := head_not g0 z 255 255 _ (.inl (by omega))
    rw [e]
    rw [if_neg (by omega), if_neg ht, if_neg (hall _ (fun hx => by have := hx 0 (by simp); omega))]
  by_cases c3 : n = 3
  · subst c3
    have e : hlC (0 :: 0 :: 0 :: 0 :: 0 :: 0 :: 0 :: 0 :: R) 3 m = 255 :: 255 :: 255 :: m :: 0 :: 0 :: 0 :: 0 :: R := by
      unfold hlC
      rw [show (Kit.setL (0 :: 0 :: 0 :: 0 :: 0 :: 0 :: 0 :: 0 :: R) 0 (List.replicate 3 255)).getD 3 0 = 0 from rfl, ho]; rfl
    have ht : ¬ ((255 :: 255 :: 255 :: m :: 0 :: 0 :: 0 :: 0 :: R).take 8 = Head.head g0 z) := head_not g0 z 255 255 _ (.inl (by omega))
    rw [e]
    rw [if_neg (by omega), if_neg ht, if_neg (hall _ (fun hx => by have := hx 0 (by simp); omega))]
  by_cases c4 : n = 4
  · subst c4
    have e : hlC (0 :: 0 :: 0 :: 0 :: 0 :: 0 :: 0 :: 0 :: R) 4 m = 255 :: 255 :: 255 :: 255 :: m :: 0 :: 0 :: 0 :: R := by
      unfold hlC
      rw [show (Kit.setL (0 :: 0 :: 0 :: 0 :: 0 :: 0 :: 0 :: 0 :: R) 0 (List.replicate 4 255)).getD 4 0 = 0 from rfl, ho]; rfl
    have ht : ¬ ((255 :: 255 :: 255 :: 255 :: m :: 0 :: 0 :: 0 :: R).take 8 = Head.head g0 z) := head_not g0 z 255 255 _ (.inl (by omega))
    rw [e]
    rw [if_neg (by omega), if_neg ht, if_neg (hall _ (fun hx => by have := hx 0 (by simp); omega))]
  by_cases c5 : n = 5
  · subst c5
    have e : hlC (0 :: 0 :: 0 :: 0 :: 0 :: 0 :: 0 :: 0 :: R) 5 m = 255 :: 255 :: 255 :: 255 :: 255 :: m :: 0 :: 0 :: R := by
      unfold hlC
      rw [show (Kit.setL (0 :: 0 :: 0 :: 0 :: 0 :: 0 :: 0 :: 0 :: R) 0 (List.replicate 5 255)).getD 5 0 = 0 from rfl, ho]; rfl
    have ht : ¬ ((255 :: 255 :: 255 :: 255 :: 255 :: m :: 0 :: 0 :: R).take 8 = Head.head g0 z) := head_not g0 z 255 255 _ (.inl (by omega))
    rw [e]
    rw [if_neg (by omega), if_neg ht, if_neg (hall _ (fun hx => by have := hx 0 (by simp); omega))]
  by_cases c6 : n = 6
  · subst c6
    have e : hlC (0 :: 0 :: 0 :: 0 :: 0 :: 0 :: 0 :: 0 :: R) 6 m = 255 :: 255 :: 255 :: 255 :: 255 :: 255 :: m :: 0 :: R := by
      unfold hlC
      rw [show (Kit.setL (0 :: 0 :: 0 :: 0 :: 0 :: 0 :: 0 :: 0 :: R) 0 (List.replicate 6 255)).getD 6 0 = 0 from rfl, ho]; rfl
    have ht : ¬ ((255 :: 255 :: 255 :: 255 :: 255 :: 255 :: m :: 0 :: R).take 8 = Head.head g0 z) := head_not g0 z 255 255 _ (.inl (by omega))
    rw [e]
    rw [if_neg (by omega), if_neg ht, if_neg (hall _ (fun hx => by have := hx 0 (by simp); omega))]
  by_cases c7 : n = 7
  · subst c7
    have e : hlC (0 :: 0 :: 0 :: 0 :: 0 :: 0 :: 0 :: 0 :: R) 7 m = 255 :: 255 :: 255 :: 255 :: 255 :: 255 :: 255 :: m :: R := by
      unfold hlC
      rw [show (Kit.setL (0 :: 0 :: 0 :: 0 :: 0 :: 0 :: 0 :: 0 :: R) 0 (List.replicate 7 255)).getD 7 0 = 0 from rfl, ho]; rfl
    have ht : ¬ ((255 :: 255 :: 255 :: 255 :: 255 :: 255 :: 255 :: m :: R).take 8 = Head.head g0 z) := head_not g0 z 255 255 _ (.inl (by omega))
    rw [e]
    rw [if_pos rfl, if_neg ht]
    by_cases cm : m = 255
    · subst cm
      have ha : ((255 :: 255 :: 255 :: 255 :: 255 :: 255 :: 255 :: 255 :: R).all fun c => c == 255) = true := by
        rw [List.all_eq_true]
        intro x hx
        simp only [List.mem_cons] at hx
        have : x = 255 := by
          rcases hx with h | h | h | h | h | h | h | h | h
          all_goals first | exact h | exact hR x h
        simp [this]
      rw [if_pos ha]; rfl
    · rw [if_neg (hall _ (fun hx => cm (hx m (by simp)))), beq_eq_false_iff_ne.mpr cm]; rfl
  omega
theorem HeadLess : flintlaw05_HeadLess.Pure := by
  intro g0 g1 a1 a2 _ _ h1 h2
  have h1 := wf_u8.mp h1
  have h2 := wf_u8.mp h2
  refine ⟨10000, ?_⟩
  unfold flintlaw05_HeadLess.f
  rw [Head.refMay_is, Option.bind_some]
  cases h : Head.mayB g0 g1 with
  | false => rw [if_neg (by decide)]; exact Head.fixed_at _ (by omega)
  | true =>
    have hb := Head.may_bd h
    obtain ⟨z, rfl⟩ := Int.eq_ofNat_of_zero_le (show 0 ≤ g1 by omega)
    have hd : head_Death.f = some (List.replicate 8 0) := by unfold head_Death.f; rw [if_pos (by omega)]
    have hn : (a1 % 8).toNat < 8 := by omega
    rw [if_pos rfl, Head.of_is h _ (by omega), Option.bind_some, Head.sector_is g0 z (by omega) _ _ (by omega), Option.bind_some, Head.sector_is g0 z (by omega) _ _ (by omega), Option.bind_some, hd, Option.bind_some, Head.sector_is g0 z (by omega) _ _ (by omega), Option.bind_some,
      if_pos (by rw [Kit.cpy_length, Kit.cpy_length, Kit.cpy_length, List.length_replicate]; omega)]
    generalize (a1 % 8).toNat = n at hn
    have hoA : octs (hlA (Kit.cpy (List.replicate z 255) []) (Head.head g0 z) n a2) := octs_set (cpy_octs2 (cpyr_octs octs_nil) (octs_take (Head.head_octs g0 z) n)) n (and_oct _ _)
    have hoB : octs (hlB (Kit.cpy (List.replicate z 255) (Head.head g0 z)) n a2) := octs_set (setL_octs (by omega) _ (cpyr_octs (Head.head_octs g0 z))) n (andNot_oct _ _)
    have hlA_ : ((hlA (Kit.cpy (List.replicate z 255) []) (Head.head g0 z) n a2).length : Int) = z := by unfold hlA; rw [List.length_set, Kit.cpy_length, Kit.cpy_length, List.length_replicate]
    have hlB_ : ((hlB (Kit.cpy (List.replicate z 255) (Head.head g0 z)) n a2).length : Int) = z := by unfold hlB; rw [List.length_set, Kit.setL_length, Kit.cpy_length, List.length_replicate]
    unfold flintlaw05_HeadLess.tail
    rw [Head.class_is _ _ _ _ (by omega), Option.bind_some, Head.class_is _ _ _ _ (by omega), Option.bind_some, Head.class_is _ _ _ _ (by omega), Option.bind_some, Head.fixed_at _ (by omega), Option.bind_some, if_pos]
    exact ⟨rfl, live_is h hlA_ hoA, live_is h hlB_ hoB, dead_is h (by omega) n hn a2 h2⟩
end Go.Proofs.YtconcmobjkpkcaaDoor.Pure
