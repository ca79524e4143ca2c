/- What head.Of, head.Class and the reference's come to, as plain laws. -/
import Derived.Test.YtconcmobjkpkcaaDoorG2
import Derived.Test.YtconcmobjkpkcaaDoorG2
import Derived.Test.YtconcmobjkpkcaaDoorG1
import Derived.Test.YtconcmobjkpkcaaDoorG5
import Derived.Test.YtconcmobjkpkcaaDoorG5
import Derived.Test.YtconcmobjkpkcaaDoorRecLoops
namespace Go.Proofs.YtconcmobjkpkcaaDoor.Head
open Go Go.RowKit Go.Proofs.YtconcmobjkpkcaaDoor.G Go.Proofs.YtconcmobjkpkcaaDoorW.PrintWords Go.Proofs.YtconcmobjkpkcaaDoorW.PrintLast Go.Proofs.YtconcmobjkpkcaaDoorW.PrintMore SumMath SumLoops RecLoops
theorem str_toList (xs : List Int) : (strOfNums xs).toList = xs.map fun n => UInt8.ofNat n.toNat := by rw [ByteArray.toList_eq]; rfl
theorem str_inj {xs ys : List Int} (hx : octs xs) (hy : octs ys) (h : (strOfNums xs).toList = (strOfNums ys).toList) : xs = ys := by
  rw [str_toList, str_toList] at h
  induction xs generalizing ys with
  | nil => cases ys with
    | nil => rfl
    | cons y t => simp at h
  | cons x t ih =>
    cases ys with
    | nil => simp at h
    | cons y u =>
      simp only [List.map_cons, List.cons.injEq] at h
      have h1 := (octs_cons hx).1
      have h2 := (octs_cons hy).1
      have e : x = y := by
        have := congrArg UInt8.toNat h.1
        simp only [UInt8.toNat_ofNat'] at this
        omega
      rw [e, ih (octs_cons hx).2 (octs_cons hy).2 h.2]
def mayB (g0 g1 : Int) : Bool := decide (g0 ≥ 6) && decide (g0 ≤ 64) && decide (g1 ≥ 512) && decide (g1 ≤ 4096)
theorem may_is (g0 g1 : Int) : place_May.f g0 g1 = some (mayB g0 g1) := by
  unfold place_May.f mayB
  by_cases a : g0 ≥ 6
  · by_cases b : g0 ≤ 64
    · by_cases c : g1 ≥ 512
      · simp [a, b, c]
      · simp [a, b, c]
    · simp [a, b]
  · simp [a]
theorem refMay_is (g0 g1 : Int) : flintref02_May.f g0 g1 = some (mayB g0 g1) := may_is g0 g1
theorem may_bd {g0 g1 : Int} (h : mayB g0 g1 = true) : 6 ≤ g0 ∧ g0 ≤ 64 ∧ 512 ≤ g1 ∧ g1 ≤ 4096 := by
  simp only [mayB, Bool.and_eq_true, decide_eq_true_eq] at h
  omega
def body (g0 g1 : Int) : List Int := [84, 120, 78, 82] ++ dig 2 g0 ++ dig 2 g1
/-- The head of a geometry. -/
def head (g0 g1 : Int) : List Int := [84, 120, 78, 82] ++ dig 4 (more 1 (body g0 g1))
theorem octs4 : octs [84, 120, 78, 82] := by intro x hx; simp at hx; omega
theorem body_octs (g0 g1 : Int) : octs (body g0 g1) := octs_append (octs_append octs4 (dig_octs _ _)) (dig_octs _ _)
theorem body_length (g0 g1 : Int) : (body g0 g1).length = 8 := by simp [body, dig_length]
theorem head_octs (g0 g1 : Int) : octs (head g0 g1) := octs_append octs4 (dig_octs _ _)
theorem head_length (g0 g1 : Int) : (head g0 g1).length = 8 := by simp [head, dig_length]
theorem cpy8 (l : List Int) (h : l.length = 8) : Kit.cpy (List.replicate 8 0) l = l := by
  unfold Kit.cpy
  rw [List.length_replicate, List.take_of_length_le (by omega), List.drop_of_length_le (by simp; omega), List.append_nil]
theorem cpy_take (l : List Int) (h : 8 ≤ l.length) : Kit.cpy (List.replicate 8 0) l = l.take 8 := by
  unfold Kit.cpy
  rw [List.length_replicate, List.drop_of_length_le (by simp; omega), List.append_nil]
theorem of_is {g0 g1 : Int} (h : mayB g0 g1 = true) (k : Nat) (hk : 60 ≤ k) : head_Of.f k g0 g1 = some (head g0 g1) := by
  have hb := may_bd h
  have e0 : IntKind.u64.wrap g0 = g0 := u64_in (by omega) (by omega)
  have e1 : IntKind.u64.wrap g1 = g1 := u64_in (by omega) (by omega)
  have hm := more_range (s := 1) (by omega) (by omega) (body g0 g1)
  have e2 : IntKind.u64.wrap (more 1 (body g0 g1)) = more 1 (body g0 g1) := u64_in (by omega) (by omega)
  have p1 : pack_Put.f k [84, 120, 78, 82] 2 g0 = some ([84, 120, 78, 82] ++ dig 2 g0) := put_is _ 2 g0 (by simp) (by omega) (by omega) k (by omega)
  have p2 : pack_Put.f k ([84, 120, 78, 82] ++ dig 2 g0) 2 g1 = some (body g0 g1) := put_is _ 2 g1 (by simp [dig_length]) (by omega) (by omega) k (by omega)
  have p3 : pack_Put.f k [84, 120, 78, 82] 4 (more 1 (body g0 g1)) = some (head g0 g1) := put_is _ 4 _ (by simp) (by omega) (by omega) k (by omega)
  have ht : (body g0 g1).take 4 = [84, 120, 78, 82] := by simp [body]
  have hs := sum_is (body g0 g1) (body_octs g0 g1) k (by rw [body_length]; omega)
  have hl := body_length g0 g1
  unfold head_Of.f
  rw [may_is, h, Option.bind_some, if_pos rfl, e0, p1, Option.bind_some, e1, p2, Option.bind_some, if_pos (by omega), hs, Option.bind_some, ht, e2, p3, Option.bind_some, cpy8 _ (head_length g0 g1)]
theorem of_no {g0 g1 : Int} (h : mayB g0 g1 = false) (k : Nat) : head_Of.f k g0 g1 = some (List.replicate 8 0) := by
  unfold head_Of.f
  rw [may_is, h, Option.bind_some, if_neg (by decide)]
theorem refOf_is {g0 g1 : Int} (h : mayB g0 g1 = true) (k : Nat) (hk : 60 ≤ k) : ∃ s, flintref05_Of.f k g0 g1 = some s ∧ s.toList = (strOfNums (head g0 g1)).toList := by
  have hb := may_bd h
  have e0 : IntKind.u64.wrap g0 = g0 := u64_in (by omega) (by omega)
  have e1 : IntKind.u64.wrap g1 = g1 := u64_in (by omega) (by omega)
  have hm := more_range (s := 1) (by omega) (by omega) (body g0 g1)
  have e2 : IntKind.u64.wrap (more 1 (body g0 g1)) = more 1 (body g0 g1) := u64_in (by omega) (by omega)
  have p1 : flintref03_Put.f k [84, 120, 78, 82] 2 g0 = some ([84, 120, 78, 82] ++ dig 2 g0) := refPut_is _ 2 g0 (by omega) (by omega) (by simp) (by omega) (by omega) k (by omega)
  have p2 : flintref03_Put.f k ([84, 120, 78, 82] ++ dig 2 g0) 2 g1 = some (body g0 g1) := refPut_is _ 2 g1 (by omega) (by omega) (by simp [dig_length]) (by omega) (by omega) k (by omega)
  have p3 : flintref03_Put.f k [] 4 (more 1 (body g0 g1)) = some (dig 4 (more 1 (body g0 g1))) := refPut_is _ 4 _ (by omega) (by omega) (by simp) (by omega) (by omega) k (by omega)
  have hs := refSum_is (body g0 g1) (body_octs g0 g1) (by rw [body_length]; omega) k (by rw [body_length]; omega)
  unfold flintref05_Of.f
  rw [refMay_is, h, Option.bind_some, if_pos rfl, e0, p1, Option.bind_some, e1, p2, Option.bind_some, hs, Option.bind_some, e2, p3, Option.bind_some, if_pos (by rw [strOfNums_size, dig_length]; omega)]
  refine ⟨_, rfl, ?_⟩
  rw [str_toList, ByteArray.toList_eq, ByteArray.data_append, Array.toList_append, strOfNums_data]
  simp [head]
theorem refOf_no {g0 g1 : Int} (h : mayB g0 g1 = false) (k : Nat) : flintref05_Of.f k g0 g1 = some ⟨#[0, 0, 0, 0, 0, 0, 0, 0]⟩ := by
  unfold flintref05_Of.f
  rw [refMay_is, h, Option.bind_some, if_neg (by decide)]
/-- What a sector's bytes are. -/
def classS (g0 g1 : Int) (l : List Int) : Int := if mayB g0 g1 = true ∧ (l.length : Int) = g1 then (if l.take 8 = head g0 g1 then 1 else if (l.all fun c => c == 255) = true then 0 else 2) else 2
theorem class_in {g0 g1 : Int} {l : List Int} (h : mayB g0 g1 = true) (hl : (l.length : Int) = g1) : classS g0 g1 l = if l.take 8 = head g0 g1 then 1 else if (l.all fun c => c == 255) = true then 0 else 2 := by
  unfold classS; rw [if_pos (show mayB g0 g1 = true ∧ (l.length : Int) = g1 from ⟨h, hl⟩)]
theorem class_out {g0 g1 : Int} {l : List Int} (h : ¬ (mayB g0 g1 = true ∧ (l.length : Int) = g1)) : classS g0 g1 l = 2 := by
  unfold classS; rw [if_neg h]
theorem class_is (g0 g1 : Int) (l : List Int) (k : Nat) (hk : 60 ≤ k) : head_Class.f k g0 g1 l = some (classS g0 g1 l) := by
  unfold head_Class.f
  rw [may_is, Option.bind_some]
  by_cases h : mayB g0 g1 = true
  · rw [if_pos h]
    by_cases hl : (l.length : Int) = g1
    · have hb := may_bd h
      rw [class_in h hl, if_pos hl, of_is h k hk, Option.bind_some, cpy_take l (by omega)]
      by_cases c : l.take 8 = head g0 g1
      · rw [if_pos c, if_pos c]
      · rw [if_neg c, if_neg c]
        by_cases ca : (l.all fun c => c == 255) = true
        · rw [if_neg (by rw [ca]; decide), if_pos ca]
        · rw [if_pos (by simpa using ca), if_neg ca]
    · rw [if_neg hl, class_out (fun x => hl x.2)]
  · rw [if_neg h, class_out (fun x => h x.1)]
theorem ref_l0 (l : List Int) (hlen : l.length ≤ 1000000) (d : Nat) : ∀ (k i : Nat), i + d = l.length → d < k → flintref05_Class.l0 k l (l.length : Int) (i : Int) = some (if ((l.drop i).all fun c => c == 255) = true then 0 else 2) := by
  induction d with
  | zero =>
    intro k i hi hk
    obtain ⟨k, rfl⟩ : ∃ m, k = m + 1 := ⟨k - 1, by omega⟩
    rw [flintref05_Class.l0, if_neg (by omega), List.drop_of_length_le (by omega)]; rfl
  | succ d ih =>
    intro k i hi hk
    obtain ⟨k, rfl⟩ : ∃ m, k = m + 1 := ⟨k - 1, by omega⟩
    rw [flintref05_Class.l0, if_pos (by omega), if_pos (by omega), if_pos (by omega), rd_drop (show i < l.length by omega), List.all_cons]
    by_cases c : rd l i = 255
    · rw [if_pos c, wrap_up (by omega) (by omega)]
      have h := ih k (i + 1) (by omega) (by omega)
      rw [show ((i + 1 : Nat) : Int) = (i : Int) + 1 by omega] at h
      rw [h, c]; simp
    · rw [if_neg c, if_neg (by simp [c])]
theorem refClass_is (g0 g1 : Int) (l : List Int) (hl : octs l) (hlen : l.length ≤ 1000000) (k : Nat) (hk : l.length + 100 ≤ k) : flintref05_Class.f k g0 g1 l = some (classS g0 g1 l) := by
  obtain ⟨k, rfl⟩ : ∃ m, k = m + 1 := ⟨k - 1, by omega⟩
  unfold flintref05_Class.f
  rw [refMay_is, Option.bind_some]
  by_cases h : mayB g0 g1 = true
  · rw [if_pos h, flintref05_Class.j0]
    by_cases hg : (l.length : Int) = g1
    · have hb := may_bd h
      obtain ⟨s, hs, hs2⟩ := refOf_is h k (by omega)
      rw [class_in h hg, if_neg (by simp [hg]), if_pos (by omega), hs, Option.bind_some, hs2]
      by_cases c : l.take 8 = head g0 g1
      · rw [if_pos (by rw [c]), if_pos c]
      · rw [if_neg (fun e => c (str_inj (octs_take hl 8) (head_octs g0 g1) e)), if_neg c]
        exact ref_l0 l hlen l.length k 0 (by omega) (by omega)
    · rw [if_pos (by simp [hg]), class_out (fun x => hg x.2)]
  · rw [if_neg h, class_out (fun x => h x.1), flintref05_Class.j0, if_pos rfl]
theorem sector_l0 (l : List Int) (n : Nat) (hn : n ≤ 1000000) (d : Nat) : ∀ (k i : Nat), i + d = n → d < k → flintlaw05_sector.l0 k l (List.replicate i 255 ++ List.replicate d 0) (n : Int) (i : Int) = some (Kit.cpy (List.replicate n 255) l) := by
  induction d with
  | zero =>
    intro k i hi hk
    obtain ⟨k, rfl⟩ : ∃ m, k = m + 1 := ⟨k - 1, by omega⟩
    obtain rfl : i = n := by omega
    rw [flintlaw05_sector.l0, if_neg (by omega), List.replicate_zero, List.append_nil]
  | succ d ih =>
    intro k i hi hk
    obtain ⟨k, rfl⟩ : ∃ m, k = m + 1 := ⟨k - 1, by omega⟩
    have hs : (List.replicate i (255 : Int) ++ List.replicate (d + 1) 0).set i 255 = List.replicate (i + 1) 255 ++ List.replicate d 0 := by
      rw [List.set_append_right _ _ (by simp), List.length_replicate, Nat.sub_self, List.replicate_succ (n := d), List.set_cons_zero, List.replicate_succ' (n := i)]
      simp
    rw [flintlaw05_sector.l0, if_pos (by omega), if_pos (by omega), if_pos (by simp; omega), Int.toNat_natCast, hs, wrap_up (by omega) (by omega)]
    exact ih k (i + 1) (by omega) (by omega)
theorem sector_is (g0 : Int) (n : Nat) (hn : n ≤ 1000000) (l : List Int) (k : Nat) (hk : n + 2 ≤ k) : flintlaw05_sector.f k g0 (n : Int) l = some (Kit.cpy (List.replicate n 255) l) := by
  unfold flintlaw05_sector.f
  rw [if_pos (by omega), if_pos (by omega), Option.bind_some, List.length_replicate, Int.toNat_natCast]
  exact sector_l0 l n hn n k 0 (by omega) (by omega)
end Go.Proofs.YtconcmobjkpkcaaDoor.Head
