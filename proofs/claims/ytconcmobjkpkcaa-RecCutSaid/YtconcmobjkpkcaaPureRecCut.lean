/- Of a frame that was programmed over 255 and cut off, nothing, what is torn, or the whole record is left. No conditions. -/
import Derived.Test.YtconcmobjkpkcaaG24
import Derived.Test.YtconcmobjkpkcaaFrameLaws
namespace Go.Proofs.Ytconcmobjkpkcaa.Pure
open Go Go.RowKit Go.Proofs.Ytconcmobjkpkcaa.G Go.Proofs.YtconcmobjkpkcaaW.PrintWords Go.Proofs.YtconcmobjkpkcaaW.PrintLast SumMath SumLoops RecLoops ClassLoops FrameLaws
theorem wf_u16 {n : Int} : (Lit.int .u16 n).wf = true ↔ 0 ≤ n ∧ n ≤ 65535 := by
  simp [Lit.wf, IntKind.min, IntKind.max, IntKind.signed, IntKind.bits]
theorem rd_nat (l : List Int) (j : Nat) : rd l (j : Int) = l.getD j 0 := by unfold rd; rw [Int.toNat_natCast]
/-- All is laid to 255. -/
theorem cut_l0 (x0 : List Int) (x2 : Int) (b : List Int) (n : Int) (m : Nat) (hm : m < 100000) (H : ∀ k, 6000 ≤ k → flintlaw06_RecCut.l0 (k + 1) x0 x2 b n (List.replicate m 255) m m = some true) (d : Nat) :
    ∀ (k i : Nat), i + d = m → 6000 + d < k → flintlaw06_RecCut.l0 k x0 x2 b n (List.replicate i 255 ++ List.replicate d 0) m i = some true := by
  induction d with
  | zero =>
    intro k i hi hk
    obtain ⟨k, rfl⟩ : ∃ j, k = j + 1 := ⟨k - 1, by omega⟩
    obtain rfl : i = m := by omega
    simpa using H k (by omega)
  | succ d ih =>
    intro k i hi hk
    obtain ⟨k, rfl⟩ : ∃ j, k = j + 1 := ⟨k - 1, by omega⟩
    rw [flintlaw06_RecCut.l0, if_pos (by omega), if_pos (by omega), if_pos (by simp; omega), wrap_up (by omega) (by omega), Int.toNat_natCast]
    have e : (List.replicate i (255 : Int) ++ List.replicate (d + 1) 0).set i 255 = List.replicate (i + 1) 255 ++ List.replicate d 0 := by
      rw [List.set_append_right _ _ (by simp), List.length_replicate, Nat.sub_self, List.replicate_succ (n := d), List.set_cons_zero, List.replicate_succ', List.append_assoc]
      rfl
    rw [e]
    exact ih k (i + 1) (by omega) (by omega)
/-- The two marks of the last loop. -/
theorem cut_l1 (x0 l b : List Int) (hlen : b.length ≤ l.length) (hb : b.length ≤ 100000)
    (d : Nat) : ∀ (k i : Nat) (w nn : Bool), i + d = b.length → 5000 + d < k →
    (∀ (k : Nat) (W N : Bool), 4999 ≤ k → (W = true ↔ (w = true ∧ ∀ j : Nat, i ≤ j → j < b.length → rd l j = rd b j)) → (N = true ↔ (nn = true ∧ ∀ j : Nat, i ≤ j → j < b.length → rd l j = 255)) → flintlaw06_RecCut.l1 (k + 1) x0 l W N b b.length b.length = some true) →
    flintlaw06_RecCut.l1 k x0 l w nn b b.length i = some true := by
  induction d with
  | zero =>
    intro k i w nn hi hk H
    obtain ⟨k, rfl⟩ : ∃ j, k = j + 1 := ⟨k - 1, by omega⟩
    obtain rfl : i = b.length := by omega
    exact H k w nn (by omega) (by constructor; intro h; exact ⟨h, fun j h1 h2 => by omega⟩; exact fun h => h.1) (by constructor; intro h; exact ⟨h, fun j h1 h2 => by omega⟩; exact fun h => h.1)
  | succ d ih =>
    intro k i w nn hi hk H
    obtain ⟨k, rfl⟩ : ∃ j, k = j + 1 := ⟨k - 1, by omega⟩
    have hW : ∀ (W w' : Bool), (w' = true ↔ w = true ∧ rd l i = rd b i) → (W = true ↔ (w' = true ∧ ∀ j : Nat, i + 1 ≤ j → j < b.length → rd l j = rd b j)) → (W = true ↔ (w = true ∧ ∀ j : Nat, i ≤ j → j < b.length → rd l j = rd b j)) := by
      intro W w' h1 h2
      rw [h2, h1]
      constructor
      · rintro ⟨⟨hw, h0⟩, h⟩
        refine ⟨hw, fun j h3 h4 => ?_⟩
        rcases Nat.lt_or_ge i j with h5 | h5
        · exact h j h5 h4
        · obtain rfl : j = i := by omega
          exact h0
      · rintro ⟨hw, h⟩
        exact ⟨⟨hw, h i (Nat.le_refl _) (by omega)⟩, fun j h3 h4 => h j (by omega) h4⟩
    have hN : ∀ (W w' : Bool), (w' = true ↔ nn = true ∧ rd l i = 255) → (W = true ↔ (w' = true ∧ ∀ j : Nat, i + 1 ≤ j → j < b.length → rd l j = 255)) → (W = true ↔ (nn = true ∧ ∀ j : Nat, i ≤ j → j < b.length → rd l j = 255)) := by
      intro W w' h1 h2
      rw [h2, h1]
      constructor
      · rintro ⟨⟨hw, h0⟩, h⟩
        refine ⟨hw, fun j h3 h4 => ?_⟩
        rcases Nat.lt_or_ge i j with h5 | h5
        · exact h j h5 h4
        · obtain rfl : j = i := by omega
          exact h0
      · rintro ⟨hw, h⟩
        exact ⟨⟨hw, h i (Nat.le_refl _) (by omega)⟩, fun j h3 h4 => h j (by omega) h4⟩
    have go := fun (w' nn' : Bool) (h1 : w' = true ↔ w = true ∧ rd l i = rd b i) (h2 : nn' = true ↔ nn = true ∧ rd l i = 255) =>
      ih k (i + 1) w' nn' (by omega) (by omega) (fun k W N hk a1 a2 => H k W N hk (hW W w' h1 a1) (hN N nn' h2 a2))
    rw [flintlaw06_RecCut.l1, if_pos (by omega), if_pos (by omega), if_pos (by omega), wrap_up (by omega) (by omega)]
    have hl : (i : Int) < (l.length : Int) := by omega
    cases w <;> cases nn
    · rw [if_neg (by decide), if_neg (by decide)]
      exact go _ _ (by simp) (by simp)
    · rw [if_neg (by decide), if_pos rfl, if_pos hl]
      exact go _ _ (by simp) (by simp)
    · rw [if_pos rfl, if_pos hl, if_neg (by decide)]
      exact go _ _ (by simp) (by simp)
    · rw [if_pos rfl, if_pos hl, if_pos rfl]
      exact go _ _ (by simp) (by simp)
/-- What the mask leaves of a byte that is programmed over 255. -/
def left (c m : Int) : Int := Go.bits .and .u8 255 (Go.bits .or .u8 c (Go.bits .xor .u8 255 m))
theorem left_is (c m : Int) (hc : 0 ≤ c ∧ c ≤ 255) (hm : 0 ≤ m ∧ m ≤ 255) : c ≤ left c m ∧ left c m ≤ 255 := by
  obtain ⟨a, rfl⟩ := Int.eq_ofNat_of_zero_le hc.1
  obtain ⟨b, rfl⟩ := Int.eq_ofNat_of_zero_le hm.1
  unfold left
  have hx : (255 : Nat) ^^^ b < 2 ^ 8 := Nat.xor_lt_two_pow (by omega) (by omega)
  have ho : a ||| (255 ^^^ b) < 2 ^ 8 := Nat.or_lt_two_pow (by omega) hx
  have e1 : Go.bits .xor .u8 255 ((b : Nat) : Int) = ((255 ^^^ b : Nat) : Int) := u8_xor_nat 255 b (by omega) (by omega)
  have e2 := u8_or_nat a (255 ^^^ b) (by omega) (by omega)
  have e3 : Go.bits .and .u8 255 ((a ||| (255 ^^^ b) : Nat) : Int) = ((255 &&& (a ||| (255 ^^^ b)) : Nat) : Int) := u8_and_nat 255 _ (by omega) (by omega)
  rw [e1, e2, e3, Nat.and_comm, show (a ||| (255 ^^^ b)) &&& 255 = a ||| (255 ^^^ b) from Nat.and_two_pow_sub_one_of_lt_two_pow ho]
  have h := Nat.left_le_or (n := a) (m := 255 ^^^ b)
  generalize a ||| (255 ^^^ b) = z at ho h ⊢
  omega
/-- What is programmed. -/
def cutAt (b : List Int) (n : Nat) (v : Int) : List Int := b.take n ++ v :: List.replicate (b.length + 8 - n) 255
theorem cutAt_length (b : List Int) (n : Nat) (v : Int) (hn : n < b.length) : (cutAt b n v).length = b.length + 9 := by
  simp [cutAt]; omega
theorem cutAt_rd (b : List Int) (n : Nat) (v : Int) (hn : n < b.length) (j : Nat) (hj : j < b.length + 9) : rd (cutAt b n v) (j : Int) = if j < n then rd b (j : Int) else if j = n then v else 255 := by
  have hl : (b.take n).length = n := by simp; omega
  rw [rd_nat, rd_nat]
  unfold cutAt
  rw [List.getD_eq_getElem?_getD, List.getD_eq_getElem?_getD]
  split
  · rename_i h
    rw [List.getElem?_append_left (by omega), List.getElem?_take, if_pos h]
  · rename_i h
    rw [List.getElem?_append_right (by omega), hl]
    split
    · rename_i h2
      rw [h2, Nat.sub_self]
      rfl
    · rename_i h2
      obtain ⟨q, hq⟩ : ∃ q, j - n = q + 1 := ⟨j - n - 1, by omega⟩
      rw [hq, List.getElem?_cons_succ, List.getElem?_replicate, if_pos (by omega)]
      rfl
theorem set_cutAt (b : List Int) (n : Nat) (v : Int) (hn : n < b.length) : (Kit.cpy (List.replicate (b.length + 9) 255) (b.take n)).set n v = cutAt b n v := by
  unfold Kit.cpy cutAt
  have hl : (b.take n).length = n := by simp; omega
  rw [List.length_replicate, List.take_of_length_le (by omega), hl, List.drop_replicate, List.set_append_right _ _ (by omega), hl, Nat.sub_self, show b.length + 9 - n = (b.length + 8 - n) + 1 by omega, List.replicate_succ, List.set_cons_zero]
theorem ext_rd {l m : List Int} (hl : l.length = m.length) (h : ∀ j : Nat, j < l.length → rd l (j : Int) = rd m (j : Int)) : l = m := by
  apply List.ext_getElem hl
  intro j h1 h2
  have := h j h1
  rw [rd_nat, rd_nat] at this
  simpa [h1, h2] using this
theorem body_last (l : List Int) : rd (frame l) ((l.length + 7 : Nat) : Int) = 0 := by
  have := rd_pre (127 :: (dig 2 l.length ++ (dig 4 (sumOf l) ++ l))) [0] 0
  rw [show (127 :: (dig 2 l.length ++ (dig 4 (sumOf l) ++ l))).length + 0 = l.length + 7 by simp [dig_length]; omega] at this
  rw [show frame l = (127 :: (dig 2 l.length ++ (dig 4 (sumOf l) ++ l))) ++ [0] by simp [frame], this]
  rfl
theorem frame_two (l : List Int) : rd (frame l) ((1 : Nat) : Int) = (l.length : Int) / 256 % 256 ∧ rd (frame l) ((2 : Nat) : Int) = (l.length : Int) % 256 := by
  constructor <;> simp [rd, frame, dig]
/-- Torn is what is neither whole nor none. -/
theorem torn_is (x : List Int) (hlen : x.length ≤ 500) (n : Nat) (v : Int) (hn : n < (frame x).length) (hv : rd (frame x) (n : Int) ≤ v ∧ v ≤ 255) (hx : octs x)
    (hW : ¬ ∀ j : Nat, j < (frame x).length → rd (cutAt (frame x) n v) j = rd (frame x) j) (hN : ¬ ∀ j : Nat, j < (frame x).length → rd (cutAt (frame x) n v) j = 255) :
    classS (cutAt (frame x) n v) 0 = (3, [], 0) := by
  have hl := cutAt_length (frame x) n v hn
  have hr := cutAt_rd (frame x) n v hn
  have hf := frame_length x
  have h2 := frame_two x
  have hz := body_last x
  have e2 := two_is (cutAt (frame x) n v) ?_ 0 (by omega)
  rotate_left
  · intro c hc
    simp only [cutAt, List.mem_append, List.mem_cons, List.mem_replicate] at hc
    have hb := rd_byte (frame_octs hx) hn
    rcases hc with hc | rfl | hc
    · exact frame_octs hx c (List.mem_of_mem_take hc)
    · omega
    · omega
  have a1 := hr 1 (by omega)
  have a2 := hr 2 (by omega)
  obtain ⟨e20, e21, e22⟩ := e2
  rw [a1, a2, h2.1, h2.2] at e21
  have key : (cutAt (frame x) n v).length < 0 + 8 + two (cutAt (frame x) n v) 0 ∨ rd (cutAt (frame x) n v) ((0 + 7 + two (cutAt (frame x) n v) 0 : Nat) : Int) ≠ 0 := by
    generalize two (cutAt (frame x) n v) 0 = t at e21 e22 ⊢
    rcases Nat.lt_or_ge (cutAt (frame x) n v).length (0 + 8 + t) with h | h
    · exact .inl h
    right
    rw [hr (0 + 7 + t) (by omega)]
    rcases Nat.lt_or_ge (n + 1) (frame x).length with hs | hs
    · -- before the last byte
      have hp : n < 0 + 7 + t := by
        by_cases q0 : n = 0
        · subst q0; rw [if_neg (by omega), if_neg (by omega), if_neg (by omega), if_neg (by omega)] at e21; omega
        by_cases q1 : n = 1
        · subst q1; rw [if_neg (by omega), if_pos rfl, if_neg (by omega), if_neg (by omega)] at e21; rw [h2.1] at hv; omega
        by_cases q2 : n = 2
        · subst q2; rw [if_pos (by omega), if_neg (by omega), if_pos rfl] at e21; rw [h2.2] at hv; omega
        rw [if_pos (by omega), if_pos (by omega)] at e21
        omega
      rw [if_neg (by omega), if_neg (by omega)]
      omega
    · -- the last byte
      have hn7 : n = x.length + 7 := by omega
      rw [if_pos (by omega), if_pos (by omega)] at e21
      have ht : t = x.length := by omega
      rw [if_neg (by omega), if_pos (by omega)]
      intro hv0
      apply hW
      intro j hj
      rw [hr j (by omega)]
      split
      · rfl
      · rw [if_pos (by omega), hv0, show j = x.length + 7 by omega, hz]
  have hall : ((cutAt (frame x) n v).drop 0).all (fun c => c == 255) = false := by
    rw [Bool.eq_false_iff]
    intro hA
    apply hN
    intro j hj
    rw [List.drop_zero, List.all_eq_true] at hA
    have hjl : j < (cutAt (frame x) n v).length := by omega
    have := hA (cutAt (frame x) n v)[j] (List.getElem_mem hjl)
    rw [rd_nat]
    simpa [hjl] using this
  unfold classS
  rw [hall]
  rw [if_neg (by decide)]
  split
  · rfl
  · first | rfl | rw [if_pos key]
theorem RecCut : flintlaw06_RecCut.Pure := by
  intro x a1 a2 hl1 hl2 hw ha1 ha2
  have hx := octs_wf hw
  refine ⟨9002, ?_⟩
  have hm := wf_u8.mp ha2
  have hk : 0 ≤ a1 ∧ a1 ≤ 65535 := wf_u16.mp ha1
  unfold flintlaw06_RecCut.f
  by_cases c1 : (x.length : Int) > 500
  · rw [if_pos c1, fixed6_is _ (by omega)]; rfl
  have hf := frame_length x
  have hz : (((frame x).length : Int) == 0) = false := by rw [hf]; simp; omega
  rw [if_neg c1, recPut_is x hx (by omega) _ (by omega), Option.bind_some, if_pos rfl]
  simp only [hz]
  have hw0 : wrap64 a1 = a1 := by unfold wrap64; omega
  obtain ⟨n, hnn⟩ := Int.eq_ofNat_of_zero_le (show 0 ≤ a1 % ((frame x).length : Int) by exact Int.emod_nonneg _ (by omega))
  have hn : n < (frame x).length := by have := Int.emod_lt_of_pos a1 (show (0 : Int) < (frame x).length by omega); omega
  have ht : Int.tmod (wrap64 a1) ((frame x).length : Int) = (n : Int) := by rw [hw0, Int.tmod_eq_emod_of_nonneg hk.1, hnn]
  have hw9 : wrap64 (((frame x).length : Int) + 9) = (((frame x).length + 9 : Nat) : Int) := by unfold wrap64; omega
  have hbn := rd_byte (frame_octs hx) hn
  have hv := left_is (rd (frame x) n) a2 hbn hm
  rw [show (9002 : Nat) = 9001 + 1 from rfl, flintlaw06_RecCut.j0, if_neg (by decide), if_neg (by omega), ht, hw9, if_pos (by omega), if_pos (by omega), Option.bind_some, Int.toNat_natCast, List.length_replicate]
  have hlc := cutAt_length (frame x) n (left (rd (frame x) n) a2) hn
  have hrc := cutAt_rd (frame x) n (left (rd (frame x) n) a2) hn
  refine cut_l0 x a2 (frame x) n ((frame x).length + 9) (by omega) (fun k hk => ?_) ((frame x).length + 9) 9001 0 (by omega) (by omega)
  rw [flintlaw06_RecCut.l0, if_neg (by omega), if_pos (by omega), if_pos (by omega), Option.bind_some, if_pos (by rw [List.length_replicate]; omega), if_pos (by omega), Int.toNat_natCast]
  have er : rd (Kit.cpy (List.replicate ((frame x).length + 9) 255) ((frame x).take n)) (n : Int) = 255 := by
    have hl : ((frame x).take n).length = n := by simp; omega
    rw [rd_nat]
    unfold Kit.cpy
    rw [List.getD_eq_getElem?_getD, List.length_replicate, List.take_of_length_le (by omega), hl, List.drop_replicate, List.getElem?_append_right (by omega), hl, Nat.sub_self, List.getElem?_replicate, if_pos (by omega)]
    rfl
  rw [er]
  have es := set_cutAt (frame x) n (left (rd (frame x) n) a2) hn
  unfold left at es
  rw [es]
  change flintlaw06_RecCut.l1 k x (cutAt (frame x) n (left (rd (frame x) n) a2)) true true (frame x) ((frame x).length : Int) 0 = some true
  generalize left (rd (frame x) n) a2 = v at hv hlc hrc
  clear er es
  refine cut_l1 x (cutAt (frame x) n v) (frame x) (by omega) (by omega) (frame x).length k 0 true true (by omega) (by omega) (fun k W N hk hW hN => ?_)
  have ho : octs (cutAt (frame x) n v) := by
    intro c hc
    simp only [cutAt, List.mem_append, List.mem_cons, List.mem_replicate] at hc
    rcases hc with hc | rfl | hc
    · exact frame_octs hx c (List.mem_of_mem_take hc)
    · omega
    · omega
  have hc : rec_Class.f k (cutAt (frame x) n v) 0 = some (classS (cutAt (frame x) n v) 0) := class_is (cutAt (frame x) n v) ho (by omega) 0 (by omega) k (by omega)
  rw [flintlaw06_RecCut.l1, if_neg (by omega), hc, Option.bind_some]
  by_cases cW : W = true
  · have hA := (hW.mp cW).2
    have hv0 : cutAt (frame x) n v = [] ++ (127 :: body x ++ List.replicate 9 255) := by
      rw [List.nil_append, ← frame_is]
      refine ext_rd (by rw [hlc]; simp) fun j hj => ?_
      rw [hlc] at hj
      rcases Nat.lt_or_ge j (frame x).length with h | h
      · rw [hA j (Nat.zero_le _) h, rd_nat, rd_nat, List.getD_eq_getElem?_getD, List.getD_eq_getElem?_getD, List.getElem?_append_left h]
      · rw [hrc j hj, if_neg (by omega), if_neg (by omega), rd_nat, List.getD_eq_getElem?_getD, List.getElem?_append_right h, List.getElem?_replicate, if_pos (by omega)]
        rfl
    have hcl := whole_is [] (List.replicate 9 255) x 127 (by omega) (by decide)
    rw [if_pos cW, fixed6_is _ (by omega), Option.bind_some, if_pos rfl, hv0]
    rw [show (([] : List Int).length) = 0 from rfl] at hcl
    rw [hcl]
    simp [show st 127 = 4 by decide]
  rw [if_neg cW]
  by_cases cN : N = true
  · have hA := (hN.mp cN).2
    have hall : ((cutAt (frame x) n v).drop 0).all (fun c => c == 255) = true := by
      rw [List.drop_zero, List.all_eq_true]
      intro c hc
      obtain ⟨j, hj, rfl⟩ := List.getElem_of_mem hc
      have e : rd (cutAt (frame x) n v) (j : Int) = 255 := by
        rw [hlc] at hj
        rcases Nat.lt_or_ge j (frame x).length with h | h
        · exact hA j (Nat.zero_le _) h
        · rw [hrc j hj, if_neg (by omega), if_neg (by omega)]
      rw [rd_nat] at e
      simpa [hj] using e
    have hcl : classS (cutAt (frame x) n v) 0 = (0, [], 0) := by
      unfold classS
      rw [hall, if_pos rfl]
    rw [if_pos cN, fixed6_is _ (by omega), Option.bind_some, if_pos rfl, hcl, if_pos rfl]
    rfl
  · have hcl := torn_is x (by omega) n v hn hv hx (fun h => cW (hW.mpr ⟨rfl, fun j _ h2 => h j h2⟩)) (fun h => cN (hN.mpr ⟨rfl, fun j _ h2 => h j h2⟩))
    rw [if_neg cN, fixed6_is _ (by omega), Option.bind_some, if_pos rfl, hcl, if_pos rfl]
    rfl
end Go.Proofs.Ytconcmobjkpkcaa.Pure
