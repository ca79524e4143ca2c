/- What script.Acts and the reference's come to: an act for each four bytes. -/
import Derived.Test.YtdpnhjhbdobhjaaDoorActMath
namespace Go.Proofs.YtdpnhjhbdobhjaaDoor.ActMath
open Go Go.RowKit Go.Proofs.YtdpnhjhbdobhjaaDoor.G Go.Proofs.YtdpnhjhbdobhjaaDoorW.PrintWords Go.Proofs.YtdpnhjhbdobhjaaDoorW.PrintLast Go.Proofs.YtdpnhjhbdobhjaaDoorW.PrintMore
set_option maxRecDepth 100000
def o0 (n : Int) : S28 := ⟨n, e0, e0, 0, 0, 0, []⟩
def toOp (t : Int × ByteArray × ByteArray × Int × Int × Int × List Int) : S28 := ⟨t.1, t.2.1, t.2.2.1, t.2.2.2.1, t.2.2.2.2.1, t.2.2.2.2.2.1, t.2.2.2.2.2.2⟩
/-- An act. -/
def actS (k c x y : Int) : S31 :=
  if knd k = 0 then (if fate k = 2 then ⟨2, c % 4, o0 0, x, 4 * y, y⟩ else if fate k = 5 then ⟨5, c % 4, o0 0, x, 0, 0⟩ else ⟨fate k, c % 4, o0 0, 0, 0, 0⟩)
  else ⟨1, c % 4, toOp (opS (knd k) x y), 0, 0, 0⟩
def tup (s : S31) : Int × Int × Int × ByteArray × ByteArray × Int × Int × Int × List Int × Int × Int × Int := (s.f0, s.f1, s.f2.f0, s.f2.f1, s.f2.f2, s.f2.f3, s.f2.f4, s.f2.f5, s.f2.f6, s.f3, s.f4, s.f5)
theorem knd_bd (k : Int) (h : 0 ≤ k ∧ k ≤ 255) : 0 ≤ knd k ∧ knd k ≤ 16 := by
  obtain ⟨n, rfl⟩ := Int.eq_ofNat_of_zero_le h.1
  exact (kinds ⟨n, by omega⟩).2
theorem kind_is (k : Int) (h : 0 ≤ k ∧ k ≤ 255) (m : Nat) (hm : 40 ≤ m) : flintref25_kind.f m k = some (knd k) := by
  obtain ⟨n, rfl⟩ := Int.eq_ofNat_of_zero_le h.1
  exact at_rounds (g := fun m => flintref25_kind.f m (n : Int)) (fun k => flintref25_kind.mono _ k) hm (kinds ⟨n, by omega⟩).1
theorem fates : ∀ i : Fin 256, fate i.val = if ((i.val : Int) / 32) = 4 then 3 else if ((i.val : Int) / 32) = 5 then 4 else if ((i.val : Int) / 32) = 6 then 4 else if ((i.val : Int) / 32) = 7 then 5 else 2 := by decide +kernel
theorem fate_is (k : Int) (h : 0 ≤ k ∧ k ≤ 255) : fate k = if k / 32 = 4 then 3 else if k / 32 = 5 then 4 else if k / 32 = 6 then 4 else if k / 32 = 7 then 5 else 2 := by
  obtain ⟨n, rfl⟩ := Int.eq_ofNat_of_zero_le h.1
  exact fates ⟨n, by omega⟩
theorem act_is (k c x y : Int) (hk : 0 ≤ k ∧ k ≤ 255) (hc : 0 ≤ c ∧ c ≤ 255) (hx : 0 ≤ x ∧ x ≤ 255) (hy : 0 ≤ y ∧ y ≤ 255) (m : Nat) (hm : 100 ≤ m) : script_act.f m k c x y = some (tup (actS k c x y)) := by
  obtain ⟨m, rfl⟩ : ∃ n, m = n + 100 := ⟨m - 100, by omega⟩
  have kb := knd_bd k hk
  have hkd : script_kindsAt.f (Int.tmod k 32) = some (knd k) := by
    unfold script_kindsAt.f knd
    rw [Int.tmod_eq_emod_of_nonneg hk.1, if_pos (by omega)]
  have hft : script_fatesAt.f ((Int.tdiv k 32) % 256) = some (fate k) := by
    unfold script_fatesAt.f fate
    rw [Int.tdiv_eq_ediv_of_nonneg hk.1, if_pos (by omega), show k / 32 % 256 = k / 32 by omega]
  have hc4 : wrap64 (Int.tmod c 4) = c % 4 := by rw [Int.tmod_eq_emod_of_nonneg hc.1]; unfold wrap64; omega
  have ex : x % 4294967296 = x := by omega
  have ey : (4 * (y % 4294967296)) % 4294967296 = 4 * y := by omega
  unfold script_act.f
  rw [hkd, Option.bind_some, hft, Option.bind_some, hc4, ex, ey]
  by_cases h0 : knd k = 0
  · rw [if_pos h0]
    unfold actS
    rw [if_pos h0]
    by_cases h2 : fate k = 2
    · rw [if_pos h2, if_pos h2, h2]; rfl
    · rw [if_neg h2, if_neg h2]
      by_cases h5 : fate k = 5
      · rw [if_pos h5, if_pos h5, h5]; rfl
      · rw [if_neg h5, if_neg h5]; rfl
  · rw [if_neg h0, op_is (knd k) x y (by omega) hx hy m, Option.bind_some]
    unfold actS
    rw [if_neg h0]; rfl
/-- The j-th act of bytes. -/
def actAt (l : List Int) (j : Nat) : S31 := actS (l.getD (2 + 4 * j) 0) (l.getD (2 + 4 * j + 1) 0) (l.getD (2 + 4 * j + 2) 0) (l.getD (2 + 4 * j + 3) 0)
def actsL (l : List Int) (n : Nat) : List S31 := (List.range n).map (actAt l)
theorem actsL_succ (l : List Int) (n : Nat) : actsL l (n + 1) = actsL l n ++ [actAt l n] := by simp [actsL, List.range_succ]
theorem actsL_length (l : List Int) (n : Nat) : (actsL l n).length = n := by simp [actsL]
def num (l : List Int) : Nat := min 512 ((l.length - 2) / 4)
def Bytes (l : List Int) : Prop := ∀ i : Nat, 0 ≤ l.getD i 0 ∧ l.getD i 0 ≤ 255
theorem bytes_of {l : List Int} (hw : ∀ x ∈ l, (Lit.int .u8 x).wf = true) : Bytes l := by
  intro i
  by_cases h : i < l.length
  · have e : l.getD i 0 = l[i] := by simp [h]
    rw [e]
    simpa [Lit.wf, IntKind.min, IntKind.max, IntKind.signed, IntKind.bits] using hw _ (List.getElem_mem h)
  · have e : l.getD i 0 = 0 := by simp [h]
    rw [e]; omega
theorem acts_l0 (l : List Int) (hl : l.length ≤ 4000) (hb : Bytes l) (r : Nat) : ∀ (k j : Nat), j + r = num l → r + 200 ≤ k → script_Acts.l0 k l (actsL l j) ((2 + 4 * j : Nat) : Int) = some (actsL l (num l)) := by
  induction r with
  | zero =>
    intro k j hj hk
    obtain ⟨k, rfl⟩ : ∃ m, k = m + 1 := ⟨k - 1, by omega⟩
    obtain rfl : j = num l := by omega
    have w4 : wrap64 (((2 + 4 * num l : Nat) : Int) + 4) = ((2 + 4 * num l + 4 : Nat) : Int) := by unfold wrap64 num; omega
    have hn : num l = min 512 ((l.length - 2) / 4) := rfl
    rw [script_Acts.l0, w4, actsL_length]
    by_cases c : ((2 + 4 * num l + 4 : Nat) : Int) ≤ (l.length : Int)
    · rw [if_pos c, if_neg (by omega)]
    · rw [if_neg c]
  | succ r ih =>
    intro k j hj hk
    obtain ⟨k, rfl⟩ : ∃ m, k = m + 1 := ⟨k - 1, by omega⟩
    have hn : num l = min 512 ((l.length - 2) / 4) := rfl
    have w4 : wrap64 (((2 + 4 * j : Nat) : Int) + 4) = ((2 + 4 * (j + 1) : Nat) : Int) := by unfold wrap64; omega
    have w1 : wrap64 (((2 + 4 * j : Nat) : Int) + 1) = ((2 + 4 * j + 1 : Nat) : Int) := by unfold wrap64; omega
    have w2 : wrap64 (((2 + 4 * j : Nat) : Int) + 2) = ((2 + 4 * j + 2 : Nat) : Int) := by unfold wrap64; omega
    have w3 : wrap64 (((2 + 4 * j : Nat) : Int) + 3) = ((2 + 4 * j + 3 : Nat) : Int) := by unfold wrap64; omega
    have e : ∀ i : Nat, rd l (i : Int) = l.getD i 0 := fun i => by simp [rd]
    rewrite [script_Acts.l0, w4, w1, w2, w3, actsL_length, if_pos (by omega), if_pos (by omega), if_pos (by omega), if_pos (by omega), if_pos (by omega), if_pos (by omega), if_pos (by omega), if_pos (by omega), if_pos (by omega), if_pos (by omega), e, e, e, e,
      act_is _ _ _ _ (hb _) (hb _) (hb _) (hb _) k (by omega), Option.bind_some, if_pos (by omega)]
    have h := ih k (j + 1) (by omega) (by omega)
    rw [actsL_succ] at h
    exact h
theorem acts_is (l : List Int) (hl : l.length ≤ 4000) (hb : Bytes l) (k : Nat) (hk : 800 ≤ k) : script_Acts.f k l = some (actsL l (num l)) :=
  acts_l0 l hl hb (num l) k 0 (by omega) (by have hn : num l = min 512 ((l.length - 2) / 4) := rfl; omega)
theorem refAt_is (l : List Int) (hb : Bytes l) (hl : l.length ≤ 4000) (i : Nat) : flintref25_at.f l (i : Int) = some (l.getD i 0) := by
  unfold flintref25_at.f
  have hi := hb i
  rcases Nat.lt_or_ge i l.length with h | h
  · have er : rd l (i : Int) = l.getD i 0 := by simp [rd]
    rw [if_pos (by omega), if_pos (by omega), er]
    unfold wrap64; congr 1; omega
  · have e : l.getD i 0 = 0 := by simp [h]
    rw [if_neg (by omega), e]
theorem ref_round (l : List Int) (hl : l.length ≤ 4000) (hb : Bytes l) (acc : List S31) (j m : Nat) (h1 : 2 + 4 * j + 3 < l.length) (h2 : acc.length < 512) (hm : 200 ≤ m) :
    ∃ k, m ≤ k ∧ flintref25_Acts.l0 (m + 4) l acc ((2 + 4 * j : Nat) : Int) = flintref25_Acts.l0 k l (acc ++ [actAt l j]) ((2 + 4 * (j + 1) : Nat) : Int) := by
  have w4 : wrap64 (((2 + 4 * j : Nat) : Int) + 4) = ((2 + 4 * (j + 1) : Nat) : Int) := by unfold wrap64; omega
  have w1 : wrap64 (((2 + 4 * j : Nat) : Int) + 1) = ((2 + 4 * j + 1 : Nat) : Int) := by unfold wrap64; omega
  have w2 : wrap64 (((2 + 4 * j : Nat) : Int) + 2) = ((2 + 4 * j + 2 : Nat) : Int) := by unfold wrap64; omega
  have w3 : wrap64 (((2 + 4 * j : Nat) : Int) + 3) = ((2 + 4 * j + 3 : Nat) : Int) := by unfold wrap64; omega
  have hd : decide ((acc.length : Int) < 512) = true := by simp; omega
  have hk := hb (2 + 4 * j)
  have hc := hb (2 + 4 * j + 1)
  have hx := hb (2 + 4 * j + 2)
  have hy := hb (2 + 4 * j + 3)
  rewrite [flintref25_Acts.l0, w3, if_pos (by omega), hd, flintref25_Acts.j1, if_pos rfl, w1, w2, w3, refAt_is l hb hl, Option.bind_some, refAt_is l hb hl, Option.bind_some, refAt_is l hb hl, Option.bind_some, refAt_is l hb hl, Option.bind_some, kind_is _ hk (m + 2) (by omega), Option.bind_some]
  show ∃ k, m ≤ k ∧ _ = flintref25_Acts.l0 k l (acc ++ [actS (l.getD (2 + 4 * j) 0) (l.getD (2 + 4 * j + 1) 0) (l.getD (2 + 4 * j + 2) 0) (l.getD (2 + 4 * j + 3) 0)]) _
  generalize l.getD (2 + 4 * j) 0 = k at hk
  generalize l.getD (2 + 4 * j + 1) 0 = c at hc
  generalize l.getD (2 + 4 * j + 2) 0 = x at hx
  generalize l.getD (2 + 4 * j + 3) 0 = y at hy
  have kb := knd_bd k hk
  have hf := fate_is k hk
  have tc : Int.tmod c 4 = c % 4 := Int.tmod_eq_emod_of_nonneg hc.1
  have td : wrap64 (Int.tdiv k 32) = k / 32 := by rw [Int.tdiv_eq_ediv_of_nonneg hk.1]; unfold wrap64; omega
  have ex : x % 4294967296 = x := by omega
  have ey : (wrap64 (4 * y)) % 4294967296 = 4 * y := by unfold wrap64; omega
  have ez : y % 256 = y := by omega
  rw [tc]
  unfold actS
  by_cases h0 : knd k = 0
  · rw [if_neg (by omega), flintref25_Acts.j2, if_pos h0, if_pos h0, td, w4]
    by_cases c4 : k / 32 = 4
    · rw [if_pos c4] at hf
      rewrite [if_pos c4, if_pos (by omega), if_neg (by omega), if_neg (by omega), hf]
      exact ⟨m + 1, by omega, rfl⟩
    · rw [if_neg c4] at hf
      rw [if_neg c4]
      by_cases c5 : k / 32 = 5
      · rw [if_pos c5] at hf
        rewrite [if_pos c5, flintref25_Acts.j3, if_pos (by simp [c5]), if_pos (by omega), w4, if_neg (by omega), if_neg (by omega), hf]
        exact ⟨m, by omega, rfl⟩
      · rw [if_neg c5] at hf
        rw [if_neg c5, flintref25_Acts.j3]
        by_cases c6 : k / 32 = 6
        · rw [if_pos c6] at hf
          rewrite [if_pos (by simp [c6]), if_pos (by omega), w4, if_neg (by omega), if_neg (by omega), hf]
          exact ⟨m, by omega, rfl⟩
        · rw [if_neg c6] at hf
          rw [if_neg (by simp [c6])]
          by_cases c7 : k / 32 = 7
          · rw [if_pos c7] at hf
            rewrite [if_pos c7, if_pos (by omega), w4, ex, if_neg (by omega), if_pos hf]
            exact ⟨m, by omega, rfl⟩
          · rw [if_neg c7] at hf
            rewrite [if_neg c7, if_pos (by omega), w4, ex, ey, ez, if_pos hf]
            exact ⟨m, by omega, rfl⟩
  · obtain ⟨n, rfl⟩ : ∃ n, m = n + 100 := ⟨m - 100, by omega⟩
    rewrite [if_pos (by omega), refOp_is (knd k) x y (by omega) hx hy (n + 2), Option.bind_some, flintref25_Acts.j2, if_neg h0, if_neg h0, if_pos (by omega), w4]
    exact ⟨n + 100 + 1, by omega, rfl⟩
theorem ref_l0 (l : List Int) (hl : l.length ≤ 4000) (hb : Bytes l) (r : Nat) : ∀ (k j : Nat), j + r = num l → 4 * r + 204 ≤ k → flintref25_Acts.l0 k l (actsL l j) ((2 + 4 * j : Nat) : Int) = some (actsL l (num l)) := by
  induction r with
  | zero =>
    intro k j hj hk
    obtain ⟨k, rfl⟩ : ∃ m, k = m + 1 + 1 := ⟨k - 2, by omega⟩
    obtain rfl : j = num l := by omega
    have hn : num l = min 512 ((l.length - 2) / 4) := rfl
    have w3 : wrap64 (((2 + 4 * num l : Nat) : Int) + 3) = ((2 + 4 * num l + 3 : Nat) : Int) := by unfold wrap64; omega
    rw [flintref25_Acts.l0, w3, actsL_length]
    by_cases c : ((2 + 4 * num l + 3 : Nat) : Int) < (l.length : Int)
    · have hd : decide ((num l : Int) < 512) = false := by simp; omega
      rw [if_pos c, hd, flintref25_Acts.j1, if_neg (by simp)]
    · rw [if_neg c, flintref25_Acts.j1, if_neg (by simp)]
  | succ r ih =>
    intro k j hj hk
    obtain ⟨k, rfl⟩ : ∃ m, k = m + 4 := ⟨k - 4, by omega⟩
    have hn : num l = min 512 ((l.length - 2) / 4) := rfl
    obtain ⟨k', hk', e⟩ := ref_round l hl hb (actsL l j) j k (by omega) (by rw [actsL_length]; omega) (by omega)
    rewrite [e, ← actsL_succ]
    exact ih k' (j + 1) (by omega) (by omega)
theorem refActs_is (l : List Int) (hl : l.length ≤ 4000) (hb : Bytes l) (k : Nat) (hk : 3000 ≤ k) : flintref25_Acts.f k l = some (actsL l (num l)) :=
  ref_l0 l hl hb (num l) k 0 (by omega) (by have hn : num l = min 512 ((l.length - 2) / 4) := rfl; omega)
/-- No act is great. -/
theorem good (l : List Int) (hb : Bytes l) (j : Nat) : (actAt l j).f2.f1.size ≤ 6 ∧ (actAt l j).f2.f2.size ≤ 6 ∧ (actAt l j).f2.f6.length ≤ 70 := by
  have hx := hb (2 + 4 * j + 2)
  have hy := hb (2 + 4 * j + 3)
  unfold actAt
  generalize l.getD (2 + 4 * j) 0 = k
  generalize l.getD (2 + 4 * j + 1) 0 = c
  generalize l.getD (2 + 4 * j + 2) 0 = x at hx
  generalize l.getD (2 + 4 * j + 3) 0 = y at hy
  have px := (path_is x hx).2.2
  have py := (path_is y hy).2.2
  have z : e0.size = 0 := rfl
  have hN : (y % 70).toNat + 1 ≤ 70 := by omega
  unfold actS
  split
  · split
    · exact ⟨by show e0.size ≤ 6; omega, by show e0.size ≤ 6; omega, by show 0 ≤ 70; omega⟩
    · split <;> exact ⟨by show e0.size ≤ 6; omega, by show e0.size ≤ 6; omega, by show 0 ≤ 70; omega⟩
  · show (opS (knd k) x y).2.1.size ≤ 6 ∧ (opS (knd k) x y).2.2.1.size ≤ 6 ∧ (opS (knd k) x y).2.2.2.2.2.2.length ≤ 70
    generalize knd k = K
    unfold opS
    split
    · exact ⟨by show e0.size ≤ 6; omega, by show e0.size ≤ 6; omega, by show 0 ≤ 70; omega⟩
    split
    · exact ⟨by show e0.size ≤ 6; omega, by show e0.size ≤ 6; omega, by show 0 ≤ 70; omega⟩
    split
    · exact ⟨by show e0.size ≤ 6; omega, by show e0.size ≤ 6; omega, by show 0 ≤ 70; omega⟩
    split
    · exact ⟨by show e0.size ≤ 6; omega, by show e0.size ≤ 6; omega, by show (dat x _).length ≤ 70; rw [dat_length]; exact hN⟩
    split
    · exact ⟨by show e0.size ≤ 6; omega, by show e0.size ≤ 6; omega, by show 0 ≤ 70; omega⟩
    split
    · exact ⟨px, py, by show 0 ≤ 70; omega⟩
    · exact ⟨px, by show e0.size ≤ 6; omega, by show 0 ≤ 70; omega⟩
theorem same_self (s : S31) (h : s.f2.f1.size ≤ 6 ∧ s.f2.f2.size ≤ 6 ∧ s.f2.f6.length ≤ 70) :
    flintref25_Same.f s.f0 s.f1 s.f2.f0 s.f2.f1 s.f2.f2 s.f2.f3 s.f2.f4 s.f2.f5 s.f2.f6 s.f3 s.f4 s.f5 s.f0 s.f1 s.f2.f0 s.f2.f1 s.f2.f2 s.f2.f3 s.f2.f4 s.f2.f5 s.f2.f6 s.f3 s.f4 s.f5 = some true := by
  have hd : decide ((s.f2.f6.length : Int) > 1500) = false := by simp; omega
  have hg : flintref20_Great.f s.f2.f0 s.f2.f1 s.f2.f2 s.f2.f3 s.f2.f4 s.f2.f5 s.f2.f6 = some false := by
    unfold flintref20_Great.f
    rw [if_neg (by omega), if_neg (by omega), hd]
  unfold flintref25_Same.f
  rw [if_pos rfl, if_pos rfl, if_pos rfl, if_pos rfl, if_pos rfl, if_pos rfl, if_pos rfl, if_pos rfl, if_pos rfl, if_pos rfl, if_pos rfl, if_pos rfl, hg]
  rfl
theorem rd_acts (l : List Int) (n i : Nat) (h : i < n) : rd_T31 (actsL l n) (i : Int) = actAt l i := by
  unfold rd_T31 actsL
  rw [Int.toNat_natCast, List.getD_eq_getElem?_getD]
  simp [h]
end Go.Proofs.YtdpnhjhbdobhjaaDoor.ActMath
