/- What bundle.Parse computes is what the reference computes, for any bytes up to a million. -/
import Derived.Test.YtmmjnbpoilicjaaGreatBQx8
import Derived.Laws.DeepNot64
import Derived.Laws.Bits64
set_option linter.unusedVariables false
set_option linter.unusedSimpArgs false
namespace Go.Proofs.YtmmjnbpoilicjaaGreat.Pure
open Go Go.RowKit Go.Proofs.YtmmjnbpoilicjaaGreat.Q Go.Proofs.YtmmjnbpoilicjaaGreatW.PrintWords Go.Proofs.YtmmjnbpoilicjaaGreatW.PrintLast Go.Proofs.YtmmjnbpoilicjaaGreatW.PrintMore
def Bs (l : List Int) : Prop := ∀ x ∈ l, 0 ≤ x ∧ x < 256
theorem w64 {n : Int} (h0 : -9223372036854775808 ≤ n) (h1 : n < 9223372036854775808) : wrap64 n = n := by unfold wrap64; omega
theorem Bs.at {l : List Int} (h : Bs l) (i : Int) : 0 ≤ rd l i ∧ rd l i < 256 := by
  unfold rd
  rw [List.getD_eq_getElem?_getD]
  cases hx : l[i.toNat]? with
  | none => exact ⟨by decide, by decide⟩
  | some x => exact h x (List.mem_of_getElem? hx)
theorem rd_drop (l : List Int) (o a : Nat) : rd (l.drop o) (a : Int) = rd l ((o + a : Nat) : Int) := by
  unfold rd
  rw [List.getD_eq_getElem?_getD, List.getD_eq_getElem?_getD, List.getElem?_drop]
  rfl
theorem octet_bad (l : List Int) (a : Int) : wr_octet.f l a true = some (0, a, true) := by simp [wr_octet.f]
theorem octet_end (l : List Int) (a : Int) (h : (l.length : Int) ≤ a) : wr_octet.f l a false = some (0, a, true) := by
  unfold wr_octet.f; rw [if_neg (by decide), if_pos h]
theorem octet_ok (l : List Int) (a : Nat) (h : a < l.length) (hl : l.length ≤ 4294967296) : wr_octet.f l (a : Int) false = some (rd l (a : Int), ((a + 1 : Nat) : Int), false) := by
  unfold wr_octet.f
  have e1 : wrap64 ((a : Int) + 1) = ((a + 1 : Nat) : Int) := by rw [w64 (by omega) (by omega)]; rfl
  have e2 : wrap64 (((a + 1 : Nat) : Int) - 1) = (a : Int) := by rw [w64 (by omega) (by omega)]; omega
  rw [if_neg (by decide), if_neg (by omega), e1, e2, if_pos (by omega), if_pos (by omega)]
theorem number_bad (l : List Int) (a a' : Int) (b : Bool) (h : wr_octet.f l a b = some (0, a', true)) (u s : Int) (hs : 0 ≤ s) (k : Nat) (hk : 3 ≤ k) : wr_number.l0 k u s l a b = some (0, a', true) := by
  obtain ⟨k, rfl⟩ : ∃ m, k = m + 1 + 1 + 1 := ⟨k - 3, by omega⟩
  have hj2 : ∀ x y z, wr_number.j2 (k + 1) x y z l a' true = some (0, a', true) := fun x y z => by simp only [wr_number.j2, if_true]
  have hj1 : ∀ x y z c, wr_number.j1 (k + 1 + 1) x y z c l a' true = some (0, a', true) := fun x y z c => by simp only [wr_number.j1, hj2, ite_self]
  simp only [wr_number.l0, h, Option.bind_some, hj1, ite_self]
theorem and127 (x : Int) (h0 : 0 ≤ x) (h1 : x < 256) : bits .and .u8 x 127 = x % 128 := bits_mask .u8 8 (by decide) wraps_u8 7 (by decide) x h0 h1
theorem wraps_u64 (n : Int) (h₀ : 0 ≤ n) (h₁ : n < 18446744073709551616) : IntKind.u64.wrap n = n := by rw [IntKind.wrap_u64]; omega
theorem and1 (x : Int) (h0 : 0 ≤ x) (h1 : x < 18446744073709551616) : bits .and .u64 x 1 = x % 2 := bits_mask .u64 64 (by decide) (fun n a b => wraps_u64 n a b) 1 (by decide) x h0 h1
theorem or_u64 (x y : Int) : 0 ≤ bits .or .u64 x y ∧ bits .or .u64 x y < 18446744073709551616 := by
  have : bits .or .u64 x y = IntKind.u64.wrap ((BitVec.ofInt 64 x ||| BitVec.ofInt 64 y).toNat : Int) := rfl
  rw [this, IntKind.wrap_u64]
  omega
theorem number_end (u : Int) (h0 : 0 ≤ u) (h1 : u < 18446744073709551616) : (if (bits .and .u64 u 1) = 1 then bits .xor .i64 (-1) (wrap64 (u / 2)) else wrap64 (u / 2)) = (if (Int.tmod u 2) = 1 then wrap64 ((wrap64 (-(wrap64 (IntKind.u64.wrap (Int.tdiv u 2))))) - 1) else wrap64 (IntKind.u64.wrap (Int.tdiv u 2))) := by
  have ht : Int.tdiv u 2 = u / 2 := Int.tdiv_eq_ediv_of_nonneg h0
  have hm : Int.tmod u 2 = u % 2 := Int.tmod_eq_emod_of_nonneg h0
  have hw : wrap64 (u / 2) = u / 2 := w64 (by omega) (by omega)
  rw [and1 u h0 h1, ht, hm, wraps_u64 (u / 2) (by omega) (by omega), hw]
  obtain ⟨n, hn⟩ := Int.eq_ofNat_of_zero_le (show 0 ≤ u / 2 by omega)
  rw [hn, i64_not n (by omega), w64 (n := -(n : Int)) (by omega) (by omega), w64 (n := -(n : Int) - 1) (by omega) (by omega)]
  by_cases c : u % 2 = 1
  · rw [if_pos c, if_pos c]; omega
  · rw [if_neg c, if_neg c]
theorem reader_round (l : List Int) (hl : l.length ≤ 4294967296) (a i : Nat) (hi : i < 10) (x u u' F : Int) (hx : 0 ≤ x ∧ x < 256) (hoct : wr_octet.f l ((a + i : Nat) : Int) false = some (x, ((a + i + 1 : Nat) : Int), false))
    (hu' : Aside0 (u' = bits .or .u64 u (shl .u64 (x % 128) ((7 * i : Nat) : Int)))) (hu'b : 0 ≤ u' ∧ u' < 18446744073709551616) (hF : Aside0 (F = (if (Int.tmod u' 2) = 1 then wrap64 ((wrap64 (-(wrap64 (IntKind.u64.wrap (Int.tdiv u' 2))))) - 1) else wrap64 (IntKind.u64.wrap (Int.tdiv u' 2))))) (k : Nat) (hk : 3 ≤ k) :
    wr_number.l0 k u ((7 * i : Nat) : Int) l ((a + i : Nat) : Int) false = if (i = 9 ∧ 1 < x) ∨ (0 < i ∧ x = 0) then some (0, ((a + i + 1 : Nat) : Int), true) else if x < 128 then some (F, ((a + i + 1 : Nat) : Int), false) else wr_number.l0 (k - 3) u' ((7 * (i + 1) : Nat) : Int) l ((a + i + 1 : Nat) : Int) false := by
  have hs7 : wrap64 (((7 * i : Nat) : Int) + 7) = ((7 * (i + 1) : Nat) : Int) := by rw [w64 (by omega) (by omega)]; omega
  have hxa := Aside0.mk (show IntKind.u64.wrap (bits .and .u8 x 127) = x % 128 by rw [and127 x hx.1 hx.2, wraps_u64 _ (by omega) (by omega)])
  obtain ⟨k, rfl⟩ : ∃ m, k = m + 1 + 1 + 1 := ⟨k - 3, by omega⟩
  have hj2 : ∀ b, wr_number.j2 (k + 1) u ((7 * i : Nat) : Int) x l ((a + i + 1 : Nat) : Int) b = if b = true then some (0, ((a + i + 1 : Nat) : Int), true) else if x < 128 then some (F, ((a + i + 1 : Nat) : Int), false) else wr_number.l0 k u' ((7 * (i + 1) : Nat) : Int) l ((a + i + 1 : Nat) : Int) false := fun b => by
    simp only [wr_number.j2]
    cases b with
    | true => rw [if_pos rfl, if_pos rfl]
    | false =>
      simp only [Bool.false_eq_true, if_false]
      rw [if_pos (by omega), hxa.out, ← hu'.out, hs7]
      by_cases c : x < 128
      · rw [if_pos c, if_pos c, hF.out, ← number_end u' hu'b.1 hu'b.2]
        by_cases c1 : bits .and .u64 u' 1 = 1
        · rw [if_pos c1, if_pos c1]
        · rw [if_neg c1, if_neg c1]
      · rw [if_neg c, if_neg c]
  have hj1 : ∀ c, wr_number.j1 (k + 1 + 1) u ((7 * i : Nat) : Int) x c l ((a + i + 1 : Nat) : Int) false = wr_number.j2 (k + 1) u ((7 * i : Nat) : Int) x l ((a + i + 1 : Nat) : Int) c := fun c => by
    simp only [wr_number.j1]
    cases c with
    | true => rw [if_pos rfl]
    | false => rw [if_neg (by decide)]
  simp only [wr_number.l0, hoct, Option.bind_some, hj1]
  rw [show k + 1 + 1 + 1 - 3 = k by omega]
  by_cases c9 : i = 9
  · rw [if_pos (by omega)]
    by_cases c1 : 1 < x
    · rw [if_pos c1, hj2, if_pos rfl, if_pos (by omega)]
    · rw [if_neg c1, if_pos (by omega), hj2]
      by_cases c0 : x = 0
      · rw [if_pos (by rw [c0]; rfl), if_pos (by omega)]
      · rw [if_neg (by simpa using c0), if_neg (show ¬ ((i = 9 ∧ 1 < x) ∨ (0 < i ∧ x = 0)) by omega)]
  · rw [if_neg (by omega)]
    by_cases c2 : 0 < i
    · rw [if_pos (by omega), hj2]
      by_cases c0 : x = 0
      · rw [if_pos (by rw [c0]; rfl), if_pos (by omega)]
      · rw [if_neg (by simpa using c0), if_neg (show ¬ ((i = 9 ∧ 1 < x) ∨ (0 < i ∧ x = 0)) by omega)]
    · rw [if_neg (by omega), hj2, if_neg (by decide), if_neg (show ¬ ((i = 9 ∧ 1 < x) ∨ (0 < i ∧ x = 0)) by omega)]
theorem ref_round (l : List Int) (hl : l.length ≤ 4294967296) (p i : Nat) (hi : i < 10) (hend : p + i < l.length) (x u u' F : Int) (hx : 0 ≤ x ∧ x < 256) (hxd : Aside0 (rd l ((p + i : Nat) : Int) = x))
    (hu' : Aside0 (u' = bits .or .u64 u (shl .u64 (x % 128) ((7 * i : Nat) : Int)))) (hu'b : 0 ≤ u' ∧ u' < 18446744073709551616) (hF : Aside0 (F = (if (Int.tmod u' 2) = 1 then wrap64 ((wrap64 (-(wrap64 (IntKind.u64.wrap (Int.tdiv u' 2))))) - 1) else wrap64 (IntKind.u64.wrap (Int.tdiv u' 2))))) (k' : Nat) (hk : 4 ≤ k') :
    r9_GetInt.l0 k' l (p : Int) u (i : Int) = if (i = 9 ∧ 1 < x) ∨ (0 < i ∧ x = 0) then some (0, 0, 13) else if x < 128 then some (F, ((p + i + 1 : Nat) : Int), 0) else r9_GetInt.l0 (k' - 3) l (p : Int) u' ((i + 1 : Nat) : Int) := by
  have hPi : wrap64 ((p : Int) + (i : Int)) = ((p + i : Nat) : Int) := by rw [w64 (by omega) (by omega)]; omega
  have h7i : wrap64 (7 * (i : Int)) = ((7 * i : Nat) : Int) := by rw [w64 (by omega) (by omega)]; omega
  have hP1 : wrap64 ((wrap64 ((p : Int) + (i : Int))) + 1) = ((p + i + 1 : Nat) : Int) := by rw [hPi, w64 (by omega) (by omega)]; omega
  have hi1 : wrap64 ((i : Int) + 1) = ((i + 1 : Nat) : Int) := by rw [w64 (by omega) (by omega)]; omega
  have hux' := Aside0.mk (wraps_u64 x hx.1 (by omega))
  have hxm := Aside0.mk (show Int.tmod x 128 = x % 128 from Int.tmod_eq_emod_of_nonneg hx.1)
  obtain ⟨k, rfl⟩ : ∃ m, k' = m + 1 + 1 + 1 + 1 := ⟨k' - 4, by omega⟩
  have hj4 : ∀ c, r9_GetInt.j4 (k + 1) (p : Int) u' (i : Int) c = if c = true then some (0, 0, 13) else some (F, ((p + i + 1 : Nat) : Int), 0) := fun c => by
    simp only [r9_GetInt.j4]
    cases c with
    | true => rw [if_pos rfl, if_pos rfl]
    | false =>
      simp only [Bool.false_eq_true, if_false]
      rw [hP1, hF.out]
      by_cases c1 : Int.tmod u' 2 = 1
      · rw [if_pos c1, if_pos c1]
      · rw [if_neg c1, if_neg c1]
  have hj3 : ∀ c, r9_GetInt.j3 (k + 1 + 1) l (p : Int) u (i : Int) x c = if c = true then some (0, 0, 13) else if x < 128 then (if x = 0 ∧ 0 < i then some (0, 0, 13) else some (F, ((p + i + 1 : Nat) : Int), 0)) else r9_GetInt.l0 (k + 1) l (p : Int) u' ((i + 1 : Nat) : Int) := fun c => by
    simp only [r9_GetInt.j3]
    cases c with
    | true => rw [if_pos rfl, if_pos rfl]
    | false =>
      simp only [Bool.false_eq_true, if_false]
      rw [h7i, if_pos (by omega), hxm.out, ← hu'.out, hi1]
      by_cases c : x < 128
      · rw [if_pos c, if_neg (by omega)]
        by_cases c0 : x = 0
        · rw [if_pos c0, hj4]
          by_cases c2 : 0 < i
          · rw [if_pos (decide_eq_true (by omega)), if_pos ⟨c0, c2⟩]
          · rw [if_neg (by simpa using c2), if_neg (fun h => c2 h.2)]
        · rw [if_neg c0, hj4, if_neg (by decide), if_neg (fun h => c0 h.1)]
      · rw [if_neg c, if_pos (by omega)]
  have hj2 : r9_GetInt.j2 (k + 1 + 1 + 1) l (p : Int) u (i : Int) true = if (i = 9 ∧ 1 < x) ∨ (0 < i ∧ x = 0) then some (0, 0, 13) else if x < 128 then some (F, ((p + i + 1 : Nat) : Int), 0) else r9_GetInt.l0 (k + 1) l (p : Int) u' ((i + 1 : Nat) : Int) := by
    simp only [r9_GetInt.j2]
    rw [if_pos trivial, hPi, if_pos (by omega), if_pos (by omega), hxd.out, hux'.out]
    by_cases c9 : i = 9
    · rw [if_pos (by omega), hj3]
      by_cases c1 : 1 < x
      · rw [if_pos (decide_eq_true c1), if_pos (by omega)]
      · rw [if_neg (by simpa using c1), if_pos (by omega)]
        by_cases c0 : x = 0
        · rw [if_pos (by omega), if_pos (by omega)]
        · rw [if_neg (by omega), if_neg (by omega), if_pos (by omega)]
    · rw [if_neg (by omega), hj3, if_neg (by decide)]
      by_cases c : x < 128
      · rw [if_pos c]
        by_cases c0 : x = 0 ∧ 0 < i
        · rw [if_pos c0, if_pos (by omega)]
        · rw [if_neg c0, if_neg (by omega), if_pos c]
      · rw [if_neg c, if_neg (by omega), if_neg c]
  simp only [r9_GetInt.l0]
  rw [if_pos (by omega), hPi, decide_eq_true (by omega : ((p + i : Nat) : Int) < (l.length : Int)), hj2]
  rfl
def NumOk (k : Nat) (l : List Int) (o a : Nat) (x : Option (Int × Int × Bool)) (y : Option (Int × Int × Int)) : Prop :=
  (∃ (n : Int) (a' : Nat), a < a' ∧ o + a' ≤ l.length ∧ y = some (n, ((o + a' : Nat) : Int), 0) ∧ x = some (n, (a' : Int), false)) ∨
  (y = some (0, 0, 13) ∧ ∃ a' : Int, x = some (0, a', true))
set_option maxHeartbeats 1000000 in
theorem number_loop (l : List Int) (hB : Bs l) (hl : l.length ≤ 4294967296) (o a : Nat) (d : Nat) : ∀ (i : Nat) (u : Int) (k k' : Nat), i + d = 10 → i < 10 → o + a + i ≤ l.length → 3 * d + 3 ≤ k → 3 * d + 3 ≤ k' → 0 ≤ u → u < 18446744073709551616 →
    (∃ (n : Int) (a' : Nat), a + i < a' ∧ o + a' ≤ l.length ∧ r9_GetInt.l0 k' l ((o + a : Nat) : Int) u (i : Int) = some (n, ((o + a' : Nat) : Int), 0) ∧ wr_number.l0 k u ((7 * i : Nat) : Int) (l.drop o) ((a + i : Nat) : Int) false = some (n, (a' : Int), false)) ∨
    (r9_GetInt.l0 k' l ((o + a : Nat) : Int) u (i : Int) = some (0, 0, 13) ∧ ∃ a' : Int, wr_number.l0 k u ((7 * i : Nat) : Int) (l.drop o) ((a + i : Nat) : Int) false = some (0, a', true)) := by
  induction d with
  | zero => intro i u k k' h1 h2; omega
  | succ d ih =>
    intro i u k k' hid hi hle hk hk' hu0 hu1
    by_cases hend : o + a + i < l.length
    · have hx := hB.at ((o + a + i : Nat) : Int)
      generalize hxd : rd l ((o + a + i : Nat) : Int) = x at hx
      have hoct : wr_octet.f (l.drop o) ((a + i : Nat) : Int) false = some (x, ((a + i + 1 : Nat) : Int), false) := by
        rw [octet_ok _ _ (by rw [List.length_drop]; omega) (by rw [List.length_drop]; omega), rd_drop, show o + (a + i) = o + a + i by omega, hxd]
      obtain ⟨u', hu'⟩ : ∃ u', u' = bits .or .u64 u (shl .u64 (x % 128) ((7 * i : Nat) : Int)) := ⟨_, rfl⟩
      have hu'b : 0 ≤ u' ∧ u' < 18446744073709551616 := by rw [hu']; exact or_u64 _ _
      rw [reader_round (l.drop o) (by rw [List.length_drop]; omega) a i hi x u u' _ hx hoct ⟨hu'⟩ hu'b ⟨rfl⟩ k (by omega), ref_round l hl (o + a) i hi hend x u u' _ hx ⟨hxd⟩ ⟨hu'⟩ hu'b ⟨rfl⟩ k' (by omega)]
      by_cases cb : (i = 9 ∧ 1 < x) ∨ (0 < i ∧ x = 0)
      · rw [if_pos cb, if_pos cb]; exact .inr ⟨rfl, _, rfl⟩
      · rw [if_neg cb, if_neg cb]
        by_cases c : x < 128
        · rw [if_pos c, if_pos c]; exact .inl ⟨_, a + i + 1, by omega, by omega, by rw [show o + (a + i + 1) = o + a + i + 1 by omega], rfl⟩
        · rw [if_neg c, if_neg c]
          have := ih (i + 1) u' (k - 3) (k' - 3) (by omega) (by omega) (by omega) (by omega) (by omega) hu'b.1 hu'b.2
          rcases this with ⟨n, a', h1, h2, h3, h4⟩ | ⟨h1, a', h2⟩
          · exact .inl ⟨n, a', by omega, h2, h3, h4⟩
          · exact .inr ⟨h1, a', h2⟩
    · refine .inr ⟨?_, ((a + i : Nat) : Int), ?_⟩
      · obtain ⟨k, rfl⟩ : ∃ m, k' = m + 1 + 1 := ⟨k' - 2, by omega⟩
        simp only [r9_GetInt.l0]
        rw [if_pos (by omega), w64 (by omega) (by omega), decide_eq_false (by omega : ¬ ((o + a : Nat) : Int) + (i : Int) < (l.length : Int))]
        simp only [r9_GetInt.j2]
        rw [if_neg (by decide)]
      · exact number_bad _ _ _ _ (octet_end _ _ (by rw [List.length_drop]; omega)) _ _ (by omega) _ (by omega)
theorem w64n {n : Int} {m : Nat} (h : n = (m : Int)) (hm : m < 9223372036854775808) : wrap64 n = (m : Int) := by rw [w64 (by omega) (by omega), h]
theorem numberF_bad (k : Nat) (hk : 40 ≤ k) (l : List Int) (a : Int) : wr_number.f k l a true = some (0, a, true) := number_bad l a a true (octet_bad l a) 0 0 (by omega) k (by omega)
theorem intsF_bad (k : Nat) (hk : 40 ≤ k) (l : List Int) (a : Int) : wire_list_int.f k l a true = some ([], a, true) := by
  obtain ⟨k, rfl⟩ : ∃ m, k = m + 1 := ⟨k - 1, by omega⟩
  unfold wire_list_int.f
  rw [numberF_bad _ hk]
  simp only [Option.bind_some, if_true, wire_list_int.j0]
theorem textF_bad (k : Nat) (hk : 40 ≤ k) (l : List Int) (a : Int) : wr_text.f k l a true = some (⟨#[]⟩, a, true) := by
  unfold wr_text.f
  rw [numberF_bad _ hk]
  simp only [Option.bind_some, if_true]
theorem flagF_bad (l : List Int) (a : Int) : wr_flag.f l a true = some (false, a, true) := by
  unfold wr_flag.f
  rw [octet_bad]
  rfl
theorem cellsF_bad (k : Nat) (hk : 40 ≤ k) (l : List Int) (a : Int) : api_Cell.f k l a true = some ([], a, true) := by
  obtain ⟨k, rfl⟩ : ∃ m, k = m + 1 := ⟨k - 1, by omega⟩
  unfold api_Cell.f
  rw [numberF_bad _ hk]
  simp only [Option.bind_some, if_true, api_Cell.j0]
theorem number_agree (l : List Int) (hB : Bs l) (hl : l.length ≤ 4294967296) (o a : Nat) (h : o + a ≤ l.length) (k k' : Nat) (hk : 40 ≤ k) (hk' : 40 ≤ k') :
    NumOk k l o a (wr_number.f k (l.drop o) (a : Int) false) (r9_GetInt.f k' l ((o + a : Nat) : Int)) := by
  obtain ⟨k', rfl⟩ : ∃ m, k' = m + 1 := ⟨k' - 1, by omega⟩
  have hg : r9_GetInt.f (k' + 1) l ((o + a : Nat) : Int) = r9_GetInt.l0 k' l ((o + a : Nat) : Int) 0 0 := by
    unfold r9_GetInt.f
    rw [if_neg (by omega), decide_eq_false (by omega)]
    simp only [r9_GetInt.j0, Bool.false_eq_true, if_false]
  rw [hg]
  exact number_loop l hB hl o a 10 0 0 k k' (by omega) (by omega) (by omega) (by omega) (by omega) (by omega) (by omega)
theorem count_agree (l : List Int) (hB : Bs l) (hl : l.length ≤ 4294967296) (o a : Nat) (h : o + a ≤ l.length) (k k' : Nat) (hk : 40 ≤ k) (hk' : 40 ≤ k') :
    (∃ (n a' : Nat), a < a' ∧ o + a' + n ≤ l.length ∧ r9_Count.f k' l ((o + a : Nat) : Int) = some ((n : Int), ((o + a' : Nat) : Int), 0) ∧ wr_number.f k (l.drop o) (a : Int) false = some ((n : Int), (a' : Int), false)) ∨
    (r9_Count.f k' l ((o + a : Nat) : Int) = some (0, 0, 13) ∧ ∃ (n a' : Int) (b : Bool), wr_number.f k (l.drop o) (a : Int) false = some (n, a', b) ∧ (b = true ∨ n < 0 ∨ (wrap64 (((l.drop o).length : Int) - a')) < n)) := by
  unfold r9_Count.f
  rcases number_agree l hB hl o a h k k' hk hk' with ⟨n, a', h1, h2, h3, h4⟩ | ⟨h1, a', h2⟩
  · rw [h3, h4]
    simp only [Option.bind_some]
    rw [if_pos trivial]
    have e1 : wrap64 ((l.length : Int) - ((o + a' : Nat) : Int)) = ((l.length - (o + a') : Nat) : Int) := by rw [w64 (by omega) (by omega)]; omega
    have e2 : wrap64 (((l.drop o).length : Int) - (a' : Int)) = ((l.length - (o + a') : Nat) : Int) := by rw [List.length_drop, w64 (by omega) (by omega)]; omega
    rw [e1]
    by_cases c : n < 0
    · rw [if_pos c]; exact .inr ⟨rfl, n, a', false, rfl, .inr (.inl c)⟩
    · rw [if_neg c]
      by_cases c2 : n > ((l.length - (o + a') : Nat) : Int)
      · rw [if_pos c2]; exact .inr ⟨rfl, n, a', false, rfl, .inr (.inr (by rw [e2]; exact c2))⟩
      · rw [if_neg c2]
        obtain ⟨m, rfl⟩ := Int.eq_ofNat_of_zero_le (show 0 ≤ n by omega)
        exact .inl ⟨m, a', h1, by omega, rfl, rfl⟩
  · rw [h1, h2]
    simp only [Option.bind_some]
    rw [if_neg (by decide)]
    exact .inr ⟨rfl, 0, a', true, rfl, .inl rfl⟩
theorem ints_loop (l : List Int) (hB : Bs l) (hl : l.length ≤ 1000000) (o n : Nat) (hn : n ≤ 1000000) (d : Nat) : ∀ (a i : Nat) (acc : List Int) (k k' : Nat), i + d = n → acc.length = i → o + a ≤ l.length → d + 42 ≤ k → d + 42 ≤ k' →
    (∃ (v : List Int) (a' : Nat), a ≤ a' ∧ o + a' ≤ l.length ∧ v.length = n ∧ r9_GetInts.l0 k' l (n : Int) ((o + a : Nat) : Int) 0 acc (i : Int) = some (v, ((o + a' : Nat) : Int), 0) ∧ wire_list_int.l0 k (n : Int) acc (i : Int) (l.drop o) (a : Int) false = some (v, (a' : Int), false)) ∨
    (∃ (v : List Int) (q : Int) (v' : List Int) (a' : Int), r9_GetInts.l0 k' l (n : Int) ((o + a : Nat) : Int) 0 acc (i : Int) = some (v, q, 13) ∧ wire_list_int.l0 k (n : Int) acc (i : Int) (l.drop o) (a : Int) false = some (v', a', true)) := by
  induction d with
  | zero =>
    intro a i acc k k' hid hac hle hk hk'
    obtain ⟨k, rfl⟩ : ∃ m, k = m + 1 := ⟨k - 1, by omega⟩
    obtain ⟨k', rfl⟩ : ∃ m, k' = m + 1 := ⟨k' - 1, by omega⟩
    refine .inl ⟨acc, a, Nat.le_refl _, hle, by omega, ?_, ?_⟩
    · simp only [r9_GetInts.l0]; rw [if_neg (by omega)]
    · simp only [wire_list_int.l0]; rw [if_neg (by omega)]
  | succ d ih =>
    intro a i acc k k' hid hac hle hk hk'
    obtain ⟨k, rfl⟩ : ∃ m, k = m + 1 := ⟨k - 1, by omega⟩
    obtain ⟨k', rfl⟩ : ∃ m, k' = m + 1 := ⟨k' - 1, by omega⟩
    have hi1 : wrap64 ((i : Int) + 1) = ((i + 1 : Nat) : Int) := by rw [w64 (by omega) (by omega)]; omega
    simp only [r9_GetInts.l0, wire_list_int.l0, Bool.false_eq_true, if_false, if_true]
    rw [if_pos (show (i : Int) < (n : Int) by omega), if_pos (show (i : Int) < (n : Int) by omega), hi1]
    have hacc : acc.length < 17592186044416 := by omega
    simp only [if_pos hacc]
    rcases number_agree l hB (by omega) o a hle k k' (by omega) (by omega) with ⟨n1, a1, h1, h2, h3, h4⟩ | ⟨h1, a1, h2⟩
    · rw [h3, h4]
      simp only [Option.bind_some]
      rcases ih a1 (i + 1) (acc ++ [n1]) k k' (by omega) (by rw [List.length_append, hac]; rfl) h2 (by omega) (by omega) with ⟨v, a', g1, g2, g3, g4, g5⟩ | ⟨v, q, v', a', g1, g2⟩
      · exact .inl ⟨v, a', by omega, g2, g3, g4, g5⟩
      · exact .inr ⟨v, q, v', a', g1, g2⟩
    · rw [h1, h2]
      simp only [Option.bind_some]
      obtain ⟨k, rfl⟩ : ∃ m, k = m + 1 := ⟨k - 1, by omega⟩
      obtain ⟨k', rfl⟩ : ∃ m, k' = m + 1 := ⟨k' - 1, by omega⟩
      refine .inr ⟨acc ++ [0], 0, acc ++ [0], a1, ?_, ?_⟩
      · simp only [r9_GetInts.l0]
        by_cases c : ((i + 1 : Nat) : Int) < (n : Int)
        · rw [if_pos c, if_neg (by decide)]
        · rw [if_neg c]
      · simp only [wire_list_int.l0, if_true]
        rw [ite_self]
theorem ints_agree (l : List Int) (hB : Bs l) (hl : l.length ≤ 1000000) (o a : Nat) (h : o + a ≤ l.length) (k k' : Nat) (hk : l.length + 50 ≤ k) (hk' : l.length + 50 ≤ k') :
    (∃ (v : List Int) (a' : Nat), a < a' ∧ o + a' ≤ l.length ∧ v.length ≤ l.length ∧ r9_GetInts.f k' l ((o + a : Nat) : Int) = some (v, ((o + a' : Nat) : Int), 0) ∧ wire_list_int.f k (l.drop o) (a : Int) false = some (v, (a' : Int), false)) ∨
    (∃ (v : List Int) (q : Int) (v' : List Int) (a' : Int), r9_GetInts.f k' l ((o + a : Nat) : Int) = some (v, q, 13) ∧ wire_list_int.f k (l.drop o) (a : Int) false = some (v', a', true)) := by
  unfold r9_GetInts.f wire_list_int.f
  rcases count_agree l hB (by omega) o a h k k' (by omega) (by omega) with ⟨n, a1, h1, h2, h3, h4⟩ | ⟨h1, n, a1, b, h2, h3⟩
  · rw [h3, h4]
    simp only [Option.bind_some, Bool.false_eq_true, if_false]
    have e2 : wrap64 (((l.drop o).length : Int) - (a1 : Int)) = ((l.length - (o + a1) : Nat) : Int) := by rw [List.length_drop, w64 (by omega) (by omega)]; omega
    rw [if_neg (by omega), e2, decide_eq_false (by omega)]
    obtain ⟨k, rfl⟩ : ∃ m, k = m + 1 := ⟨k - 1, by omega⟩
    simp only [wire_list_int.j0, Bool.false_eq_true, if_false]
    rcases ints_loop l hB hl o n (by omega) n a1 0 [] k k' (by omega) rfl (by omega) (by omega) (by omega) with ⟨v, a', g1, g2, g3, g4, g5⟩ | ⟨v, q, v', a', g1, g2⟩
    · exact .inl ⟨v, a', by omega, g2, by omega, g4, g5⟩
    · exact .inr ⟨v, q, v', a', g1, g2⟩
  · rw [h1, h2]
    obtain ⟨k, rfl⟩ : ∃ m, k = m + 1 := ⟨k - 1, by omega⟩
    obtain ⟨k', rfl⟩ : ∃ m, k' = m + 1 := ⟨k' - 1, by omega⟩
    simp only [Option.bind_some]
    have hj : ∀ (x a : Int) (b : Bool), wire_list_int.j0 (k + 1) x true (l.drop o) a b = some ([], a, true) := fun x a b => by simp only [wire_list_int.j0, if_true]
    refine .inr ⟨[], 0, [], a1, ?_, ?_⟩
    · simp only [r9_GetInts.l0]
      rw [if_neg (by decide)]
    · cases b with
      | true => simp only [if_true, hj]
      | false =>
        simp only [Bool.false_eq_true, if_false, false_or] at h3 ⊢
        by_cases c : n < 0
        · rw [if_pos c, hj]
        · rw [if_neg c, decide_eq_true (h3.resolve_left c), hj]
theorem text_agree (l : List Int) (hB : Bs l) (hl : l.length ≤ 1000000) (o a : Nat) (h : o + a ≤ l.length) (k k' : Nat) (hk : 40 ≤ k) (hk' : 40 ≤ k') :
    (∃ (v : ByteArray) (a' : Nat), a < a' ∧ o + a' ≤ l.length ∧ r9_GetText.f k' l ((o + a : Nat) : Int) = some (v, ((o + a' : Nat) : Int), 0) ∧ wr_text.f k (l.drop o) (a : Int) false = some (v, (a' : Int), false)) ∨
    (∃ (v : ByteArray) (q : Int) (v' : ByteArray) (a' : Int), r9_GetText.f k' l ((o + a : Nat) : Int) = some (v, q, 13) ∧ wr_text.f k (l.drop o) (a : Int) false = some (v', a', true)) := by
  unfold r9_GetText.f wr_text.f
  rcases number_agree l hB (by omega) o a h k k' hk hk' with ⟨n, a', h1, h2, h3, h4⟩ | ⟨h1, a', h2⟩
  · rw [h3, h4]
    simp only [Option.bind_some, Bool.false_eq_true, if_false, if_true]
    have e1 := Aside0.mk (w64n (n := (l.length : Int) - ((o + a' : Nat) : Int)) (m := l.length - (o + a')) (by omega) (by omega))
    have e2 := Aside0.mk (w64n (n := ((l.drop o).length : Int) - (a' : Int)) (m := l.length - (o + a')) (by rw [List.length_drop]; omega) (by omega))
    rw [e1.out, e2.out]
    by_cases c : n < 0
    · rw [if_pos c, if_pos c]; exact .inr ⟨_, _, _, _, rfl, rfl⟩
    · rw [if_neg c, if_neg c]
      by_cases c2 : n > ((l.length - (o + a') : Nat) : Int)
      · rw [if_pos c2, if_pos c2]; exact .inr ⟨_, _, _, _, rfl, rfl⟩
      · rw [if_neg c2, if_neg c2]
        obtain ⟨m, rfl⟩ := Int.eq_ofNat_of_zero_le (show 0 ≤ n by omega)
        have f1 := Aside0.mk (w64n (n := (a' : Int) + (m : Int)) (m := a' + m) (by omega) (by omega))
        have f2 := Aside0.mk (w64n (n := ((a' + m : Nat) : Int) - (m : Int)) (m := a') (by omega) (by omega))
        have f3 := Aside0.mk (w64n (n := ((o + a' : Nat) : Int) + (m : Int)) (m := o + (a' + m)) (by omega) (by omega))
        have hlen : (l.drop o).length = l.length - o := List.length_drop
        rw [f1.out, f2.out, f3.out, if_pos (by omega), if_pos (by omega), if_pos (by omega), if_pos (by omega), if_pos (by omega), if_pos (by omega)]
        refine .inl ⟨_, a' + m, by omega, by omega, rfl, ?_⟩
        have e : ((l.drop o).take (((a' + m : Nat) : Int)).toNat).drop ((a' : Int)).toNat = (l.take (((o + (a' + m) : Nat) : Int)).toNat).drop (((o + a' : Nat) : Int)).toNat := by
          simp only [Int.toNat_natCast]
          rw [List.take_drop, List.drop_drop]
        rw [e]
  · rw [h1, h2]
    simp only [Option.bind_some, if_true]
    rw [if_neg (by decide)]
    exact .inr ⟨_, _, _, _, rfl, rfl⟩
theorem flag_ok (l : List Int) (hl : l.length ≤ 4294967296) (o a : Nat) (h : o + a < l.length) : wr_flag.f (l.drop o) (a : Int) false = some ((rd l ((o + a : Nat) : Int) == 1), ((a + 1 : Nat) : Int), decide (rd l ((o + a : Nat) : Int) > 1)) := by
  unfold wr_flag.f
  rw [octet_ok _ _ (by rw [List.length_drop]; omega) (by rw [List.length_drop]; omega), rd_drop]
  simp only [Option.bind_some]
  by_cases c : rd l ((o + a : Nat) : Int) > 1
  · rw [if_pos c, decide_eq_true c]
  · rw [if_neg c, decide_eq_false c]
theorem flag_end (l : List Int) (o a : Nat) (h : l.length ≤ o + a) : wr_flag.f (l.drop o) (a : Int) false = some (false, (a : Int), true) := by
  unfold wr_flag.f
  rw [octet_end _ _ (by rw [List.length_drop]; omega)]
  rfl
theorem cell_agree (l : List Int) (hB : Bs l) (hl : l.length ≤ 1000000) (o a : Nat) (h : o + a ≤ l.length) (k k' : Nat) (hk : 50 ≤ k) (hk' : 50 ≤ k') :
    (∃ (x0 x1 x2 : Int) (x3 : Bool) (x4 : ByteArray) (x5 : Int) (a' : Nat), a < a' ∧ o + a' ≤ l.length ∧ r9_getCell.f k' l ((o + a : Nat) : Int) = some (x0, x1, x2, x3, x4, x5, ((o + a' : Nat) : Int), 0) ∧ wr_write.f k (l.drop o) (a : Int) false = some (x0, x1, x2, x3, x4, x5, (a' : Int), false)) ∨
    (∃ (x0 x1 x2 : Int) (x3 : Bool) (x4 : ByteArray) (x5 q : Int) (y0 y1 y2 : Int) (y3 : Bool) (y4 : ByteArray) (y5 a' : Int), r9_getCell.f k' l ((o + a : Nat) : Int) = some (x0, x1, x2, x3, x4, x5, q, 13) ∧ wr_write.f k (l.drop o) (a : Int) false = some (y0, y1, y2, y3, y4, y5, a', true)) := by
  have nb := numberF_bad k (by omega) (l.drop o)
  have tb := textF_bad k (by omega) (l.drop o)
  have fb := flagF_bad (l.drop o)
  have n13 : ¬ ((13 : Int) = 0) := by decide
  unfold r9_getCell.f wr_write.f
  rcases number_agree l hB (by omega) o a h k k' (by omega) (by omega) with ⟨n0, a0, h1, h2, h3, h4⟩ | ⟨h1, a0, h2⟩
  rotate_left
  · simp only [h1, h2, nb, tb, fb, Option.bind_some, if_neg n13]
    exact .inr ⟨_, _, _, _, _, _, _, _, _, _, _, _, _, _, rfl, rfl⟩
  simp only [h3, h4, Option.bind_some, if_true]
  rcases number_agree l hB (by omega) o a0 h2 k k' (by omega) (by omega) with ⟨n1, a1, h1', h2', h3', h4'⟩ | ⟨h1', a1, h2'⟩
  rotate_left
  · simp only [h1', h2', nb, tb, fb, Option.bind_some, if_neg n13]
    exact .inr ⟨_, _, _, _, _, _, _, _, _, _, _, _, _, _, rfl, rfl⟩
  simp only [h3', h4', Option.bind_some, if_true]
  rcases number_agree l hB (by omega) o a1 h2' k k' (by omega) (by omega) with ⟨n2, a2, g1, g2, g3, g4⟩ | ⟨g1, a2, g2⟩
  rotate_left
  · simp only [g1, g2, nb, tb, fb, Option.bind_some, if_neg n13]
    exact .inr ⟨_, _, _, _, _, _, _, _, _, _, _, _, _, _, rfl, rfl⟩
  simp only [g3, g4, Option.bind_some, if_true]
  obtain ⟨m, hm⟩ : ∃ m, k' = m + 1 := ⟨k' - 1, by omega⟩
  have hj : ∀ (p y0 y1 y2 y5 : Int) (y3 : Bool) (y4 : ByteArray), r9_getCell.j0 k' l p true y0 y1 y2 y3 y4 y5 = some (y0, y1, y2, y3, y4, y5, 0, 13) := fun p y0 y1 y2 y5 y3 y4 => by rw [hm]; simp only [r9_getCell.j0, if_true]
  by_cases c : o + a2 < l.length
  · rw [if_neg (by omega), if_pos (by omega), if_pos (by omega), flag_ok l (by omega) o a2 c]
    simp only [Option.bind_some]
    by_cases c1 : rd l ((o + a2 : Nat) : Int) > 1
    · rw [decide_eq_true c1, hj]
      simp only [nb, tb, Option.bind_some]
      exact .inr ⟨_, _, _, _, _, _, _, _, _, _, _, _, _, _, rfl, rfl⟩
    · rw [decide_eq_false c1]
      have hjf : r9_getCell.j0 k' l ((o + a2 : Nat) : Int) false n0 n1 n2 false ⟨#[]⟩ 0 = ((r9_GetText.f m l ((o + (a2 + 1) : Nat) : Int)).bind fun bt261 => (if bt261.2.2 = 0 then ((r9_GetInt.f m l bt261.2.1).bind fun bt264 => (some (n0, n1, n2, ((rd l ((o + a2 : Nat) : Int)) == 1), bt261.1, bt264.1, bt264.2.1, bt264.2.2))) else (some (n0, n1, n2, ((rd l ((o + a2 : Nat) : Int)) == 1), bt261.1, 0, 0, bt261.2.2)))) := by
        have e := Aside0.mk (w64n (n := ((o + a2 : Nat) : Int) + 1) (m := o + (a2 + 1)) (by omega) (by omega))
        rw [hm]
        simp only [r9_getCell.j0, Bool.false_eq_true, if_false]
        rw [if_pos (by omega), if_pos (by omega), e.out]
      rw [hjf]
      rcases text_agree l hB hl o (a2 + 1) (by omega) k m (by omega) (by omega) with ⟨v, a3, t1, t2, t3, t4⟩ | ⟨v, q, v', a3, t1, t2⟩
      · simp only [t3, t4, Option.bind_some, if_true]
        rcases number_agree l hB (by omega) o a3 t2 k m (by omega) (by omega) with ⟨n5, a5, q1, q2, q3, q4⟩ | ⟨q1, a5, q2⟩
        · simp only [q3, q4, Option.bind_some]
          exact .inl ⟨_, _, _, _, _, _, a5, by omega, q2, rfl, rfl⟩
        · simp only [q1, q2, Option.bind_some]
          exact .inr ⟨_, _, _, _, _, _, _, _, _, _, _, _, _, _, rfl, rfl⟩
      · simp only [t1, t2, nb, Option.bind_some, if_neg n13]
        exact .inr ⟨_, _, _, _, _, _, _, _, _, _, _, _, _, _, rfl, rfl⟩
  · rw [if_pos (by omega), hj, flag_end l o a2 (by omega)]
    simp only [nb, tb, Option.bind_some]
    exact .inr ⟨_, _, _, _, _, _, _, _, _, _, _, _, _, _, rfl, rfl⟩
theorem cells_loop (l : List Int) (hB : Bs l) (hl : l.length ≤ 1000000) (o n : Nat) (hn : n ≤ 1000000) (s : Int) (pa pi : List Int) (no : ByteArray) (d : Nat) : ∀ (a i : Nat) (acc : List S110) (k k' : Nat), i + d = n → acc.length = i → o + a ≤ l.length → d + 52 ≤ k → d + 52 ≤ k' →
    (∃ (v : List S110) (a' : Nat), a ≤ a' ∧ o + a' ≤ l.length ∧ v.length = n ∧ r9_GetCommit.l0 k' l ((o + a : Nat) : Int) (n : Int) (i : Int) s pa pi no acc = some (s, pa, pi, no, v, ((o + a' : Nat) : Int), 0) ∧ api_Cell.l0 k (n : Int) acc (i : Int) (l.drop o) (a : Int) false = some (v, (a' : Int), false)) ∨
    (∃ (v' : List S110) (a' : Int), r9_GetCommit.l0 k' l ((o + a : Nat) : Int) (n : Int) (i : Int) s pa pi no acc = some (0, [], [], ⟨#[]⟩, [], 0, 13) ∧ api_Cell.l0 k (n : Int) acc (i : Int) (l.drop o) (a : Int) false = some (v', a', true)) := by
  induction d with
  | zero =>
    intro a i acc k k' hid hac hle hk hk'
    obtain ⟨k, rfl⟩ : ∃ m, k = m + 1 := ⟨k - 1, by omega⟩
    obtain ⟨k', rfl⟩ : ∃ m, k' = m + 1 := ⟨k' - 1, by omega⟩
    refine .inl ⟨acc, a, Nat.le_refl _, hle, by omega, ?_, ?_⟩
    · simp only [r9_GetCommit.l0]; rw [if_neg (by omega)]
    · simp only [api_Cell.l0]; rw [if_neg (by omega)]
  | succ d ih =>
    intro a i acc k k' hid hac hle hk hk'
    obtain ⟨k, rfl⟩ : ∃ m, k = m + 1 := ⟨k - 1, by omega⟩
    obtain ⟨k', rfl⟩ : ∃ m, k' = m + 1 := ⟨k' - 1, by omega⟩
    have hi1 := Aside0.mk (w64n (n := (i : Int) + 1) (m := i + 1) (by omega) (by omega))
    have n13 : ¬ ((13 : Int) = 0) := by decide
    have hacc : acc.length < 2513169434916 := by omega
    simp only [r9_GetCommit.l0, api_Cell.l0, Bool.false_eq_true, if_false, if_true]
    rw [if_pos (show (i : Int) < (n : Int) by omega), if_pos (show (i : Int) < (n : Int) by omega), hi1.out]
    simp only [if_pos hacc]
    rcases cell_agree l hB hl o a hle k k' (by omega) (by omega) with ⟨x0, x1, x2, x3, x4, x5, a1, h1, h2, h3, h4⟩ | ⟨x0, x1, x2, x3, x4, x5, q, y0, y1, y2, y3, y4, y5, a1, h1, h2⟩
    · simp only [h3, h4, Option.bind_some, if_true]
      rcases ih a1 (i + 1) (acc ++ [⟨x0, x1, ⟨x2, x3, x4, x5⟩⟩]) k k' (by omega) (by rw [List.length_append, hac]; rfl) h2 (by omega) (by omega) with ⟨v, a', g1, g2, g3, g4, g5⟩ | ⟨v', a', g1, g2⟩
      · exact .inl ⟨v, a', by omega, g2, g3, g4, g5⟩
      · exact .inr ⟨v', a', g1, g2⟩
    · simp only [h1, h2, Option.bind_some, if_neg n13]
      obtain ⟨k, rfl⟩ : ∃ m, k = m + 1 := ⟨k - 1, by omega⟩
      refine .inr ⟨acc ++ [⟨y0, y1, ⟨y2, y3, y4, y5⟩⟩], a1, by trivial, ?_⟩
      simp only [api_Cell.l0, if_true]
      rw [ite_self]
theorem commit_agree (l : List Int) (hB : Bs l) (hl : l.length ≤ 1000000) (o a : Nat) (h : o + a ≤ l.length) (k k' : Nat) (hk : l.length + 60 ≤ k) (hk' : l.length + 60 ≤ k') :
    (∃ (x0 : Int) (x1 x2 : List Int) (x3 : ByteArray) (x4 : List S110) (a' : Nat), a < a' ∧ o + a' ≤ l.length ∧ (x1.length ≤ l.length ∧ x2.length ≤ l.length ∧ x4.length ≤ l.length) ∧ r9_GetCommit.f k' l ((o + a : Nat) : Int) = some (x0, x1, x2, x3, x4, ((o + a' : Nat) : Int), 0) ∧ wr_commit.f k (l.drop o) (a : Int) false = some (x0, x1, x2, x3, x4, (a' : Int), false)) ∨
    (∃ (x0 : Int) (x1 x2 : List Int) (x3 : ByteArray) (x4 : List S110) (a' : Int), r9_GetCommit.f k' l ((o + a : Nat) : Int) = some (0, [], [], ⟨#[]⟩, [], 0, 13) ∧ wr_commit.f k (l.drop o) (a : Int) false = some (x0, x1, x2, x3, x4, a', true)) := by
  have ib := intsF_bad k (by omega) (l.drop o)
  have tb := textF_bad k (by omega) (l.drop o)
  have cb := cellsF_bad k (by omega) (l.drop o)
  have n13 : ¬ ((13 : Int) = 0) := by decide
  unfold r9_GetCommit.f wr_commit.f
  rcases number_agree l hB (by omega) o a h k k' (by omega) (by omega) with ⟨n0, a0, h1, h2, h3, h4⟩ | ⟨h1, a0, h2⟩
  rotate_left
  · simp only [h1, h2, ib, tb, cb, Option.bind_some, if_neg n13]
    exact .inr ⟨_, _, _, _, _, _, by trivial, rfl⟩
  simp only [h3, h4, Option.bind_some, if_true]
  rcases ints_agree l hB hl o a0 h2 k k' (by omega) (by omega) with ⟨v1, a1, i1, i2, i3, i4, i5⟩ | ⟨v, q, v', a1, i1, i2⟩
  rotate_left
  · simp only [i1, i2, ib, tb, cb, Option.bind_some, if_neg n13]
    exact .inr ⟨_, _, _, _, _, _, by trivial, rfl⟩
  simp only [i4, i5, Option.bind_some, if_true]
  rcases ints_agree l hB hl o a1 i2 k k' (by omega) (by omega) with ⟨v2, a2, j1, j2, j3, j4, j5⟩ | ⟨v, q, v', a2, j1, j2⟩
  rotate_left
  · simp only [j1, j2, tb, cb, Option.bind_some, if_neg n13]
    exact .inr ⟨_, _, _, _, _, _, by trivial, rfl⟩
  simp only [j4, j5, Option.bind_some, if_true]
  rcases text_agree l hB hl o a2 j2 k k' (by omega) (by omega) with ⟨v3, a3, t1, t2, t3, t4⟩ | ⟨v, q, v', a3, t1, t2⟩
  rotate_left
  · simp only [t1, t2, cb, Option.bind_some, if_neg n13]
    exact .inr ⟨_, _, _, _, _, _, by trivial, rfl⟩
  simp only [t3, t4, Option.bind_some, if_true]
  unfold api_Cell.f
  rcases count_agree l hB (by omega) o a3 t2 k k' (by omega) (by omega) with ⟨n, a4, q1, q2, q3, q4⟩ | ⟨q1, n, a4, b, q2, q3⟩
  · simp only [q3, q4, Option.bind_some, Bool.false_eq_true, if_false, if_true]
    have e2 := Aside0.mk (w64n (n := ((l.drop o).length : Int) - (a4 : Int)) (m := l.length - (o + a4)) (by rw [List.length_drop]; omega) (by omega))
    rw [if_neg (show ¬ (n : Int) < 0 by omega), e2.out, decide_eq_false (by omega)]
    obtain ⟨k, rfl⟩ : ∃ m, k = m + 1 := ⟨k - 1, by omega⟩
    simp only [api_Cell.j0, Bool.false_eq_true, if_false]
    rcases cells_loop l hB hl o n (by omega) n0 v1 v2 v3 n a4 0 [] k k' (by omega) rfl (by omega) (by omega) (by omega) with ⟨v4, a', g1, g2, g3, g4, g5⟩ | ⟨v4, a', g1, g2⟩
    · have g4' : r9_GetCommit.l0 k' l ((o + a4 : Nat) : Int) (n : Int) 0 n0 v1 v2 v3 [] = _ := g4
      have g5' : api_Cell.l0 k (n : Int) [] 0 (l.drop o) (a4 : Int) false = _ := g5
      simp only [g4', g5', Option.bind_some]
      exact .inl ⟨_, _, _, _, _, a', by omega, g2, ⟨i3, j3, by omega⟩, rfl, rfl⟩
    · have g4' : r9_GetCommit.l0 k' l ((o + a4 : Nat) : Int) (n : Int) 0 n0 v1 v2 v3 [] = _ := g1
      have g5' : api_Cell.l0 k (n : Int) [] 0 (l.drop o) (a4 : Int) false = _ := g2
      simp only [g4', g5', Option.bind_some]
      exact .inr ⟨_, _, _, _, _, _, by trivial, rfl⟩
  · simp only [q1, q2, Option.bind_some, if_neg n13]
    obtain ⟨k, rfl⟩ : ∃ m, k = m + 1 := ⟨k - 1, by omega⟩
    have hj : ∀ (x a : Int) (b : Bool), api_Cell.j0 (k + 1) x true (l.drop o) a b = some ([], a, true) := fun x a b => by simp only [api_Cell.j0, if_true]
    cases b with
    | true =>
      simp only [if_true, hj, Option.bind_some]
      exact .inr ⟨_, _, _, _, _, _, by trivial, rfl⟩
    | false =>
      simp only [Bool.false_eq_true, if_false, false_or] at q3 ⊢
      by_cases c : n < 0
      · simp only [if_pos c, hj, Option.bind_some]
        exact .inr ⟨_, _, _, _, _, _, by trivial, rfl⟩
      · have hd : decide (n > wrap64 (((l.drop o).length : Int) - a4)) = true := decide_eq_true (q3.resolve_left c)
        simp only [if_neg c, hd, hj, Option.bind_some]
        exact .inr ⟨_, _, _, _, _, _, by trivial, rfl⟩
def Sm (N : Nat) (c : S35) : Prop := c.f1.length ≤ N ∧ c.f2.length ≤ N ∧ c.f4.length ≤ N
theorem commits_loop (l : List Int) (hB : Bs l) (hl : l.length ≤ 1000000) (o n : Nat) (hn : n ≤ 1000000) (d : Nat) : ∀ (a i : Nat) (acc : List S35) (k k' : Nat), i + d = n → acc.length = i → (∀ c ∈ acc, Sm l.length c) → o + a ≤ l.length → d + l.length + 62 ≤ k → d + l.length + 62 ≤ k' →
    (∃ (v : List S35) (a' : Nat), a ≤ a' ∧ o + a' ≤ l.length ∧ (v.length = n ∧ ∀ c ∈ v, Sm l.length c) ∧ r9_CommitsAt.l0 k' l (n : Int) ((o + a : Nat) : Int) acc (i : Int) = some (v, ((o + a' : Nat) : Int), 0) ∧ api_Commit.l0 k (n : Int) acc (i : Int) (l.drop o) (a : Int) false = some (v, (a' : Int), false)) ∨
    (∃ (v' : List S35) (a' : Int), r9_CommitsAt.l0 k' l (n : Int) ((o + a : Nat) : Int) acc (i : Int) = some ([], 0, 13) ∧ api_Commit.l0 k (n : Int) acc (i : Int) (l.drop o) (a : Int) false = some (v', a', true)) := by
  induction d with
  | zero =>
    intro a i acc k k' hid hac hsm hle hk hk'
    obtain ⟨k, rfl⟩ : ∃ m, k = m + 1 := ⟨k - 1, by omega⟩
    obtain ⟨k', rfl⟩ : ∃ m, k' = m + 1 := ⟨k' - 1, by omega⟩
    refine .inl ⟨acc, a, Nat.le_refl _, hle, ⟨by omega, hsm⟩, ?_, ?_⟩
    · simp only [r9_CommitsAt.l0]; rw [if_neg (by omega)]
    · simp only [api_Commit.l0]; rw [if_neg (by omega)]
  | succ d ih =>
    intro a i acc k k' hid hac hsm hle hk hk'
    obtain ⟨k, rfl⟩ : ∃ m, k = m + 1 := ⟨k - 1, by omega⟩
    obtain ⟨k', rfl⟩ : ∃ m, k' = m + 1 := ⟨k' - 1, by omega⟩
    have hi1 := Aside0.mk (w64n (n := (i : Int) + 1) (m := i + 1) (by omega) (by omega))
    have n13 : ¬ ((13 : Int) = 0) := by decide
    have hacc : acc.length < 1466015503701 := by omega
    simp only [r9_CommitsAt.l0, api_Commit.l0, Bool.false_eq_true, if_false, if_true]
    rw [if_pos (show (i : Int) < (n : Int) by omega), if_pos (show (i : Int) < (n : Int) by omega), hi1.out]
    simp only [if_pos hacc]
    rcases commit_agree l hB hl o a hle k k' (by omega) (by omega) with ⟨x0, x1, x2, x3, x4, a1, h1, h2, hs, h3, h4⟩ | ⟨y0, y1, y2, y3, y4, a1, h1, h2⟩
    · simp only [h3, h4, Option.bind_some, if_true]
      rcases ih a1 (i + 1) (acc ++ [⟨x0, x1, x2, x3, x4⟩]) k k' (by omega) (by rw [List.length_append, hac]; rfl)
        (fun c hc => by
          rcases List.mem_append.1 hc with hc | hc
          · exact hsm c hc
          · rw [List.mem_singleton] at hc; subst hc; exact hs) h2 (by omega) (by omega) with ⟨v, a', g1, g2, g3, g4, g5⟩ | ⟨v', a', g1, g2⟩
      · exact .inl ⟨v, a', by omega, g2, g3, g4, g5⟩
      · exact .inr ⟨v', a', g1, g2⟩
    · simp only [h1, h2, Option.bind_some, if_neg n13]
      obtain ⟨k, rfl⟩ : ∃ m, k = m + 1 := ⟨k - 1, by omega⟩
      refine .inr ⟨acc ++ [⟨y0, y1, y2, y3, y4⟩], a1, by trivial, ?_⟩
      simp only [api_Commit.l0, if_true]
      rw [ite_self]
theorem commits_agree (l : List Int) (hB : Bs l) (hl : l.length ≤ 1000000) (o : Nat) (h : o ≤ l.length) (k k' : Nat) (hk : 2 * l.length + 70 ≤ k) (hk' : 2 * l.length + 70 ≤ k') :
    (∃ (v : List S35) (a' : Nat), o + a' ≤ l.length ∧ (v.length ≤ l.length ∧ ∀ c ∈ v, Sm l.length c) ∧ r9_CommitsAt.f k' l (o : Int) = some (v, ((o + a' : Nat) : Int), 0) ∧ wire_GetCommits.f k (l.drop o) = if a' = (l.drop o).length then some (v, 0) else some ([], 13)) ∨
    (r9_CommitsAt.f k' l (o : Int) = some ([], 0, 13) ∧ wire_GetCommits.f k (l.drop o) = some ([], 13)) := by
  have n13 : ¬ ((13 : Int) = 0) := by decide
  have hfrom : wire_from.f (l.drop o) 0 = some (l.drop o, 0, false) := by
    unfold wire_from.f
    rw [if_neg (by decide), decide_eq_false (by omega)]
  unfold r9_CommitsAt.f wire_GetCommits.f api_Commit.f
  simp only [hfrom, Option.bind_some]
  rcases count_agree l hB (by omega) o 0 (by omega) k k' (by omega) (by omega) with ⟨n, a4, q1, q2, q3, q4⟩ | ⟨q1, n, a4, b, q2, q3⟩
  · have q3' : r9_Count.f k' l (o : Int) = _ := q3
    have q4' : wr_number.f k (l.drop o) 0 false = _ := q4
    simp only [q3', q4', Option.bind_some, Bool.false_eq_true, if_false, if_true]
    have e2 := Aside0.mk (w64n (n := ((l.drop o).length : Int) - (a4 : Int)) (m := l.length - (o + a4)) (by rw [List.length_drop]; omega) (by omega))
    rw [if_neg (show ¬ (n : Int) < 0 by omega), e2.out, decide_eq_false (by omega)]
    obtain ⟨k, rfl⟩ : ∃ m, k = m + 1 := ⟨k - 1, by omega⟩
    simp only [api_Commit.j0, Bool.false_eq_true, if_false]
    rcases commits_loop l hB hl o n (by omega) n a4 0 [] k k' (by omega) rfl (fun c hc => by simp at hc) (by omega) (by omega) (by omega) with ⟨v4, a', g1, g2, ⟨g3, g6⟩, g4, g5⟩ | ⟨v4, a', g1, g2⟩
    · have g4' : r9_CommitsAt.l0 k' l (n : Int) ((o + a4 : Nat) : Int) [] 0 = _ := g4
      have g5' : api_Commit.l0 k (n : Int) [] 0 (l.drop o) (a4 : Int) false = _ := g5
      simp only [g4', g5', Option.bind_some, Bool.false_eq_true, if_false]
      refine .inl ⟨v4, a', g2, ⟨by omega, g6⟩, rfl, ?_⟩
      by_cases c : a' = (l.drop o).length
      · rw [if_pos c, if_pos (by rw [← c])]
      · rw [if_neg c, if_neg (by omega)]
    · have g4' : r9_CommitsAt.l0 k' l (n : Int) ((o + a4 : Nat) : Int) [] 0 = _ := g1
      have g5' : api_Commit.l0 k (n : Int) [] 0 (l.drop o) (a4 : Int) false = _ := g2
      simp only [g4', g5', Option.bind_some, if_true]
      exact .inr ⟨by trivial, by trivial⟩
  · have q1' : r9_Count.f k' l (o : Int) = _ := q1
    have q2' : wr_number.f k (l.drop o) 0 false = _ := q2
    simp only [q1', q2', Option.bind_some, if_neg n13]
    obtain ⟨k, rfl⟩ : ∃ m, k = m + 1 := ⟨k - 1, by omega⟩
    have hj : ∀ (x a : Int) (b : Bool), api_Commit.j0 (k + 1) x true (l.drop o) a b = some ([], a, true) := fun x a b => by simp only [api_Commit.j0, if_true]
    cases b with
    | true =>
      simp only [if_true, hj, Option.bind_some]
      exact .inr ⟨by trivial, by trivial⟩
    | false =>
      simp only [Bool.false_eq_true, if_false, false_or] at q3 ⊢
      by_cases c : n < 0
      · simp only [if_pos c, hj, Option.bind_some, if_true]
        exact .inr ⟨by trivial, by trivial⟩
      · have hd : decide (n > wrap64 (((l.drop o).length : Int) - a4)) = true := decide_eq_true (q3.resolve_left c)
        simp only [if_neg c, hd, hj, Option.bind_some, if_true]
        exact .inr ⟨by trivial, by trivial⟩
def ParseOk (l : List Int) (x y : Option (List Int × List S35 × Int)) : Prop := ∃ (v : List Int) (c : List S35) (e : Int), x = some (v, c, e) ∧ y = some (v, c, e) ∧ v.length ≤ l.length ∧ c.length ≤ l.length ∧ ∀ z ∈ c, Sm l.length z
theorem getInt_agree (l : List Int) (hB : Bs l) (hl : l.length ≤ 1000000) (a : Nat) (h : a ≤ l.length) (k k' : Nat) (hk : 40 ≤ k) (hk' : 40 ≤ k') :
    (∃ (n : Int) (a' : Nat), a < a' ∧ a' ≤ l.length ∧ r9_GetInt.f k' l (a : Int) = some (n, (a' : Int), 0) ∧ wire_GetInt.f k l (a : Int) = some (n, (a' : Int), 0)) ∨
    (r9_GetInt.f k' l (a : Int) = some (0, 0, 13) ∧ wire_GetInt.f k l (a : Int) = some (0, 0, 13)) := by
  have hfrom : wire_from.f l (a : Int) = some (l, (a : Int), false) := by
    unfold wire_from.f
    rw [if_neg (by omega), decide_eq_false (by omega)]
  unfold wire_GetInt.f
  simp only [hfrom, Option.bind_some]
  rcases number_agree l hB (by omega) 0 a (by omega) k k' hk hk' with ⟨n, a', h1, h2, h3, h4⟩ | ⟨h1, a', h2⟩
  · rw [Nat.zero_add] at h3 h2
    have h4' : wr_number.f k l (a : Int) false = _ := h4
    simp only [h3, h4', Option.bind_some, Bool.false_eq_true, if_false]
    exact .inl ⟨n, a', h1, h2, by rw [Nat.zero_add], by trivial⟩
  · rw [Nat.zero_add] at h1
    have h2' : wr_number.f k l (a : Int) false = _ := h2
    simp only [h1, h2', Option.bind_some, if_true]
    exact .inr ⟨by trivial, by trivial⟩
noncomputable def refRest (k : Nat) (l : List Int) (r : List Int × Int × Int) : Option (List Int × List S35 × Int) :=
  if r.2.2 = 0 then ((r9_CommitsAt.f k l r.2.1).bind fun b => (if b.2.2 = 0 then (if b.2.1 = (l.length : Int) then (some (r.1, b.1, 0)) else (some (([] : List Int), ([] : List (S35)), 13))) else (some (([] : List Int), ([] : List (S35)), 13)))) else (some (([] : List Int), ([] : List (S35)), 13))
theorem parse_loop (l : List Int) (hB : Bs l) (hl : l.length ≤ 1000000) (n : Nat) (hn : n ≤ l.length) (K : Nat) (hK : 2 * l.length + 70 ≤ K) (d : Nat) : ∀ (a i : Nat) (acc : List Int) (k k' : Nat), i + d = n → acc.length = i → a ≤ l.length → d + 2 * l.length + 80 ≤ k → d + 42 ≤ k' →
    ParseOk l (bundle_Parse.l0 k l (a : Int) (n : Int) (i : Int) acc) ((r9_GetInts.l0 k' l (n : Int) (a : Int) 0 acc (i : Int)).bind (refRest K l)) := by
  have n13 : ¬ ((13 : Int) = 0) := by decide
  induction d with
  | zero =>
    intro a i acc k k' hid hac hle hk hk'
    obtain ⟨k, rfl⟩ : ∃ m, k = m + 1 := ⟨k - 1, by omega⟩
    obtain ⟨k', rfl⟩ : ∃ m, k' = m + 1 := ⟨k' - 1, by omega⟩
    simp only [r9_GetInts.l0, bundle_Parse.l0]
    rw [if_neg (show ¬ (i : Int) < (n : Int) by omega), if_neg (show ¬ (i : Int) < (n : Int) by omega), if_pos (show 0 ≤ (a : Int) by omega), if_pos (show (a : Int) ≤ (l.length : Int) by omega)]
    simp only [Option.bind_some, refRest, if_true, Int.toNat_natCast]
    rcases commits_agree l hB hl a hle k K (by omega) hK with ⟨v, a', g1, ⟨g2, g5⟩, g3, g4⟩ | ⟨g1, g2⟩
    · simp only [g3, g4, Option.bind_some, if_true]
      have hlen : (l.drop a).length = l.length - a := List.length_drop
      by_cases c : a' = (l.drop a).length
      · rw [if_pos c, if_pos (by omega)]
        simp only [Option.bind_some, if_true]
        exact ⟨acc, v, 0, rfl, rfl, by omega, g2, g5⟩
      · rw [if_neg c, if_neg (by omega)]
        simp only [Option.bind_some, if_neg n13]
        exact ⟨[], [], 13, rfl, rfl, by simp, by simp, fun z hz => by simp at hz⟩
    · simp only [g1, g2, Option.bind_some, if_neg n13]
      exact ⟨[], [], 13, rfl, rfl, by simp, by simp, fun z hz => by simp at hz⟩
  | succ d ih =>
    intro a i acc k k' hid hac hle hk hk'
    obtain ⟨k, rfl⟩ : ∃ m, k = m + 1 := ⟨k - 1, by omega⟩
    obtain ⟨k', rfl⟩ : ∃ m, k' = m + 1 := ⟨k' - 1, by omega⟩
    have hi1 := Aside0.mk (w64n (n := (i : Int) + 1) (m := i + 1) (by omega) (by omega))
    have hacc : acc.length < 17592186044416 := by omega
    simp only [r9_GetInts.l0, bundle_Parse.l0, if_true]
    rw [if_pos (show (i : Int) < (n : Int) by omega), if_pos (show (i : Int) < (n : Int) by omega), hi1.out]
    simp only [if_pos hacc]
    rcases getInt_agree l hB hl a hle k k' (by omega) (by omega) with ⟨n1, a1, h1, h2, h3, h4⟩ | ⟨h1, h2⟩
    · simp only [h3, h4, Option.bind_some, if_true]
      exact ih a1 (i + 1) (acc ++ [n1]) k k' (by omega) (by rw [List.length_append, hac]; rfl) h2 (by omega) (by omega)
    · simp only [h1, h2, Option.bind_some, if_neg n13]
      obtain ⟨k', rfl⟩ : ∃ m, k' = m + 1 := ⟨k' - 1, by omega⟩
      have e : r9_GetInts.l0 (k' + 1) l (n : Int) 0 13 (acc ++ [0]) ((i + 1 : Nat) : Int) = some (acc ++ [0], 0, 13) := by
        simp only [r9_GetInts.l0]
        by_cases c : ((i + 1 : Nat) : Int) < (n : Int)
        · rw [if_pos c, if_neg n13]
        · rw [if_neg c]
      rw [e]
      simp only [Option.bind_some, refRest, if_neg n13]
      exact ⟨[], [], 13, rfl, rfl, by simp, by simp, fun z hz => by simp at hz⟩
theorem parse_agree (l : List Int) (hB : Bs l) (hl : l.length ≤ 1000000) (k : Nat) (hk : 3 * l.length + 100 ≤ k) : ParseOk l (bundle_Parse.f k l) (r43_Parse.f k l) := by
  have n13 : ¬ ((13 : Int) = 0) := by decide
  have e : r43_Parse.f k l = (r9_GetInts.f k l 0).bind (refRest k l) := rfl
  rw [e]
  obtain ⟨k1, hk1⟩ : ∃ m, k = m + 1 := ⟨k - 1, by omega⟩
  have hj : ∀ (x a : Int), bundle_Parse.j0 k l x a true = some ([], [], 13) := fun x a => by rw [hk1]; simp only [bundle_Parse.j0, if_true]
  have hbad : ParseOk l (some ([], [], 13)) (some ([], [], 13)) := ⟨[], [], 13, rfl, rfl, by simp, by simp, fun z hz => by simp at hz⟩
  unfold r9_GetInts.f bundle_Parse.f r9_Count.f
  have hloop : r9_GetInts.l0 k l 0 0 13 [] 0 = some ([], 0, 13) := by
    rw [hk1]; simp only [r9_GetInts.l0]; rw [if_neg (by decide)]
  rcases getInt_agree l hB hl 0 (by omega) k k (by omega) (by omega) with ⟨n, a', h1, h2, h3, h4⟩ | ⟨h1, h2⟩
  · have h3' : r9_GetInt.f k l 0 = _ := h3
    have h4' : wire_GetInt.f k l 0 = _ := h4
    simp only [h3', h4', Option.bind_some, if_true]
    have e1 := Aside0.mk (w64n (n := (l.length : Int) - (a' : Int)) (m := l.length - a') (by omega) (by omega))
    rw [e1.out]
    by_cases c : n < 0
    · simp only [if_pos c, hj, Option.bind_some, hloop, refRest, if_neg n13]
      exact hbad
    · simp only [if_neg c]
      by_cases c2 : n > ((l.length - a' : Nat) : Int)
      · simp only [if_pos c2, decide_eq_true c2, hj, Option.bind_some, hloop, refRest, if_neg n13]
        exact hbad
      · simp only [if_neg c2, decide_eq_false c2, Option.bind_some]
        obtain ⟨m, rfl⟩ := Int.eq_ofNat_of_zero_le (show 0 ≤ n by omega)
        have hj' : bundle_Parse.j0 k l (m : Int) (a' : Int) false = bundle_Parse.l0 k1 l (a' : Int) (m : Int) 0 [] := by rw [hk1]; simp only [bundle_Parse.j0, Bool.false_eq_true, if_false]
        rw [hj']
        exact parse_loop l hB hl m (by omega) k (by omega) m a' 0 [] k1 k (by omega) rfl h2 (by omega) (by omega)
  · have h1' : r9_GetInt.f k l 0 = _ := h1
    have h2' : wire_GetInt.f k l 0 = _ := h2
    simp only [h1', h2', Option.bind_some, if_neg n13, hj, hloop, refRest]
    exact hbad
theorem same_ints_loop (l : List Int) (hl : l.length ≤ 1000000) (d : Nat) : ∀ (i k : Nat), i + d = l.length → d + 1 ≤ k → r9_SameInts.l0 k l l (i : Int) = some true := by
  induction d with
  | zero =>
    intro i k h hk
    obtain ⟨k, rfl⟩ : ∃ m, k = m + 1 := ⟨k - 1, by omega⟩
    simp only [r9_SameInts.l0]; rw [if_neg (by omega)]
  | succ d ih =>
    intro i k h hk
    obtain ⟨k, rfl⟩ : ∃ m, k = m + 1 := ⟨k - 1, by omega⟩
    have hi1 := Aside0.mk (w64n (n := (i : Int) + 1) (m := i + 1) (by omega) (by omega))
    simp only [r9_SameInts.l0, if_true]
    rw [if_pos (by omega), if_pos (by omega), if_pos (by omega), hi1.out]
    exact ih (i + 1) k (by omega) (by omega)
theorem same_ints (l : List Int) (hl : l.length ≤ 1000000) (k : Nat) (hk : l.length + 1 ≤ k) : r9_SameInts.f k l l = some true := by
  unfold r9_SameInts.f
  rw [if_pos rfl]
  exact same_ints_loop l hl l.length 0 k (by omega) hk
theorem same_cells_loop (s : Int) (pa pi : List Int) (no : ByteArray) (l : List S110) (hl : l.length ≤ 1000000) (d : Nat) : ∀ (i k : Nat), i + d = l.length → d + 1 ≤ k → r9_SameCommit.l0 k (i : Int) s pa pi no l s pa pi no l = some true := by
  induction d with
  | zero =>
    intro i k h hk
    obtain ⟨k, rfl⟩ : ∃ m, k = m + 1 := ⟨k - 1, by omega⟩
    simp only [r9_SameCommit.l0]; rw [if_neg (by omega)]
  | succ d ih =>
    intro i k h hk
    obtain ⟨k, rfl⟩ : ∃ m, k = m + 1 := ⟨k - 1, by omega⟩
    have hi1 := Aside0.mk (w64n (n := (i : Int) + 1) (m := i + 1) (by omega) (by omega))
    simp only [r9_SameCommit.l0, beq_self_eq_true, Bool.not_true, Bool.or_self, Bool.false_eq_true, if_false]
    rw [if_pos (by omega), if_pos (by omega), if_pos (by omega), hi1.out]
    exact ih (i + 1) k (by omega) (by omega)
theorem same_commit (N : Nat) (hN : N ≤ 1000000) (c : S35) (h : Sm N c) (k : Nat) (hk : N + 2 ≤ k) : r9_SameCommit.f k c.f0 c.f1 c.f2 c.f3 c.f4 c.f0 c.f1 c.f2 c.f3 c.f4 = some true := by
  obtain ⟨h1, h2, h3⟩ := h
  unfold r9_SameCommit.f
  rw [if_pos rfl, if_pos rfl, same_ints c.f1 (by omega) k (by omega), same_ints c.f2 (by omega) k (by omega)]
  obtain ⟨k, rfl⟩ : ∃ m, k = m + 1 := ⟨k - 1, by omega⟩
  simp only [Option.bind_some, if_true, bne_self_eq_false, r9_SameCommit.j0, Bool.false_eq_true, if_false]
  exact same_cells_loop c.f0 c.f1 c.f2 c.f3 c.f4 (by omega) c.f4.length 0 k (by omega) (by omega)
theorem same_commits_loop (N : Nat) (hN : N ≤ 1000000) (l : List S35) (hs : ∀ c ∈ l, Sm N c) (hl : l.length ≤ N) (d : Nat) : ∀ (i k : Nat), i + d = l.length → d + N + 3 ≤ k → r9_SameCommits.l0 k l l (i : Int) = some true := by
  induction d with
  | zero =>
    intro i k h hk
    obtain ⟨k, rfl⟩ : ∃ m, k = m + 1 := ⟨k - 1, by omega⟩
    simp only [r9_SameCommits.l0]; rw [if_neg (by omega)]
  | succ d ih =>
    intro i k h hk
    obtain ⟨k, rfl⟩ : ∃ m, k = m + 1 := ⟨k - 1, by omega⟩
    have hi1 := Aside0.mk (w64n (n := (i : Int) + 1) (m := i + 1) (by omega) (by omega))
    have hsm : Sm N (rd_T35 l (i : Int)) := by
      unfold rd_T35
      rw [Int.toNat_natCast, List.getD_eq_getElem?_getD, List.getElem?_eq_getElem (by omega)]
      exact hs _ (List.getElem_mem _)
    simp only [r9_SameCommits.l0, same_commit N hN _ hsm k (by omega), Option.bind_some, if_true]
    rw [if_pos (by omega), if_pos (by omega), if_pos (by omega), hi1.out]
    exact ih (i + 1) k (by omega) (by omega)
theorem same_commits (N : Nat) (hN : N ≤ 1000000) (l : List S35) (hs : ∀ c ∈ l, Sm N c) (hl : l.length ≤ N) (k : Nat) (hk : 2 * N + 3 ≤ k) : r9_SameCommits.f k l l = some true := by
  unfold r9_SameCommits.f
  rw [if_pos rfl]
  exact same_commits_loop N hN l hs hl l.length 0 k (by omega) (by omega)
theorem BundleParses : l43_BundleParses.Pure := by
  intro l0 _ _ hw
  have hB : Bs l0 := fun x hx => by
    have := hw x hx
    simp [Lit.wf, IntKind.min, IntKind.max, IntKind.bits, IntKind.signed] at this
    omega
  refine ⟨100000, ?_⟩
  unfold l43_BundleParses.f
  by_cases c : (l0.length : Int) > 2000
  · rw [if_pos c]; rfl
  · rw [if_neg c]
    obtain ⟨v, cs, e, h1, h2, h3, h4, h5⟩ := parse_agree l0 hB (by omega) 100000 (by omega)
    rw [h1, h2]
    simp only [Option.bind_some, if_true]
    unfold r43_Same.f
    rw [same_ints v (by omega) 100000 (by omega), same_commits l0.length (by omega) cs h5 h4 100000 (by omega)]
    rfl
end Go.Proofs.YtmmjnbpoilicjaaGreat.Pure
