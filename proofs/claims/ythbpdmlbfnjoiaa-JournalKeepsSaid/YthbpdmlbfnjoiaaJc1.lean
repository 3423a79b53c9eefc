/- Plain law: journals' bytes, whole, cut and turned. -/
import Derived.Test.YthbpdmlbfnjoiaaJa1
namespace Go.Crc
set_option linter.unusedSimpArgs false
set_option linter.unusedVariables false
set_option maxHeartbeats 4000000
open Go Go.Am Go.RowKit
def catR (ls : List (List Int)) : List Int := (ls.map recB).flatten
def goodR (l : List Int) : Prop := recE l = 0 ∧ ∀ x ∈ l, 0 ≤ x ∧ x ≤ 255
theorem catR_nil : catR [] = [] := rfl
theorem catR_cons (l : List Int) (ls : List (List Int)) : catR (l :: ls) = recB l ++ catR ls := rfl
theorem catR_app (a b : List (List Int)) : catR (a ++ b) = catR a ++ catR b := by simp [catR]
theorem catR_one (l : List Int) : catR [l] = recB l := by simp [catR]
theorem catR_len (ls : List (List Int)) : ls.length ≤ (catR ls).length := by
  induction ls with
  | nil => simp
  | cons l ls ih => rw [catR_cons, List.length_append, recB_len, List.length_cons]; omega
theorem catR_len11 {ls : List (List Int)} (h : ∀ l ∈ ls, goodR l) : 11 * ls.length ≤ (catR ls).length := by
  induction ls with
  | nil => simp
  | cons l ls ih =>
    have h1 := (recE_0 (h l (by simp)).1).1
    have := ih fun x hx => h x (by simp [hx])
    rw [catR_cons, List.length_append, recB_len, List.length_cons]; omega
theorem catR_bound {ls : List (List Int)} (h : ∀ l ∈ ls, goodR l) : (catR ls).length ≤ 522 * ls.length := by
  induction ls with
  | nil => simp [catR_nil]
  | cons l ls ih =>
    have h1 := (recE_0 (h l (by simp)).1).2
    have := ih fun x hx => h x (by simp [hx])
    rw [catR_cons, List.length_append, recB_len, List.length_cons]; omega
theorem catR_bytes {ls : List (List Int)} (h : ∀ l ∈ ls, goodR l) : ∀ x ∈ catR ls, 0 ≤ x ∧ x ≤ 255 := fun x hx => by
  obtain ⟨r, hr, hx⟩ := List.mem_flatten.1 hx
  obtain ⟨l, hl, rfl⟩ := List.mem_map.1 hr
  have := (recE_0 (h l hl).1).2
  exact recB_bytes (by omega) (h l hl).2 x hx
theorem recH_two (n : Nat) : ∃ t, recH n = ((n % 256 : Nat) : Int) :: ((n / 256 : Nat) : Int) :: t := ⟨_, rfl⟩
theorem jN_rec (n : Nat) (t : List Int) : jN (recH n ++ t) = (n : Int) := by
  obtain ⟨u, hu⟩ := recH_two n
  rw [hu]
  simp only [jN, List.cons_append, List.getD_cons_zero, List.getD_cons_succ]
  omega
theorem mkdB_recH (n : Nat) : mkdB (recH n) = true := mkdB_mkd _
theorem take6 (n : Nat) (t : List Int) : (recH n ++ t).take 6 = recH n := by rw [← recH_len n, List.take_left]
theorem drop6 (n : Nat) (t : List Int) : (recH n ++ t).drop 6 = t := by rw [← recH_len n, List.drop_left]
theorem jsz_rec {l : List Int} (h : recE l = 0) (t : List Int) : jsz (recH l.length ++ t) = .goes l.length := by
  obtain ⟨h1, h2⟩ := recE_0 h
  have h3 := jN_rec l.length t
  unfold jsz
  rw [if_neg (by simp [recH_len]), take6, if_neg (by rw [mkdB_recH]; simp), h3, if_neg (by omega), Int.toNat_natCast]
theorem jst_rec {l : List Int} (h : recE l = 0) (t : List Int) : jst (recB l ++ t) = .goes l.length := by
  have e : recB l ++ t = recH l.length ++ (mkd l ++ t) := by unfold recB; rw [List.append_assoc]
  unfold jst
  rw [e, jsz_rec h]
  simp only
  have hm := mkd_length l
  rw [if_neg (by simp [recH_len, hm]; omega), drop6, ← hm, List.take_left, if_neg (by rw [mkdB_mkd]; simp)]
theorem jbody_rec (l t : List Int) : jbody (recB l ++ t) l.length = l := by
  have e : recB l ++ t = recH l.length ++ (l ++ (le4 4 (sum l) ++ t)) := by unfold recB mkd; simp
  unfold jbody
  rw [e, drop6, List.take_left]
theorem jrun_cat (ls : List (List Int)) : ∀ (g : Nat) (A : List Int) (acc : List (List Int)) (t : List Int), (∀ l ∈ ls, recE l = 0) → jrun (ls.length + g) (A ++ (catR ls ++ t)) acc A.length = jrun g (A ++ (catR ls ++ t)) (acc ++ ls) (A.length + (catR ls).length) := by
  induction ls with
  | nil => intro g A acc t _; simp [catR_nil]
  | cons l ls ih =>
    intro g A acc t h
    have hl := h l (by simp)
    rw [show (l :: ls).length + g = (ls.length + g) + 1 by simp; omega]
    have hd : (A ++ (catR (l :: ls) ++ t)).drop A.length = recB l ++ (catR ls ++ t) := by rw [List.drop_left, catR_cons, List.append_assoc]
    have hs : jrun ((ls.length + g) + 1) (A ++ (catR (l :: ls) ++ t)) acc A.length = jrun (ls.length + g) (A ++ (catR (l :: ls) ++ t)) (acc ++ [l]) (A.length + (10 + l.length)) := by
      rw [jrun, hd, jst_rec hl]
      simp only
      rw [jbody_rec]
    rw [hs]
    have h2 := ih g (A ++ recB l) (acc ++ [l]) t fun x hx => h x (by simp [hx])
    have e1 : A ++ recB l ++ (catR ls ++ t) = A ++ (catR (l :: ls) ++ t) := by rw [catR_cons]; simp
    have e2 : (A ++ recB l).length = A.length + (10 + l.length) := by rw [List.length_append, recB_len]; omega
    rw [e1, e2] at h2
    have e3 : A.length + (catR (l :: ls)).length = A.length + (10 + l.length) + (catR ls).length := by rw [catR_cons, List.length_append, recB_len]; omega
    rw [h2, e3]
    simp
theorem jread_cat {ls : List (List Int)} (h : ∀ l ∈ ls, recE l = 0) (t : List Int) : (jst t = .ends → jread (catR ls ++ t) = (ls, (catR ls).length, false)) ∧ (jst t = .rots → jread (catR ls ++ t) = ([], 0, true)) := by
  have hl := catR_len ls
  obtain ⟨g, hg⟩ : ∃ g, (catR ls ++ t).length + 1 = ls.length + (g + 1) := ⟨(catR ls).length + t.length - ls.length, by simp; omega⟩
  have e := jrun_cat ls (g + 1) [] [] t h
  simp only [List.nil_append, List.length_nil, Nat.zero_add] at e
  have hd : (catR ls ++ t).drop (catR ls).length = t := List.drop_left
  unfold jread
  rw [hg, e]
  unfold jrun
  rw [hd]
  exact ⟨fun h => by rw [h], fun h => by rw [h]⟩
theorem jst_nil : jst [] = .ends := by simp [jst, jsz]
theorem jread_all {ls : List (List Int)} (h : ∀ l ∈ ls, recE l = 0) : jread (catR ls) = (ls, (catR ls).length, false) := by
  have := (jread_cat h []).1 jst_nil
  rwa [List.append_nil] at this
theorem jst_pre {l : List Int} (h : recE l = 0) {k : Nat} (hk : k < (recB l).length) : jst ((recB l).take k) = .ends := by
  rw [recB_len] at hk
  by_cases h6 : k < 6
  · unfold jst jsz
    rw [if_pos (by simp [recB_len]; omega)]
  · have e : (recB l).take k = recH l.length ++ (mkd l).take (k - 6) := by
      unfold recB
      rw [List.take_append, recH_len, List.take_of_length_le (by rw [recH_len]; omega)]
    unfold jst
    rw [e, jsz_rec h]
    simp only
    rw [if_pos (by simp [recH_len, mkd_length]; omega)]
/-- A byte of marked ones is turned. -/
theorem upd_diff (v : R) {l : List Int} {p : Nat} (hp : p < l.length) (c : Int) : upd v (l.set p c) = upd v l ^^^ dns (8 * (l.length - p)) (by8 c ^^^ by8 (l.getD p 0)) := by
  induction l generalizing v p with
  | nil => cases hp
  | cons x l ih =>
    cases p with
    | zero =>
      simp only [List.set_cons_zero, upd_cons, List.getD_cons_zero, List.length_cons]
      have e : v ^^^ by8 c = (by8 c ^^^ by8 x) ^^^ (v ^^^ by8 x) := by
        apply BitVec.eq_of_getLsbD_eq
        intro i hi
        simp only [BitVec.getLsbD_xor]
        cases v.getLsbD i <;> cases (by8 c).getLsbD i <;> cases (by8 x).getLsbD i <;> rfl
      rw [e, mv_xor, upd_xor, BitVec.xor_comm]
      congr 1
    | succ p =>
      simp only [List.length_cons, Nat.add_lt_add_iff_right] at hp
      rw [List.set_cons_succ, upd_cons, upd_cons, ih _ hp, List.length_cons, List.getD_cons_succ]
      congr 2
      omega
theorem turned1 {l : List Int} (h : ∀ x ∈ l, 0 ≤ x ∧ x ≤ 255) {i : Nat} (hi : i < (mkd l).length) {c : Int} (hc : by8 c ≠ by8 ((mkd l).getD i 0)) : mkdB ((mkd l).set i c) = false := by
  cases hm : mkdB ((mkd l).set i c) with
  | false => rfl
  | true =>
    exfalso
    obtain ⟨_, h2⟩ : 4 ≤ ((mkd l).set i c).length ∧ mkd (((mkd l).set i c).take (((mkd l).set i c).length - 4)) = (mkd l).set i c := by
      simpa [mkdB] using hm
    have h1 := upd_diff (~~~ 0#32) hi c
    rw [← h2, upd_mkd, upd_mkd] at h1
    have h3 : dns (8 * ((mkd l).length - i)) (by8 c ^^^ by8 ((mkd l).getD i 0)) = 0#32 := by
      have h4 := congrArg (dns 32 (~~~ 0#32) ^^^ ·) h1
      simp only [← BitVec.xor_assoc, BitVec.xor_self] at h4
      rw [x0] at h4
      exact h4.symm
    have h5 := dns_inj _ h3
    apply hc
    have h6 := congrArg (· ^^^ by8 ((mkd l).getD i 0)) h5
    simp only [BitVec.xor_assoc, BitVec.xor_self] at h6
    simpa using h6
theorem jst_turn {l : List Int} (h : goodR l) {i : Nat} (hi : i < (recB l).length) {c : Int} (hc : by8 c ≠ by8 ((recB l).getD i 0)) (t : List Int) : jst ((recB l).set i c ++ t) = .rots := by
  obtain ⟨he, hby⟩ := h
  obtain ⟨h1, h2⟩ := recE_0 he
  rw [recB_len] at hi
  have hH := recH_len l.length
  by_cases h6 : i < 6
  · have e : (recB l).set i c ++ t = (recH l.length).set i c ++ (mkd l ++ t) := by
      unfold recB
      rw [List.set_append_left _ _ (by omega), List.append_assoc]
    have hg : (recB l).getD i 0 = (recH l.length).getD i 0 := by
      unfold recB
      rw [List.getD_eq_getElem?_getD, List.getElem?_append_left (by omega), ← List.getD_eq_getElem?_getD]
    rw [hg] at hc
    have hm : mkdB ((recH l.length).set i c) = false := by
      unfold recH at hc hH ⊢
      refine turned1 (fun x hx => ?_) (by omega) hc
      simp only [List.mem_cons, List.not_mem_nil, or_false] at hx
      rcases hx with rfl | rfl <;> omega
    have ht : ((recH l.length).set i c ++ (mkd l ++ t)).take 6 = (recH l.length).set i c := by
      rw [List.take_append_of_le_length (by rw [List.length_set]; omega), List.take_of_length_le (by rw [List.length_set]; omega)]
    unfold jst jsz
    rw [e, if_neg (by rw [List.length_append, List.length_set]; omega), ht, if_pos hm]
  · have hml := mkd_length l
    have e : (recB l).set i c ++ t = recH l.length ++ ((mkd l).set (i - 6) c ++ t) := by
      unfold recB
      rw [List.set_append_right _ _ (by omega), hH, List.append_assoc]
    have hg : (recB l).getD i 0 = (mkd l).getD (i - 6) 0 := by
      unfold recB
      rw [List.getD_eq_getElem?_getD, List.getElem?_append_right (by omega), hH, ← List.getD_eq_getElem?_getD]
    rw [hg] at hc
    have hm := turned1 hby (i := i - 6) (by omega) hc
    have hl : ((mkd l).set (i - 6) c).length = l.length + 4 := by rw [List.length_set, hml]
    unfold jst
    rw [e, jsz_rec he]
    simp only
    rw [if_neg (by rw [List.length_append, hH, List.length_append, hl]; omega), drop6, ← hl, List.take_left, if_pos hm]
/-- A place in the bytes lies in a record. -/
theorem catR_at {ls : List (List Int)} {i : Nat} (hi : i < (catR ls).length) : ∃ A l B, ls = A ++ l :: B ∧ (catR A).length ≤ i ∧ i - (catR A).length < (recB l).length := by
  induction ls generalizing i with
  | nil => simp [catR_nil] at hi
  | cons l ls ih =>
    rw [catR_cons, List.length_append] at hi
    by_cases h : i < (recB l).length
    · exact ⟨[], l, ls, rfl, by simp [catR_nil], by simpa [catR_nil] using h⟩
    · obtain ⟨A, m, B, h1, h2, h3⟩ := ih (i := i - (recB l).length) (by omega)
      refine ⟨l :: A, m, B, by rw [h1]; rfl, ?_, ?_⟩
      · rw [catR_cons, List.length_append]; omega
      · rw [catR_cons, List.length_append]
        rw [show i - ((recB l).length + (catR A).length) = i - (recB l).length - (catR A).length by omega]
        exact h3
theorem jread_turn {ls : List (List Int)} (h : ∀ l ∈ ls, goodR l) {i : Nat} (hi : i < (catR ls).length) {c : Int} (hc : by8 c ≠ by8 ((catR ls).getD i 0)) : jread ((catR ls).set i c) = ([], 0, true) := by
  obtain ⟨A, l, B, rfl, h2, h3⟩ := catR_at hi
  have e : catR (A ++ l :: B) = catR A ++ (recB l ++ catR B) := by rw [catR_app, catR_cons]
  have e2 : (catR (A ++ l :: B)).set i c = catR A ++ ((recB l).set (i - (catR A).length) c ++ catR B) := by
    rw [e, List.set_append_right _ _ h2, List.set_append_left _ _ h3]
  have hg : (catR (A ++ l :: B)).getD i 0 = (recB l).getD (i - (catR A).length) 0 := by
    rw [e, List.getD_eq_getElem?_getD, List.getElem?_append_right h2, List.getElem?_append_left h3, ← List.getD_eq_getElem?_getD]
  rw [hg] at hc
  rw [e2]
  exact (jread_cat (fun x hx => (h x (by simp [hx])).1) _).2 (jst_turn (h l (by simp)) h3 hc _)
/-- The bytes, cut off. -/
theorem jread_cut {ls : List (List Int)} (h : ∀ l ∈ ls, recE l = 0) {n k : Nat} (hn : n ≤ ls.length) (h1 : (catR (ls.take n)).length ≤ k) (h2 : n < ls.length → k < (catR (ls.take (n + 1))).length) : jread ((catR ls).take k) = (ls.take n, (catR (ls.take n)).length, false) := by
  have hg : ∀ l ∈ ls.take n, recE l = 0 := fun l hl => h l (List.mem_of_mem_take hl)
  have e : catR ls = catR (ls.take n) ++ catR (ls.drop n) := by rw [← catR_app, List.take_append_drop]
  have e2 : (catR ls).take k = catR (ls.take n) ++ (catR (ls.drop n)).take (k - (catR (ls.take n)).length) := by
    rw [e, List.take_append, List.take_of_length_le h1]
  rw [e2]
  refine (jread_cat hg _).1 ?_
  rcases Nat.lt_or_ge n ls.length with hlt | hge
  · have h3 := h2 hlt
    have e3 : ls.drop n = ls[n] :: ls.drop (n + 1) := List.drop_eq_getElem_cons hlt
    have e4 : ls.take (n + 1) = ls.take n ++ [ls[n]] := by rw [List.take_add_one, List.getElem?_eq_getElem hlt]; rfl
    rw [e4, catR_app, catR_one, List.length_append] at h3
    rw [e3, catR_cons, List.take_append_of_le_length (by omega)]
    exact jst_pre (h _ (List.getElem_mem hlt)) (by omega)
  · rw [List.drop_eq_nil_of_le hge, catR_nil, List.take_nil]
    exact jst_nil
end Go.Crc
