/- The bytes of an entry that may be are read as it: plain laws. -/
import Derived.Test.YtkdikmfnchmphaaAe4
namespace Go.Proofs.Ytkdikmfnchmphaa
set_option linter.unusedSimpArgs false
set_option linter.unusedVariables false
set_option maxHeartbeats 4000000
open Go Go.Am
theorem read_textm {L : List Int} {a : Nat} {B r : List Int} {m : Int} (h : L.drop a = ((B.length : Int) :: B) ++ r) (hm : (B.length : Int) ≤ m) : textC L m ⟨a, 0⟩ = ⟨a + (B.length + 1), 0⟩ ∧ textV L m ⟨a, 0⟩ = baI B := by
  obtain ⟨h1, h2, h3⟩ := drop_get (x := (B.length : Int)) (r := B ++ r) h
  have h4 := congrArg List.length h3
  simp only [List.length_drop, List.length_append] at h4
  obtain ⟨ho, -, -⟩ := rawOk_of (k := 1) (x := [(B.length : Int)]) (r := B ++ r) h rfl
  rw [show ((1 : Nat) : Int) = 1 from rfl] at ho
  have k1 : ¬ m < L.getD a 0 := by rw [h1]; omega
  have k2 : 1 + L.getD a 0 ≤ ((L.length - a : Nat) : Int) := by rw [h1]; omega
  rw [textC_yes ho k1 k2, textV_yes ho k1 k2, h1, Int.toNat_natCast, h3, List.take_left, Nat.add_comm 1 B.length]
  exact ⟨rfl, rfl⟩
theorem drop_next {L x r : List Int} {a n : Nat} (h : L.drop a = x ++ r) (hn : x.length = n) : L.drop (a + n) = r := by
  rw [← List.drop_drop, h, ← hn, List.drop_left]
theorem baI_txI (s : ByteArray) : baI (txI s) = s := by
  cases s with
  | mk d =>
    unfold baI txI toB
    congr 1
    apply Array.ext'
    simp [Function.comp_def]
theorem txI_bytes (s : ByteArray) : bytesB (txI s) := by
  intro c hc
  obtain ⟨b, -, rfl⟩ := List.mem_map.1 hc
  have := b.toNat_lt
  omega
theorem bytesB_app {l m : List Int} (h : bytesB l) (k : bytesB m) : bytesB (l ++ m) := fun c hc => by
  rcases List.mem_append.1 hc with hc | hc
  · exact h c hc
  · exact k c hc
theorem bytesB_cons {c : Int} {l : List Int} (h : 0 ≤ c ∧ c ≤ 255) (k : bytesB l) : bytesB (c :: l) := fun d hd => by
  rcases List.mem_cons.1 hd with rfl | hd
  · exact h
  · exact k d hd
theorem enB_bytes {e : En} (h : checkI e = 0) : bytesB (enB e) := by
  obtain ⟨k1, k2, k3, -⟩ := check_ok h
  unfold enB
  refine bytesB_app (bytesB_app (bytesB_app (bytesB_app (bytesB_app (bytesB_app (bytesB_app (bytesB_app ?_ ?_) ?_) (leI_bytes _ _)) (leI_bytes _ _)) (leI_bytes _ _)) (leI_bytes _ _)) (leI_bytes _ _)) (leI_bytes _ _)
  · exact bytesB_cons (by omega) (txI_bytes _)
  · intro c hc
    rw [List.mem_singleton.1 hc]
    cases e.dead <;> decide
  · exact bytesB_cons (by omega) (txI_bytes _)
theorem fits_small {v : Int} {k : Nat} (h0 : 0 ≤ v) (h1 : v < 256 ^ k) : fitsI v (k : Int) = true := by
  rw [fitsI_eq, Int.ediv_eq_zero_of_lt h0 h1]; rfl
theorem dec_enB {e : En} (h : checkI e = 0) : (decC (enB e)).e = 0 ∧ decV (enB e) = e := by
  obtain ⟨k1, k2, k3, k4, k5, k6, k7, k8, k9⟩ := check_ok h
  obtain ⟨L, hL⟩ : ∃ L, enB e = L := ⟨_, rfl⟩
  rw [hL]
  have d0 : L.drop 0 = (((txI e.key).length : Int) :: txI e.key) ++ ([cond e.dead 1 0] ++ ((((txI e.val).length : Int) :: txI e.val) ++ (leI e.st.c 4 ++ (leI e.st.s 1 ++ (leI e.act.c 4 ++ (leI e.act.s 1 ++ (leI e.keep 2 ++ (leI e.age 4 ++ [])))))))) := by
    rw [← hL]
    simp only [enB, List.drop_zero, List.append_assoc, txI_len, List.append_nil]
  obtain ⟨p1, v1⟩ := read_textm d0 (m := 16) (by rw [txI_len]; omega)
  have d1 := drop_next d0 (n := (txI e.key).length + 1) (by simp)
  obtain ⟨p2, v2⟩ := read_flag d1
  have d2 := drop_next d1 (n := 1) rfl
  obtain ⟨p3, v3⟩ := read_textm d2 (m := 32) (by rw [txI_len]; omega)
  have d3 := drop_next d2 (n := (txI e.val).length + 1) (by simp)
  obtain ⟨p4, v4⟩ := read_num (w := 4) d3 (by decide) (fits_small (k := 4) (by omega) (by omega)) (by omega)
  have d4 := drop_next d3 (leI_len _ 4)
  obtain ⟨p5, v5⟩ := read_num (w := 1) d4 (by decide) (fits_small (k := 1) (by omega) (by omega)) (by omega)
  have d5 := drop_next d4 (leI_len _ 1)
  obtain ⟨p6, v6⟩ := read_num (w := 4) d5 (by decide) (fits_small (k := 4) (by omega) (by omega)) (by omega)
  have d6 := drop_next d5 (leI_len _ 4)
  obtain ⟨p7, v7⟩ := read_num (w := 1) d6 (by decide) (fits_small (k := 1) (by omega) (by omega)) (by omega)
  have d7 := drop_next d6 (leI_len _ 1)
  obtain ⟨p8, v8⟩ := read_num (w := 2) d7 (by decide) (fits_small (k := 2) (by omega) (by omega)) (by omega)
  have d8 := drop_next d7 (leI_len _ 2)
  obtain ⟨p9, v9⟩ := read_num (w := 4) d8 (by decide) (fits_small (k := 4) (by omega) (by omega)) (by omega)
  have d9 := drop_next d8 (leI_len _ 4)
  simp only [show (4 : Int).toNat = 4 from rfl, show (1 : Int).toNat = 1 from rfl, show (2 : Int).toNat = 2 from rfl] at p4 p5 p6 p7 p8 p9
  have u1 : en1 L ⟨0, 0⟩ = ⟨0 + ((txI e.key).length + 1), 0⟩ := by unfold en1; exact p1
  generalize 0 + ((txI e.key).length + 1) = a1 at *
  have u2 : en2 L ⟨0, 0⟩ = ⟨a1 + 1, 0⟩ := by unfold en2; rw [u1]; exact p2
  generalize a1 + 1 = a2 at *
  have u3 : en3 L ⟨0, 0⟩ = ⟨a2 + ((txI e.val).length + 1), 0⟩ := by unfold en3; rw [u2]; exact p3
  generalize a2 + ((txI e.val).length + 1) = a3 at *
  have u4 : en4 L ⟨0, 0⟩ = ⟨a3 + 4, 0⟩ := by unfold en4; rw [u3]; exact p4
  generalize a3 + 4 = a4 at *
  have u5 : en5 L ⟨0, 0⟩ = ⟨a4 + 1, 0⟩ := by unfold en5; rw [u4]; exact p5
  generalize a4 + 1 = a5 at *
  have u6 : en6 L ⟨0, 0⟩ = ⟨a5 + 4, 0⟩ := by unfold en6; rw [u5]; exact p6
  generalize a5 + 4 = a6 at *
  have u7 : en7 L ⟨0, 0⟩ = ⟨a6 + 1, 0⟩ := by unfold en7; rw [u6]; exact p7
  generalize a6 + 1 = a7 at *
  have u8 : en8 L ⟨0, 0⟩ = ⟨a7 + 2, 0⟩ := by unfold en8; rw [u7]; exact p8
  generalize a7 + 2 = a8 at *
  have u9 : en9 L ⟨0, 0⟩ = ⟨a8 + 4, 0⟩ := by unfold en9; rw [u8]; exact p9
  generalize a8 + 4 = a9 at *
  have hE : enE L ⟨0, 0⟩ = e := by
    unfold enE
    rw [u1, u2, u3, u4, u5, u6, u7, u8, v1, v2, v3, v4, v5, v6, v7, v8, v9, baI_txI, baI_txI]
  have hlen : L.length ≤ a9 := by
    have := congrArg List.length d9
    simp only [List.length_drop, List.length_nil] at this
    omega
  rcases en_cases L ⟨0, 0⟩ with ⟨q1, q2, q3, q4⟩ | ⟨q1, q2, q3, q4⟩ | ⟨q1, q2, q3, q4⟩ | ⟨q1, q2, q3, q4⟩
  · have hd : (decC L).e = 0 := by
      unfold decC
      rw [q3, u9]
      unfold doneC doneE
      simp only
      rw [decide_eq_false (by omega)]
      rfl
    refine ⟨hd, ?_⟩
    unfold decV
    rw [if_pos hd, q4, hE]
  · rw [u9] at q1; exact absurd rfl q1
  · rw [hE] at q2; exact absurd h q2
  · rw [hE] at q2; exact absurd h q2
end Go.Proofs.Ytkdikmfnchmphaa
