/- Contracts: lists of numbers, marks, entries: are two the same, may all of them be? -/
import Derived.Test.YtopidfkmligljaaGreatAc0
import Derived.Test.YtopidfkmligljaaGreatEg4
import Derived.Test.YtopidfkmligljaaGreatAc6
import Derived.Test.YtopidfkmligljaaGreatWq1
/- Entries and updates as rows; maps by keys of any kind; first places. Plain laws. -/
/- Own theory, no program in sight: the order of texts. -/
namespace Go.Am
set_option linter.unusedSimpArgs false
set_option linter.unusedVariables false
set_option maxHeartbeats 4000000
open Go Go.RowKit
/-- One text is ahead of another one. -/
def ltK (a b : ByteArray) : Bool := Op.bytesLess a.toList b.toList
theorem ltK_def (a b : ByteArray) : Op.bytesLess a.toList b.toList = ltK a b := rfl
attribute [irreducible] ltK
end Go.Am
namespace Go.Proofs.YtopidfkmligljaaGreat
open Go Go.Am Go.RowKit
set_option maxRecDepth 100000
set_option linter.unusedSimpArgs false
attribute [go_sem] ltK_def
end Go.Proofs.YtopidfkmligljaaGreat
namespace Go.Proofs.YtopidfkmligljaaGreat
set_option linter.unusedSimpArgs false
set_option linter.unusedVariables false
set_option maxHeartbeats 4000000
open Go Go.Am Go.RowKit
set_option maxRecDepth 100000
theorem ba_dec (a b : ByteArray) : (a == b) = decide (a = b) := by
  by_cases h : a = b
  · rw [decide_eq_true h]; exact (ba_iff a b).2 h
  · rw [decide_eq_false h]
    cases e : (a == b) with
    | false => rfl
    | true => exact absurd ((ba_iff a b).1 e) h
/-- The same entry? -/
abbrev eqE (a b : En) : Bool := a.key == b.key && (a.val == b.val && (a.dead == b.dead && (a.st.c == b.st.c && (a.st.s == b.st.s && (a.act.c == b.act.c && (a.act.s == b.act.s && (a.keep == b.keep && a.age == b.age)))))))
theorem eqE_iff (a b : En) : eqE a b = true ↔ a = b := by
  obtain ⟨a1, a2, a3, ⟨a4, a5⟩, ⟨a6, a7⟩, a8, a9⟩ := a
  obtain ⟨b1, b2, b3, ⟨b4, b5⟩, ⟨b6, b7⟩, b8, b9⟩ := b
  simp only [eqE, Bool.and_eq_true, beq_iff_eq, En.mk.injEq, St.mk.injEq, ba_iff, and_assoc]
instance : DecidableEq En := fun a b => decidable_of_iff _ (eqE_iff a b)
theorem eqE_dec (a b : En) : eqE a b = decide (a = b) := by
  by_cases h : a = b
  · rw [decide_eq_true h, eqE_iff]; exact h
  · rw [decide_eq_false h]
    cases e : eqE a b with
    | false => rfl
    | true => exact absurd ((eqE_iff a b).1 e) h
abbrev Re (off : Nat) (l : List En) : List AV := rowsC off EnL l
theorem re_ren (off : Nat) (l : List En) (ρ : List Nat) : renL ρ (Re off l) = Re off l := rowsC_ren (fun ρ x => by simp [renL, ren]) ρ l
theorem re_len (off : Nat) (l : List En) : (Re off l).length = off + l.length * 9 := rowsC_len (f := EnL) (k := 9) (fun _ => rfl) l
theorem re_at (off : Nat) (l : List En) (i : Nat) (h : i < l.length) : ((Re off l).drop (off + i * 9)).take 9 = EnL l[i] := rowsC_at (f := EnL) (k := 9) (fun _ => rfl) l i h
theorem re_nil : Re 0 [] = [] := rfl
theorem re_one (m : En) : Re 0 [m] = EnL m := rfl
theorem re_app (l m : List En) : Re 0 (l ++ m) = Re 0 l ++ Re 0 m := by simp [Re, rowsC]
theorem re_all (l : List En) {n : Nat} (h : n = l.length * 9) : (Re 0 l).take n = Re 0 l := List.take_of_length_le (by rw [re_len]; omega)
theorem re_put (l : List En) (i : Nat) (h : i < l.length) : Re 0 (l.take (i + 1)) = Re 0 (l.take i) ++ EnL l[i] := by
  rw [List.take_add_one, List.getElem?_eq_getElem h, Option.toList, re_app, re_one]
/-- A cell of a row. -/
theorem cell_at {l : List AV} {a k q : Nat} {x : List AV} (h : (l.drop a).take k = x) (hq : q < k) : l.getD (a + q) AV.bad = x.getD q AV.bad := by
  rw [List.getD_eq_getElem?_getD, List.getD_eq_getElem?_getD, ← h, List.getElem?_take, if_pos hq, List.getElem?_drop]
/-! ### Maps -/
section
variable {κ : Type} [DecidableEq κ]
end
/-! ### First places -/
def idxI {α : Type} (l : List α) (p : α → Bool) : Int := if l.findIdx p < l.length then (l.findIdx p : Int) else -1
theorem idxI_at {α : Type} {l : List α} {p : α → Bool} {i : Nat} (hi : i < l.length) (hq : ∀ q (h : q < l.length), q < i → p l[q] = false) (he : p l[i] = true) : idxI l p = i := by
  have : l.findIdx p = i := (List.findIdx_eq hi).2 ⟨he, fun j hj => hq j (by omega) hj⟩
  unfold idxI
  rw [this, if_pos hi]
theorem idxI_no {α : Type} {l : List α} {p : α → Bool} (h : ∀ q (h : q < l.length), p l[q] = false) : idxI l p = -1 := by
  have : l.findIdx p = l.length := List.findIdx_eq_length.2 fun x hx => by
    obtain ⟨q, hq, rfl⟩ := List.getElem_of_mem hx
    exact h q hq
  unfold idxI
  rw [this, if_neg (by omega)]
theorem idxI_cases {α : Type} (l : List α) (p : α → Bool) : (idxI l p = -1 ∧ ∀ x ∈ l, p x = false) ∨ ∃ i, ∃ h : i < l.length, idxI l p = i ∧ p l[i] = true := by
  unfold idxI
  by_cases h : l.findIdx p < l.length
  · rw [if_pos h]; exact .inr ⟨_, h, rfl, List.findIdx_getElem⟩
  · rw [if_neg h]
    refine .inl ⟨rfl, List.findIdx_eq_length.1 ?_⟩
    have := List.findIdx_le_length (xs := l) (p := p)
    omega
end Go.Proofs.YtopidfkmligljaaGreat
namespace Go.Proofs.YtopidfkmligljaaGreat
set_option linter.unusedSimpArgs false
set_option linter.unusedVariables false
set_option maxHeartbeats 4000000
open Go Go.Am Go.RowKit
set_option maxRecDepth 100000
set_option maxHeartbeats 4000000
/-- Rows of numbers. -/
abbrev Ri (off : Nat) (l : List Int) : List AV := rowsC off (fun n : Int => [I n]) l
theorem ri_ren (off : Nat) (l : List Int) (ρ : List Nat) : renL ρ (Ri off l) = Ri off l := rowsC_ren (fun ρ x => by simp [renL, ren]) ρ l
theorem ri_len (off : Nat) (l : List Int) : (Ri off l).length = off + l.length := by rw [rowsC_len (f := fun n : Int => [I n]) (k := 1) (fun _ => rfl) l, Nat.mul_one]
theorem ri_at (off : Nat) (l : List Int) (i : Nat) (h : i < l.length) : (Ri off l).getD (off + i) AV.bad = I l[i] := by
  have h1 : ((Ri off l).drop (off + i * 1)).take 1 = [I l[i]] := rowsC_at (f := fun n : Int => [I n]) (k := 1) (fun _ => rfl) l i h
  rw [Nat.mul_one] at h1
  have h2 := cell_at (a := off + i) (q := 0) h1 (by decide)
  rw [Nat.add_zero] at h2
  exact h2
theorem ri_nil : Ri 0 [] = [] := rfl
theorem ri_one (n : Int) : Ri 0 [n] = [I n] := rfl
theorem ri_app (l m : List Int) : Ri 0 (l ++ m) = Ri 0 l ++ Ri 0 m := by simp [Ri, rowsC]
theorem ri_all (l : List Int) {n : Nat} (h : n = l.length) : (Ri 0 l).take n = Ri 0 l := List.take_of_length_le (by rw [ri_len]; omega)
theorem bi_dec (x y : Int) : (x == y) = decide (x = y) := rfl
/-- Is there one that may not be? -/
theorem idx_all {α : Type} (l : List α) (p : α → Bool) : decide ((0 : Int) ≤ idxI l fun x => !p x) = !(l.all p) := by
  rcases idxI_cases l (fun x => !p x) with ⟨h1, h2⟩ | ⟨i, hi, h1, h2⟩
  · have : l.all p = true := List.all_eq_true.2 fun x hx => by have := h2 x hx; simpa using this
    rw [h1, this]; rfl
  · have : l.all p = false := by
      rw [List.all_eq_false]
      exact ⟨_, List.getElem_mem hi, by simpa using h2⟩
    rw [h1, this, decide_eq_true (by omega)]; rfl
/- slices.Equal[[]int,int] -/
noncomputable def c39_1 : ACode := .region false [⟨some 4, .move, [.c (.val (.bool false))], none⟩] [] [] [0, 1] false [] []
noncomputable def c39_4 : ACode := .region false [⟨some 6, .move, [.t 0], none⟩,
  ⟨some 7, .len, [.t 6], none⟩,
  ⟨some 8, .move, [.t 1], none⟩,
  ⟨some 9, .len, [.t 8], none⟩,
  ⟨some 10, .bin .neq, [.t 7, .t 9], none⟩] [] [] [0, 1, 10] false [] []
noncomputable def c39_7 : ACode := .region false [⟨some 4, .move, [.c (.val (.bool false))], none⟩] [] [] [4] false [] []
noncomputable def c39_6 : ACode := .seq c39_7 .ret
noncomputable def c39_5 : ACode := .cond (.t 10) c39_6 .skip
noncomputable def c39_3 : ACode := .seq c39_4 c39_5
noncomputable def c39_10 : ACode := .region false [⟨some 11, .move, [.t 0], none⟩,
  ⟨some 12, .len, [.t 11], none⟩,
  ⟨some 13, .move, [.c (.val (.int .i64 0))], none⟩] [] [] [0, 1, 12, 13] false [] []
noncomputable def c39_14 : ACode := .region false [⟨some 14, .bin .lss, [.t 13, .t 12], none⟩] [] [] [0, 1, 12, 13, 14] false [] []
noncomputable def c39_16 : ACode := .cond (.t 14) .skip (.exit 0)
noncomputable def c39_20 : ACode := .region false [⟨some 15, .move, [.t 13], none⟩,
  ⟨some 5, .move, [.t 15], none⟩] [] [] [0, 1, 5, 12, 13] false [] []
noncomputable def c39_22 : ACode := .region true [⟨some 16, .move, [.t 0], none⟩,
  ⟨some 17, .move, [.t 5], none⟩,
  ⟨some 18, .ixS 1, [.t 16, .t 17], none⟩,
  ⟨some 19, .load false 1, [.t 18], none⟩,
  ⟨some 20, .move, [.t 1], none⟩,
  ⟨some 21, .move, [.t 5], none⟩,
  ⟨some 22, .ixS 1, [.t 20, .t 21], none⟩,
  ⟨some 23, .load false 1, [.t 22], none⟩,
  ⟨some 24, .bin .neq, [.t 19, .t 23], none⟩] [] [] [0, 1, 12, 13, 24] false [] []
noncomputable def c39_25 : ACode := .region false [⟨some 4, .move, [.c (.val (.bool false))], none⟩] [] [] [4] false [] []
noncomputable def c39_24 : ACode := .seq c39_25 .ret
noncomputable def c39_23 : ACode := .cond (.t 24) c39_24 .skip
noncomputable def c39_21 : ACode := .seq c39_22 c39_23
noncomputable def c39_19 : ACode := .seq c39_20 c39_21
noncomputable def c39_18 : ACode := .block 1 c39_19
noncomputable def c39_26 : ACode := .region false [⟨some 25, .bin .add, [.t 13, .c (.val (.int .i64 1))], none⟩,
  ⟨some 13, .move, [.t 25], none⟩] [] [] [0, 1, 12, 13] false [] []
noncomputable def c39_17 : ACode := .seq c39_18 c39_26
noncomputable def c39_15 : ACode := .seq c39_16 c39_17
noncomputable def c39_13 : ACode := .seq c39_14 c39_15
noncomputable def c39_12 : ACode := .loop c39_13
noncomputable def c39_11 : ACode := .block 0 c39_12
noncomputable def c39_9 : ACode := .seq c39_10 c39_11
noncomputable def c39_28 : ACode := .region false [⟨some 4, .move, [.c (.val (.bool true))], none⟩] [] [] [4] false [] []
noncomputable def c39_27 : ACode := .seq c39_28 .ret
noncomputable def c39_8 : ACode := .seq c39_9 c39_27
noncomputable def c39_2 : ACode := .seq c39_3 c39_8
noncomputable def c39_0 : ACode := .seq c39_1 c39_2
noncomputable def code39 : Code := (Tryz.f39.body).getD .skip
theorem c39_ok : compC Tryz.prog 26 code39 = some (strip c39_0) := by kernel_rfl
theorem res39_ok : Tryz.f39.results.toList.mapM (resC Tryz.prog) = some [(4, none)] := by kernel_rfl
theorem eqli_any (o o' : Nat) (l m : List Int) (hl : l.length ≤ 1099511627776) (hm : m.length ≤ 1099511627776) : ACall Tryz.prog 39 [.sl 0 o l.length 1 none, .sl 1 o' m.length 1 none] [.cells true (Ri o l), .cells true (Ri o' m)] (Det (Bo (decide (l = m))) [.cells true (Ri o l), .cells true (Ri o' m)]) := by
  have hr := ri_ren
  have hL := ri_len o l
  have hL2 := ri_len o' m
  by_cases h0 : l.length = m.length
  · have g0 : ((l.length : Int) != (m.length : Int)) = false := by simp [h0]
    refine ACall.startA c39_ok Tryz.func39 rfl Tryz.ntmps39 (by kernel_rfl) res39_ok rfl rfl rfl ?_; simp (maxSteps := 9999999) (disch := omega) only [go_sem]
    (have k9 := And.intro @hr (And.intro @g0 (k0)); refine goK ?_; (try clear k9))
    (apply AWpA.loopL (fun i : Nat => [(0, .sl 0 o l.length 1 none), (1, .sl 1 o' m.length 1 none), (12, I l.length), (13, I i)]) (fun i => [.cells true (Ri o l), .cells true (Ri o' m)]) (fun i => l.length - i) (fun i => i ≤ l.length ∧ l.take i = m.take i) (0) [0, 1]; rotate_left; (focus (simp (maxSteps := 9999999) (disch := omega) only [go_sem, hr]; (try (repeat' (first | done | trivial | rfl | exact leAs_rfl _ | decide | (refine And.intro ?_ ?_) | (simp; done) | omega | (simp; decide)))))); rotate_right)
    · exact ⟨Nat.zero_le _, rfl⟩
    rintro i ⟨hi, hp⟩
    (try simp only at hi)
    by_cases hin : i < l.length
    · have g1 : ((i : Int) < (l.length : Int)) = True := eq_true (by omega)
      have hin2 : i < m.length := by omega
      have hat := ri_at o l i hin
      have hat2 := ri_at o' m i hin2
      have e1 : l.take (i + 1) = l.take i ++ [l[i]] := by rw [List.take_add_one, List.getElem?_eq_getElem hin]; rfl
      have e2 : m.take (i + 1) = m.take i ++ [m[i]] := by rw [List.take_add_one, List.getElem?_eq_getElem hin2]; rfl
      have e3 : l = m → l[i] = m[i] := fun h => by subst h; rfl
      generalize l[i] = x at hat e1 e3
      generalize m[i] = y at hat2 e2 e3
      have hx := bi_dec x y
      have hx2 : (x != y) = !decide (x = y) := by rw [← bi_dec x y]; rfl
      by_cases hxy : x = y
      · rw [decide_eq_true hxy] at hx
        (try rw [decide_eq_true hxy] at hx2)
        clear e3
        (try simp (maxSteps := 9999999) (disch := omega) only [go_sem])
        (have k9 := And.intro @g1 (And.intro @hr (And.intro @hat (And.intro @hat2 (And.intro @hL (And.intro @hL2 (And.intro @hx (And.intro @hx2 (k0)))))))); refine goK ?_; (try clear k9))
        (have k9 := And.intro @hr (k0); refine Back.tk (i + 1) [0, 1] ?_)
        exact ⟨by omega, by rw [e1, e2, hp, hxy]⟩
      · rw [decide_eq_false hxy] at hx
        (try rw [decide_eq_false hxy] at hx2)
        have g5 : decide (l = m) = false := decide_eq_false fun h => hxy (e3 h)
        rw [g5]
        clear e3 e1 e2 hp g5
        (try simp (maxSteps := 9999999) (disch := omega) only [go_sem])
        (have k9 := And.intro @g1 (And.intro @hr (And.intro @hat (And.intro @hat2 (And.intro @hL (And.intro @hL2 (And.intro @hx (And.intro @hx2 (k0)))))))); refine goK ?_; (try clear k9))
        (have k9 := And.intro @hr (k0); exact Ret.dk [0, 1])
    · obtain rfl : i = l.length := by omega
      have g1 : ((l.length : Int) < (l.length : Int)) = False := eq_false (by omega)
      have g5 : decide (l = m) = true := decide_eq_true (by rw [List.take_length, h0, List.take_length] at hp; exact hp)
      rw [g5]
      clear hp g5
      (try simp (maxSteps := 9999999) (disch := omega) only [go_sem])
      (have k9 := And.intro @g1 (k0); refine goK ?_; (try clear k9))
      (have k9 := And.intro @hr (k0); exact Ret.dk [0, 1])
  · have g0 : ((l.length : Int) != (m.length : Int)) = true := by simp; omega
    have g5 : decide (l = m) = false := decide_eq_false fun h => h0 (by rw [h])
    rw [g5]
    refine ACall.startA c39_ok Tryz.func39 rfl Tryz.ntmps39 (by kernel_rfl) res39_ok rfl rfl rfl ?_; simp (maxSteps := 9999999) (disch := omega) only [go_sem]
    (have k9 := And.intro @hr (And.intro @g0 (k0)); refine goK ?_; (try clear k9))
    (have k9 := And.intro @hr (k0); exact Ret.dk [0, 1])
/- quidnunc/wire.all[int]$1 -/
noncomputable def c117_1 : ACode := .region false [⟨some 3, .move, [.c (.val (.bool false))], none⟩] [] [] [0, 1] false [] []
noncomputable def c117_3 : ACode := .region false [⟨some 4, .load false 1, [.t 1], none⟩,
  ⟨some 5, .move, [.t 0], none⟩,
  ⟨some 6, .callv, [.t 4, .t 5], none⟩,
  ⟨some 7, .un .not, [.t 6], none⟩,
  ⟨some 3, .move, [.t 7], none⟩] [] [] [3] true [] []
noncomputable def c117_2 : ACode := .seq c117_3 .ret
noncomputable def c117_0 : ACode := .seq c117_1 c117_2
noncomputable def code117 : Code := (Tryz.f117.body).getD .skip
theorem c117_ok : compC Tryz.prog 8 code117 = some (strip c117_0) := by kernel_rfl
theorem res117_ok : Tryz.f117.results.toList.mapM (resC Tryz.prog) = some [(3, none)] := by kernel_rfl
/- slices.IndexFunc[[]int,int] -/
noncomputable def c136_1 : ACode := .region false [⟨some 4, .move, [.c (.val (.int .i64 0))], none⟩] [] [] [0, 1] false [] []
noncomputable def c136_4 : ACode := .region false [⟨some 6, .move, [.t 0], none⟩,
  ⟨some 7, .len, [.t 6], none⟩,
  ⟨some 8, .move, [.c (.val (.int .i64 0))], none⟩] [] [] [0, 1, 7, 8] false [] []
noncomputable def c136_8 : ACode := .region false [⟨some 9, .bin .lss, [.t 8, .t 7], none⟩] [] [] [0, 1, 7, 8, 9] false [] []
noncomputable def c136_10 : ACode := .cond (.t 9) .skip (.exit 0)
noncomputable def c136_14 : ACode := .region false [⟨some 10, .move, [.t 8], none⟩,
  ⟨some 5, .move, [.t 10], none⟩] [] [] [0, 1, 5, 7, 8] false [] []
noncomputable def c136_16 : ACode := .region false [⟨some 11, .move, [.t 1], none⟩,
  ⟨some 12, .move, [.t 0], none⟩,
  ⟨some 13, .move, [.t 5], none⟩,
  ⟨some 14, .ixS 1, [.t 12, .t 13], none⟩,
  ⟨some 15, .load false 1, [.t 14], none⟩,
  ⟨some 16, .callv, [.t 11, .t 15], none⟩] [] [] [0, 1, 5, 7, 8, 16] true [] []
noncomputable def c136_19 : ACode := .region false [⟨some 17, .move, [.t 5], none⟩,
  ⟨some 4, .move, [.t 17], none⟩] [] [] [4] false [] []
noncomputable def c136_18 : ACode := .seq c136_19 .ret
noncomputable def c136_17 : ACode := .cond (.t 16) c136_18 .skip
noncomputable def c136_15 : ACode := .seq c136_16 c136_17
noncomputable def c136_13 : ACode := .seq c136_14 c136_15
noncomputable def c136_12 : ACode := .block 1 c136_13
noncomputable def c136_20 : ACode := .region false [⟨some 18, .bin .add, [.t 8, .c (.val (.int .i64 1))], none⟩,
  ⟨some 8, .move, [.t 18], none⟩] [] [] [0, 1, 7, 8] false [] []
noncomputable def c136_11 : ACode := .seq c136_12 c136_20
noncomputable def c136_9 : ACode := .seq c136_10 c136_11
noncomputable def c136_7 : ACode := .seq c136_8 c136_9
noncomputable def c136_6 : ACode := .loop c136_7
noncomputable def c136_5 : ACode := .block 0 c136_6
noncomputable def c136_3 : ACode := .seq c136_4 c136_5
noncomputable def c136_22 : ACode := .region false [⟨some 4, .move, [.c (.val (.int .i64 (-1)))], none⟩] [] [] [4] false [] []
noncomputable def c136_21 : ACode := .seq c136_22 .ret
noncomputable def c136_2 : ACode := .seq c136_3 c136_21
noncomputable def c136_0 : ACode := .seq c136_1 c136_2
noncomputable def code136 : Code := (Tryz.f136.body).getD .skip
theorem c136_ok : compC Tryz.prog 19 code136 = some (strip c136_0) := by kernel_rfl
theorem res136_ok : Tryz.f136.results.toList.mapM (resC Tryz.prog) = some [(4, none)] := by kernel_rfl
/- slices.ContainsFunc[[]int,int] -/
noncomputable def c116_1 : ACode := .region false [⟨some 4, .move, [.c (.val (.bool false))], none⟩] [] [] [0, 1] false [] []
noncomputable def c116_3 : ACode := .region false [⟨some 5, .move, [.t 0], none⟩,
  ⟨some 6, .move, [.t 1], none⟩,
  ⟨some 7, .call 136, [.t 5, .t 6], none⟩,
  ⟨some 8, .bin .geq, [.t 7, .c (.val (.int .i64 0))], none⟩,
  ⟨some 4, .move, [.t 8], none⟩] [] [] [4] true [] []
noncomputable def c116_2 : ACode := .seq c116_3 .ret
noncomputable def c116_0 : ACode := .seq c116_1 c116_2
noncomputable def code116 : Code := (Tryz.f116.body).getD .skip
theorem c116_ok : compC Tryz.prog 9 code116 = some (strip c116_0) := by kernel_rfl
theorem res116_ok : Tryz.f116.results.toList.mapM (resC Tryz.prog) = some [(4, none)] := by kernel_rfl
/- quidnunc/wire.all[int] -/
noncomputable def c53_1 : ACode := .region false [⟨some 4, .box 0, [.t 1], none⟩,
  ⟨some 5, .box 0, [.t 2], none⟩,
  ⟨some 6, .move, [.c (.val (.bool false))], none⟩] [] [] [0, 4, 5] true [] []
noncomputable def c53_4 : ACode := .region false [⟨some 7, .move, [.t 0], none⟩,
  ⟨some 8, .len, [.t 7], none⟩,
  ⟨some 9, .ixA 2 1, [.t 4, .c (.val (.int .i64 0))], none⟩,
  ⟨some 10, .load false 1, [.t 9], none⟩,
  ⟨some 11, .bin .lss, [.t 8, .t 10], none⟩,
  ⟨some 12, .move, [.t 11], none⟩,
  ⟨some 13, .move, [.t 0], some (some 12, false)⟩,
  ⟨some 14, .len, [.t 13], some (some 12, false)⟩,
  ⟨some 15, .ixA 2 1, [.t 4, .c (.val (.int .i64 1))], some (some 12, false)⟩,
  ⟨some 16, .load false 1, [.t 15], some (some 12, false)⟩,
  ⟨some 17, .bin .gtr, [.t 14, .t 16], some (some 12, false)⟩,
  ⟨some 18, .pick, [.t 12, .c (.val (.bool true)), .t 17], none⟩] [] [] [0, 5, 18] false [] []
noncomputable def c53_7 : ACode := .region false [⟨some 6, .move, [.c (.val (.bool false))], none⟩] [] [] [6] false [] []
noncomputable def c53_6 : ACode := .seq c53_7 .ret
noncomputable def c53_5 : ACode := .cond (.t 18) c53_6 .skip
noncomputable def c53_3 : ACode := .seq c53_4 c53_5
noncomputable def c53_9 : ACode := .region false [⟨some 19, .move, [.t 0], none⟩,
  ⟨some 20, .mkFn 117 0, [.t 5], none⟩,
  ⟨some 21, .call 116, [.t 19, .t 20], none⟩,
  ⟨some 22, .un .not, [.t 21], none⟩,
  ⟨some 6, .move, [.t 22], none⟩] [] [] [6] true [] []
noncomputable def c53_8 : ACode := .seq c53_9 .ret
noncomputable def c53_2 : ACode := .seq c53_3 c53_8
noncomputable def c53_0 : ACode := .seq c53_1 c53_2
noncomputable def code53 : Code := (Tryz.f53.body).getD .skip
theorem c53_ok : compC Tryz.prog 23 code53 = some (strip c53_0) := by kernel_rfl
theorem res53_ok : Tryz.f53.results.toList.mapM (resC Tryz.prog) = some [(6, none)] := by kernel_rfl
theorem all1i_any {F : Nat} {b : Bool} (x : Int) (hp : ACall Tryz.prog F [I x] [] (Det (Bo b) [])) : ACall Tryz.prog 117 [I x, .ptr 0 0] [.cells true [.fn F [] []]] (Det (Bo (!b)) [.cells true [.fn F [] []]]) := by
  refine ACall.startA c117_ok Tryz.func117 rfl Tryz.ntmps117 (by kernel_rfl) res117_ok rfl rfl rfl ?_; simp (maxSteps := 9999999) (disch := omega) only [go_sem]
  (have k9 := k0; have a1 := Arm.mk [] hp; refine goK ?_; (try clear k9); (try clear a1))
  (have k9 := k0; exact Ret.dk [0])
theorem idxi_any {F : Nat} {p : Int → Bool} (o : Nat) (l : List Int) (hl : l.length ≤ 1099511627776) (hp : ∀ x ∈ l, ACall Tryz.prog F [I x] [] (Det (Bo (p x)) [])) : ACall Tryz.prog 136 [.sl 0 o l.length 1 none, .fn 117 [] [.ptr 1 0]] [.cells true (Ri o l), .cells true [.fn F [] []]] (Det (I (idxI l fun x => !p x)) [.cells true (Ri o l), .cells true [.fn F [] []]]) := by
  have hr := ri_ren
  have hL := ri_len o l
  refine ACall.startA c136_ok Tryz.func136 rfl Tryz.ntmps136 (by kernel_rfl) res136_ok rfl rfl rfl ?_; simp (maxSteps := 9999999) (disch := omega) only [go_sem]
  (have k9 := And.intro @hr (k0); refine goK ?_; (try clear k9))
  (apply AWpA.loopL (fun i : Nat => [(0, .sl 0 o l.length 1 none), (1, .fn 117 [] [.ptr 1 0]), (7, I l.length), (8, I i)]) (fun i => [.cells true (Ri o l), .cells true [.fn F [] []]]) (fun i => l.length - i) (fun i => i ≤ l.length ∧ ∀ q (h : q < l.length), q < i → (!p l[q]) = false) (0) [0, 1]; rotate_left; (focus (simp (maxSteps := 9999999) (disch := omega) only [go_sem, hr]; (try (repeat' (first | done | trivial | rfl | exact leAs_rfl _ | decide | (refine And.intro ?_ ?_) | (simp; done) | omega | (simp; decide)))))); rotate_right)
  · exact ⟨Nat.zero_le _, fun q h hq => by omega⟩
  rintro i ⟨hi, hq⟩
  (try simp only at hi hq)
  by_cases hin : i < l.length
  · have g1 : ((i : Int) < (l.length : Int)) = True := eq_true (by omega)
    have hat := ri_at o l i hin
    have c := all1i_any l[i] (hp _ (List.getElem_mem hin))
    have hfe : (!p l[i]) = true → idxI l (fun x => !p x) = i := fun h => idxI_at (p := fun x => !p x) hin hq h
    have hn : (!p l[i]) = false → ∀ q (h : q < l.length), q < i + 1 → (!p l[q]) = false := fun h q hl hq' => by
      rcases Nat.lt_or_eq_of_le (Nat.le_of_lt_succ hq') with h' | rfl
      · exact hq q hl h'
      · exact h
    clear hq hp
    generalize (!p l[i]) = b at *
    generalize l[i] = x at *
    cases b with
    | true =>
      rw [hfe rfl]
      clear hfe hn
      (try simp (maxSteps := 9999999) (disch := omega) only [go_sem])
      (have k9 := And.intro @hr (And.intro @hL (And.intro @g1 (And.intro @hat (k0)))); have a1 := Arm.mk [1] c; refine goK ?_; (try clear k9); (try clear a1))
      (have k9 := And.intro @hr (k0); exact Ret.dk [0, 1])
    | false =>
      have hn := hn rfl
      clear hfe
      (try simp (maxSteps := 9999999) (disch := omega) only [go_sem])
      (have k9 := And.intro @hr (And.intro @hL (And.intro @g1 (And.intro @hat (k0)))); have a1 := Arm.mk [1] c; refine goK ?_; (try clear k9); (try clear a1))
      (have k9 := And.intro @hr (k0); refine Back.tk (i + 1) [0, 1] ?_)
      exact ⟨by omega, hn⟩
  · obtain rfl : i = l.length := by omega
    have g1 : ((l.length : Int) < (l.length : Int)) = False := eq_false (by omega)
    have hno : idxI l (fun x => !p x) = -1 := idxI_no fun q h => hq q h h
    rw [hno]
    clear hq hno hp
    (try simp (maxSteps := 9999999) (disch := omega) only [go_sem])
    (have k9 := And.intro @hr (And.intro @g1 (k0)); refine goK ?_; (try clear k9))
    (have k9 := And.intro @hr (k0); exact Ret.dk [0, 1])
theorem conti_any {F : Nat} {p : Int → Bool} (o : Nat) (l : List Int) (hl : l.length ≤ 1099511627776) (hp : ∀ x ∈ l, ACall Tryz.prog F [I x] [] (Det (Bo (p x)) [])) : ACall Tryz.prog 116 [.sl 0 o l.length 1 none, .fn 117 [] [.ptr 1 0]] [.cells true (Ri o l), .cells true [.fn F [] []]] (Det (Bo (!(l.all p))) [.cells true (Ri o l), .cells true [.fn F [] []]]) := by
  have hr := ri_ren
  have c := idxi_any o l hl hp
  rw [← idx_all]
  generalize (idxI l fun x => !p x) = r at *
  clear hp
  refine ACall.startA c116_ok Tryz.func116 rfl Tryz.ntmps116 (by kernel_rfl) res116_ok rfl rfl rfl ?_; simp (maxSteps := 9999999) (disch := omega) only [go_sem]
  (have k9 := And.intro @hr (k0); have a1 := Arm.mk [0, 1] c; refine goK ?_; (try clear k9); (try clear a1))
  (have k9 := And.intro @hr (k0); exact Ret.dk [0, 1])
theorem alli_any {F : Nat} {p : Int → Bool} (o : Nat) (l : List Int) (hl : l.length ≤ 1099511627776) (hp : ∀ x ∈ l, ACall Tryz.prog F [I x] [] (Det (Bo (p x)) [])) (lo hi : Int) : ACall Tryz.prog 53 [.sl 0 o l.length 1 none, .agg [I lo, I hi], .fn F [] []] [.cells true (Ri o l)] (Det (Bo (decide (lo ≤ (l.length : Int)) && (decide ((l.length : Int) ≤ hi) && l.all p))) [.cells true (Ri o l)]) := by
  have hr := ri_ren
  have c := conti_any o l hl hp
  clear hp
  generalize l.all p = b at *
  by_cases h1 : (l.length : Int) < lo
  · rw [decide_eq_false (by omega : ¬ lo ≤ (l.length : Int)), Bool.false_and]
    have g1 : ((l.length : Int) < lo) = True := eq_true h1
    refine ACall.startA c53_ok Tryz.func53 rfl Tryz.ntmps53 (by kernel_rfl) res53_ok rfl rfl rfl ?_; simp (maxSteps := 9999999) (disch := omega) only [go_sem]
    (have k9 := And.intro @hr (And.intro @g1 (k0)); refine goK ?_; (try clear k9))
    (have k9 := And.intro @hr (k0); exact Ret.dk [0])
  · rw [decide_eq_true (by omega : lo ≤ (l.length : Int)), Bool.true_and]
    have g1 : ((l.length : Int) < lo) = False := eq_false h1
    by_cases h2 : hi < (l.length : Int)
    · rw [decide_eq_false (by omega : ¬ (l.length : Int) ≤ hi), Bool.false_and]
      have g2 : (hi < (l.length : Int)) = True := eq_true h2
      refine ACall.startA c53_ok Tryz.func53 rfl Tryz.ntmps53 (by kernel_rfl) res53_ok rfl rfl rfl ?_; simp (maxSteps := 9999999) (disch := omega) only [go_sem]
      (have k9 := And.intro @hr (And.intro @g1 (And.intro @g2 (k0))); refine goK ?_; (try clear k9))
      (have k9 := And.intro @hr (k0); exact Ret.dk [0])
    · rw [decide_eq_true (by omega : (l.length : Int) ≤ hi), Bool.true_and]
      have g2 : (hi < (l.length : Int)) = False := eq_false h2
      cases b
      all_goals
        simp only [Bool.not_true, Bool.not_false] at c
        refine ACall.startA c53_ok Tryz.func53 rfl Tryz.ntmps53 (by kernel_rfl) res53_ok rfl rfl rfl ?_; simp (maxSteps := 9999999) (disch := omega) only [go_sem]
        (have k9 := And.intro @hr (And.intro @g1 (And.intro @g2 (k0))); have a1 := Arm.mk [0, 17] c; refine goK ?_; (try clear k9); (try clear a1))
        (have k9 := And.intro @hr (k0); exact Ret.dk [0])
/- slices.Equal[[]quidnunc/api.Mark,quidnunc/api.Mark] -/
noncomputable def c40_1 : ACode := .region false [⟨some 4, .move, [.c (.val (.bool false))], none⟩] [] [] [0, 1] false [] []
noncomputable def c40_4 : ACode := .region false [⟨some 6, .move, [.t 0], none⟩,
  ⟨some 7, .len, [.t 6], none⟩,
  ⟨some 8, .move, [.t 1], none⟩,
  ⟨some 9, .len, [.t 8], none⟩,
  ⟨some 10, .bin .neq, [.t 7, .t 9], none⟩] [] [] [0, 1, 10] false [] []
noncomputable def c40_7 : ACode := .region false [⟨some 4, .move, [.c (.val (.bool false))], none⟩] [] [] [4] false [] []
noncomputable def c40_6 : ACode := .seq c40_7 .ret
noncomputable def c40_5 : ACode := .cond (.t 10) c40_6 .skip
noncomputable def c40_3 : ACode := .seq c40_4 c40_5
noncomputable def c40_10 : ACode := .region false [⟨some 11, .move, [.t 0], none⟩,
  ⟨some 12, .len, [.t 11], none⟩,
  ⟨some 13, .move, [.c (.val (.int .i64 0))], none⟩] [] [] [0, 1, 12, 13] false [] []
noncomputable def c40_14 : ACode := .region false [⟨some 14, .bin .lss, [.t 13, .t 12], none⟩] [] [] [0, 1, 12, 13, 14] false [] []
noncomputable def c40_16 : ACode := .cond (.t 14) .skip (.exit 0)
noncomputable def c40_20 : ACode := .region false [⟨some 15, .move, [.t 13], none⟩,
  ⟨some 5, .move, [.t 15], none⟩] [] [] [0, 1, 5, 12, 13] false [] []
noncomputable def c40_22 : ACode := .region true [⟨some 16, .move, [.t 0], none⟩,
  ⟨some 17, .move, [.t 5], none⟩,
  ⟨some 18, .ixS 3, [.t 16, .t 17], none⟩,
  ⟨some 19, .load true 3, [.t 18], none⟩,
  ⟨some 20, .move, [.t 1], none⟩,
  ⟨some 21, .move, [.t 5], none⟩,
  ⟨some 22, .ixS 3, [.t 20, .t 21], none⟩,
  ⟨some 23, .load true 3, [.t 22], none⟩,
  ⟨some 24, .eqA true [(0, 0), (1, 0), (2, 1)], [.t 19, .t 23], none⟩] [] [] [0, 1, 12, 13, 24] false [] []
noncomputable def c40_25 : ACode := .region false [⟨some 4, .move, [.c (.val (.bool false))], none⟩] [] [] [4] false [] []
noncomputable def c40_24 : ACode := .seq c40_25 .ret
noncomputable def c40_23 : ACode := .cond (.t 24) c40_24 .skip
noncomputable def c40_21 : ACode := .seq c40_22 c40_23
noncomputable def c40_19 : ACode := .seq c40_20 c40_21
noncomputable def c40_18 : ACode := .block 1 c40_19
noncomputable def c40_26 : ACode := .region false [⟨some 25, .bin .add, [.t 13, .c (.val (.int .i64 1))], none⟩,
  ⟨some 13, .move, [.t 25], none⟩] [] [] [0, 1, 12, 13] false [] []
noncomputable def c40_17 : ACode := .seq c40_18 c40_26
noncomputable def c40_15 : ACode := .seq c40_16 c40_17
noncomputable def c40_13 : ACode := .seq c40_14 c40_15
noncomputable def c40_12 : ACode := .loop c40_13
noncomputable def c40_11 : ACode := .block 0 c40_12
noncomputable def c40_9 : ACode := .seq c40_10 c40_11
noncomputable def c40_28 : ACode := .region false [⟨some 4, .move, [.c (.val (.bool true))], none⟩] [] [] [4] false [] []
noncomputable def c40_27 : ACode := .seq c40_28 .ret
noncomputable def c40_8 : ACode := .seq c40_9 c40_27
noncomputable def c40_2 : ACode := .seq c40_3 c40_8
noncomputable def c40_0 : ACode := .seq c40_1 c40_2
noncomputable def code40 : Code := (Tryz.f40.body).getD .skip
theorem c40_ok : compC Tryz.prog 26 code40 = some (strip c40_0) := by kernel_rfl
theorem res40_ok : Tryz.f40.results.toList.mapM (resC Tryz.prog) = some [(4, none)] := by kernel_rfl
theorem eqlm_any (o o' : Nat) (l m : List Mk) (hl : l.length ≤ 1099511627776) (hm : m.length ≤ 1099511627776) : ACall Tryz.prog 40 [.sl 0 o l.length 3 none, .sl 1 o' m.length 3 none] [.cells true (Rm o l), .cells true (Rm o' m)] (Det (Bo (decide (l = m))) [.cells true (Rm o l), .cells true (Rm o' m)]) := by
  have hr := rm_ren
  have hL := rm_len o l
  have hL2 := rm_len o' m
  by_cases h0 : l.length = m.length
  · have g0 : ((l.length : Int) != (m.length : Int)) = false := by simp [h0]
    refine ACall.startA c40_ok Tryz.func40 rfl Tryz.ntmps40 (by kernel_rfl) res40_ok rfl rfl rfl ?_; simp (maxSteps := 9999999) (disch := omega) only [go_sem]
    (have k9 := And.intro @hr (And.intro @g0 (k0)); refine goK ?_; (try clear k9))
    (apply AWpA.loopL (fun i : Nat => [(0, .sl 0 o l.length 3 none), (1, .sl 1 o' m.length 3 none), (12, I l.length), (13, I i)]) (fun i => [.cells true (Rm o l), .cells true (Rm o' m)]) (fun i => l.length - i) (fun i => i ≤ l.length ∧ l.take i = m.take i) (0) [0, 1]; rotate_left; (focus (simp (maxSteps := 9999999) (disch := omega) only [go_sem, hr]; (try (repeat' (first | done | trivial | rfl | exact leAs_rfl _ | decide | (refine And.intro ?_ ?_) | (simp; done) | omega | (simp; decide)))))); rotate_right)
    · exact ⟨Nat.zero_le _, rfl⟩
    rintro i ⟨hi, hp⟩
    (try simp only at hi)
    by_cases hin : i < l.length
    · have g1 : ((i : Int) < (l.length : Int)) = True := eq_true (by omega)
      have hin2 : i < m.length := by omega
      have hat := rm_at o l i hin
      have hat2 := rm_at o' m i hin2
      have e1 : l.take (i + 1) = l.take i ++ [l[i]] := by rw [List.take_add_one, List.getElem?_eq_getElem hin]; rfl
      have e2 : m.take (i + 1) = m.take i ++ [m[i]] := by rw [List.take_add_one, List.getElem?_eq_getElem hin2]; rfl
      have e3 : l = m → l[i] = m[i] := fun h => by subst h; rfl
      generalize l[i] = x at hat e1 e3
      generalize m[i] = y at hat2 e2 e3
      have hx := mkE_dec x y
      have hx2 := True.intro
      by_cases hxy : x = y
      · rw [decide_eq_true hxy] at hx
        (try rw [decide_eq_true hxy] at hx2)
        clear e3
        (try simp (maxSteps := 9999999) (disch := omega) only [go_sem])
        (have k9 := And.intro @g1 (And.intro @hr (And.intro @hat (And.intro @hat2 (And.intro @hL (And.intro @hL2 (And.intro @hx (And.intro @hx2 (k0)))))))); refine goK ?_; (try clear k9))
        (have k9 := And.intro @hr (k0); refine Back.tk (i + 1) [0, 1] ?_)
        exact ⟨by omega, by rw [e1, e2, hp, hxy]⟩
      · rw [decide_eq_false hxy] at hx
        (try rw [decide_eq_false hxy] at hx2)
        have g5 : decide (l = m) = false := decide_eq_false fun h => hxy (e3 h)
        rw [g5]
        clear e3 e1 e2 hp g5
        (try simp (maxSteps := 9999999) (disch := omega) only [go_sem])
        (have k9 := And.intro @g1 (And.intro @hr (And.intro @hat (And.intro @hat2 (And.intro @hL (And.intro @hL2 (And.intro @hx (And.intro @hx2 (k0)))))))); refine goK ?_; (try clear k9))
        (have k9 := And.intro @hr (k0); exact Ret.dk [0, 1])
    · obtain rfl : i = l.length := by omega
      have g1 : ((l.length : Int) < (l.length : Int)) = False := eq_false (by omega)
      have g5 : decide (l = m) = true := decide_eq_true (by rw [List.take_length, h0, List.take_length] at hp; exact hp)
      rw [g5]
      clear hp g5
      (try simp (maxSteps := 9999999) (disch := omega) only [go_sem])
      (have k9 := And.intro @g1 (k0); refine goK ?_; (try clear k9))
      (have k9 := And.intro @hr (k0); exact Ret.dk [0, 1])
  · have g0 : ((l.length : Int) != (m.length : Int)) = true := by simp; omega
    have g5 : decide (l = m) = false := decide_eq_false fun h => h0 (by rw [h])
    rw [g5]
    refine ACall.startA c40_ok Tryz.func40 rfl Tryz.ntmps40 (by kernel_rfl) res40_ok rfl rfl rfl ?_; simp (maxSteps := 9999999) (disch := omega) only [go_sem]
    (have k9 := And.intro @hr (And.intro @g0 (k0)); refine goK ?_; (try clear k9))
    (have k9 := And.intro @hr (k0); exact Ret.dk [0, 1])
/- quidnunc/wire.all[quidnunc/api.Mark]$1 -/
noncomputable def c119_1 : ACode := .region false [⟨some 2, .box 0, [.t 0], none⟩,
  ⟨some 3, .move, [.c (.val (.bool false))], none⟩] [] [] [1, 2] true [] []
noncomputable def c119_3 : ACode := .region false [⟨some 4, .load false 1, [.t 1], none⟩,
  ⟨some 5, .load true 3, [.t 2], none⟩,
  ⟨some 6, .callv, [.t 4, .t 5], none⟩,
  ⟨some 7, .un .not, [.t 6], none⟩,
  ⟨some 3, .move, [.t 7], none⟩] [] [] [3] true [] []
noncomputable def c119_2 : ACode := .seq c119_3 .ret
noncomputable def c119_0 : ACode := .seq c119_1 c119_2
noncomputable def code119 : Code := (Tryz.f119.body).getD .skip
theorem c119_ok : compC Tryz.prog 8 code119 = some (strip c119_0) := by kernel_rfl
theorem res119_ok : Tryz.f119.results.toList.mapM (resC Tryz.prog) = some [(3, none)] := by kernel_rfl
/- slices.IndexFunc[[]quidnunc/api.Mark,quidnunc/api.Mark] -/
noncomputable def c137_1 : ACode := .region false [⟨some 4, .move, [.c (.val (.int .i64 0))], none⟩] [] [] [0, 1] false [] []
noncomputable def c137_4 : ACode := .region false [⟨some 6, .move, [.t 0], none⟩,
  ⟨some 7, .len, [.t 6], none⟩,
  ⟨some 8, .move, [.c (.val (.int .i64 0))], none⟩] [] [] [0, 1, 7, 8] false [] []
noncomputable def c137_8 : ACode := .region false [⟨some 9, .bin .lss, [.t 8, .t 7], none⟩] [] [] [0, 1, 7, 8, 9] false [] []
noncomputable def c137_10 : ACode := .cond (.t 9) .skip (.exit 0)
noncomputable def c137_14 : ACode := .region false [⟨some 10, .move, [.t 8], none⟩,
  ⟨some 5, .move, [.t 10], none⟩] [] [] [0, 1, 5, 7, 8] false [] []
noncomputable def c137_16 : ACode := .region false [⟨some 11, .move, [.t 1], none⟩,
  ⟨some 12, .move, [.t 0], none⟩,
  ⟨some 13, .move, [.t 5], none⟩,
  ⟨some 14, .ixS 3, [.t 12, .t 13], none⟩,
  ⟨some 15, .load true 3, [.t 14], none⟩,
  ⟨some 16, .callv, [.t 11, .t 15], none⟩] [] [] [0, 1, 5, 7, 8, 16] true [] []
noncomputable def c137_19 : ACode := .region false [⟨some 17, .move, [.t 5], none⟩,
  ⟨some 4, .move, [.t 17], none⟩] [] [] [4] false [] []
noncomputable def c137_18 : ACode := .seq c137_19 .ret
noncomputable def c137_17 : ACode := .cond (.t 16) c137_18 .skip
noncomputable def c137_15 : ACode := .seq c137_16 c137_17
noncomputable def c137_13 : ACode := .seq c137_14 c137_15
noncomputable def c137_12 : ACode := .block 1 c137_13
noncomputable def c137_20 : ACode := .region false [⟨some 18, .bin .add, [.t 8, .c (.val (.int .i64 1))], none⟩,
  ⟨some 8, .move, [.t 18], none⟩] [] [] [0, 1, 7, 8] false [] []
noncomputable def c137_11 : ACode := .seq c137_12 c137_20
noncomputable def c137_9 : ACode := .seq c137_10 c137_11
noncomputable def c137_7 : ACode := .seq c137_8 c137_9
noncomputable def c137_6 : ACode := .loop c137_7
noncomputable def c137_5 : ACode := .block 0 c137_6
noncomputable def c137_3 : ACode := .seq c137_4 c137_5
noncomputable def c137_22 : ACode := .region false [⟨some 4, .move, [.c (.val (.int .i64 (-1)))], none⟩] [] [] [4] false [] []
noncomputable def c137_21 : ACode := .seq c137_22 .ret
noncomputable def c137_2 : ACode := .seq c137_3 c137_21
noncomputable def c137_0 : ACode := .seq c137_1 c137_2
noncomputable def code137 : Code := (Tryz.f137.body).getD .skip
theorem c137_ok : compC Tryz.prog 19 code137 = some (strip c137_0) := by kernel_rfl
theorem res137_ok : Tryz.f137.results.toList.mapM (resC Tryz.prog) = some [(4, none)] := by kernel_rfl
/- slices.ContainsFunc[[]quidnunc/api.Mark,quidnunc/api.Mark] -/
noncomputable def c118_1 : ACode := .region false [⟨some 4, .move, [.c (.val (.bool false))], none⟩] [] [] [0, 1] false [] []
noncomputable def c118_3 : ACode := .region false [⟨some 5, .move, [.t 0], none⟩,
  ⟨some 6, .move, [.t 1], none⟩,
  ⟨some 7, .call 137, [.t 5, .t 6], none⟩,
  ⟨some 8, .bin .geq, [.t 7, .c (.val (.int .i64 0))], none⟩,
  ⟨some 4, .move, [.t 8], none⟩] [] [] [4] true [] []
noncomputable def c118_2 : ACode := .seq c118_3 .ret
noncomputable def c118_0 : ACode := .seq c118_1 c118_2
noncomputable def code118 : Code := (Tryz.f118.body).getD .skip
theorem c118_ok : compC Tryz.prog 9 code118 = some (strip c118_0) := by kernel_rfl
theorem res118_ok : Tryz.f118.results.toList.mapM (resC Tryz.prog) = some [(4, none)] := by kernel_rfl
/- quidnunc/wire.all[quidnunc/api.Mark] -/
noncomputable def c54_1 : ACode := .region false [⟨some 4, .box 0, [.t 1], none⟩,
  ⟨some 5, .box 0, [.t 2], none⟩,
  ⟨some 6, .move, [.c (.val (.bool false))], none⟩] [] [] [0, 4, 5] true [] []
noncomputable def c54_4 : ACode := .region false [⟨some 7, .move, [.t 0], none⟩,
  ⟨some 8, .len, [.t 7], none⟩,
  ⟨some 9, .ixA 2 1, [.t 4, .c (.val (.int .i64 0))], none⟩,
  ⟨some 10, .load false 1, [.t 9], none⟩,
  ⟨some 11, .bin .lss, [.t 8, .t 10], none⟩,
  ⟨some 12, .move, [.t 11], none⟩,
  ⟨some 13, .move, [.t 0], some (some 12, false)⟩,
  ⟨some 14, .len, [.t 13], some (some 12, false)⟩,
  ⟨some 15, .ixA 2 1, [.t 4, .c (.val (.int .i64 1))], some (some 12, false)⟩,
  ⟨some 16, .load false 1, [.t 15], some (some 12, false)⟩,
  ⟨some 17, .bin .gtr, [.t 14, .t 16], some (some 12, false)⟩,
  ⟨some 18, .pick, [.t 12, .c (.val (.bool true)), .t 17], none⟩] [] [] [0, 5, 18] false [] []
noncomputable def c54_7 : ACode := .region false [⟨some 6, .move, [.c (.val (.bool false))], none⟩] [] [] [6] false [] []
noncomputable def c54_6 : ACode := .seq c54_7 .ret
noncomputable def c54_5 : ACode := .cond (.t 18) c54_6 .skip
noncomputable def c54_3 : ACode := .seq c54_4 c54_5
noncomputable def c54_9 : ACode := .region false [⟨some 19, .move, [.t 0], none⟩,
  ⟨some 20, .mkFn 119 0, [.t 5], none⟩,
  ⟨some 21, .call 118, [.t 19, .t 20], none⟩,
  ⟨some 22, .un .not, [.t 21], none⟩,
  ⟨some 6, .move, [.t 22], none⟩] [] [] [6] true [] []
noncomputable def c54_8 : ACode := .seq c54_9 .ret
noncomputable def c54_2 : ACode := .seq c54_3 c54_8
noncomputable def c54_0 : ACode := .seq c54_1 c54_2
noncomputable def code54 : Code := (Tryz.f54.body).getD .skip
theorem c54_ok : compC Tryz.prog 23 code54 = some (strip c54_0) := by kernel_rfl
theorem res54_ok : Tryz.f54.results.toList.mapM (resC Tryz.prog) = some [(6, none)] := by kernel_rfl
theorem all1m_any {F : Nat} {b : Bool} (x : Mk) (hp : ACall Tryz.prog F [MkG x] [] (Det (Bo b) [])) : ACall Tryz.prog 119 [MkG x, .ptr 0 0] [.cells true [.fn F [] []]] (Det (Bo (!b)) [.cells true [.fn F [] []]]) := by
  refine ACall.startA c119_ok Tryz.func119 rfl Tryz.ntmps119 (by kernel_rfl) res119_ok rfl rfl rfl ?_; simp (maxSteps := 9999999) (disch := omega) only [go_sem]
  (have k9 := k0; have a1 := Arm.mk [] hp; refine goK ?_; (try clear k9); (try clear a1))
  (have k9 := k0; exact Ret.dk [0])
theorem idxm_any {F : Nat} {p : Mk → Bool} (o : Nat) (l : List Mk) (hl : l.length ≤ 1099511627776) (hp : ∀ x ∈ l, ACall Tryz.prog F [MkG x] [] (Det (Bo (p x)) [])) : ACall Tryz.prog 137 [.sl 0 o l.length 3 none, .fn 119 [] [.ptr 1 0]] [.cells true (Rm o l), .cells true [.fn F [] []]] (Det (I (idxI l fun x => !p x)) [.cells true (Rm o l), .cells true [.fn F [] []]]) := by
  have hr := rm_ren
  have hL := rm_len o l
  refine ACall.startA c137_ok Tryz.func137 rfl Tryz.ntmps137 (by kernel_rfl) res137_ok rfl rfl rfl ?_; simp (maxSteps := 9999999) (disch := omega) only [go_sem]
  (have k9 := And.intro @hr (k0); refine goK ?_; (try clear k9))
  (apply AWpA.loopL (fun i : Nat => [(0, .sl 0 o l.length 3 none), (1, .fn 119 [] [.ptr 1 0]), (7, I l.length), (8, I i)]) (fun i => [.cells true (Rm o l), .cells true [.fn F [] []]]) (fun i => l.length - i) (fun i => i ≤ l.length ∧ ∀ q (h : q < l.length), q < i → (!p l[q]) = false) (0) [0, 1]; rotate_left; (focus (simp (maxSteps := 9999999) (disch := omega) only [go_sem, hr]; (try (repeat' (first | done | trivial | rfl | exact leAs_rfl _ | decide | (refine And.intro ?_ ?_) | (simp; done) | omega | (simp; decide)))))); rotate_right)
  · exact ⟨Nat.zero_le _, fun q h hq => by omega⟩
  rintro i ⟨hi, hq⟩
  (try simp only at hi hq)
  by_cases hin : i < l.length
  · have g1 : ((i : Int) < (l.length : Int)) = True := eq_true (by omega)
    have hat := rm_at o l i hin
    have c := all1m_any l[i] (hp _ (List.getElem_mem hin))
    have hfe : (!p l[i]) = true → idxI l (fun x => !p x) = i := fun h => idxI_at (p := fun x => !p x) hin hq h
    have hn : (!p l[i]) = false → ∀ q (h : q < l.length), q < i + 1 → (!p l[q]) = false := fun h q hl hq' => by
      rcases Nat.lt_or_eq_of_le (Nat.le_of_lt_succ hq') with h' | rfl
      · exact hq q hl h'
      · exact h
    clear hq hp
    generalize (!p l[i]) = b at *
    generalize l[i] = x at *
    cases b with
    | true =>
      rw [hfe rfl]
      clear hfe hn
      (try simp (maxSteps := 9999999) (disch := omega) only [go_sem])
      (have k9 := And.intro @hr (And.intro @hL (And.intro @g1 (And.intro @hat (k0)))); have a1 := Arm.mk [1] c; refine goK ?_; (try clear k9); (try clear a1))
      (have k9 := And.intro @hr (k0); exact Ret.dk [0, 1])
    | false =>
      have hn := hn rfl
      clear hfe
      (try simp (maxSteps := 9999999) (disch := omega) only [go_sem])
      (have k9 := And.intro @hr (And.intro @hL (And.intro @g1 (And.intro @hat (k0)))); have a1 := Arm.mk [1] c; refine goK ?_; (try clear k9); (try clear a1))
      (have k9 := And.intro @hr (k0); refine Back.tk (i + 1) [0, 1] ?_)
      exact ⟨by omega, hn⟩
  · obtain rfl : i = l.length := by omega
    have g1 : ((l.length : Int) < (l.length : Int)) = False := eq_false (by omega)
    have hno : idxI l (fun x => !p x) = -1 := idxI_no fun q h => hq q h h
    rw [hno]
    clear hq hno hp
    (try simp (maxSteps := 9999999) (disch := omega) only [go_sem])
    (have k9 := And.intro @hr (And.intro @g1 (k0)); refine goK ?_; (try clear k9))
    (have k9 := And.intro @hr (k0); exact Ret.dk [0, 1])
theorem contm_any {F : Nat} {p : Mk → Bool} (o : Nat) (l : List Mk) (hl : l.length ≤ 1099511627776) (hp : ∀ x ∈ l, ACall Tryz.prog F [MkG x] [] (Det (Bo (p x)) [])) : ACall Tryz.prog 118 [.sl 0 o l.length 3 none, .fn 119 [] [.ptr 1 0]] [.cells true (Rm o l), .cells true [.fn F [] []]] (Det (Bo (!(l.all p))) [.cells true (Rm o l), .cells true [.fn F [] []]]) := by
  have hr := rm_ren
  have c := idxm_any o l hl hp
  rw [← idx_all]
  generalize (idxI l fun x => !p x) = r at *
  clear hp
  refine ACall.startA c118_ok Tryz.func118 rfl Tryz.ntmps118 (by kernel_rfl) res118_ok rfl rfl rfl ?_; simp (maxSteps := 9999999) (disch := omega) only [go_sem]
  (have k9 := And.intro @hr (k0); have a1 := Arm.mk [0, 1] c; refine goK ?_; (try clear k9); (try clear a1))
  (have k9 := And.intro @hr (k0); exact Ret.dk [0, 1])
theorem allm_any {F : Nat} {p : Mk → Bool} (o : Nat) (l : List Mk) (hl : l.length ≤ 1099511627776) (hp : ∀ x ∈ l, ACall Tryz.prog F [MkG x] [] (Det (Bo (p x)) [])) (lo hi : Int) : ACall Tryz.prog 54 [.sl 0 o l.length 3 none, .agg [I lo, I hi], .fn F [] []] [.cells true (Rm o l)] (Det (Bo (decide (lo ≤ (l.length : Int)) && (decide ((l.length : Int) ≤ hi) && l.all p))) [.cells true (Rm o l)]) := by
  have hr := rm_ren
  have c := contm_any o l hl hp
  clear hp
  generalize l.all p = b at *
  by_cases h1 : (l.length : Int) < lo
  · rw [decide_eq_false (by omega : ¬ lo ≤ (l.length : Int)), Bool.false_and]
    have g1 : ((l.length : Int) < lo) = True := eq_true h1
    refine ACall.startA c54_ok Tryz.func54 rfl Tryz.ntmps54 (by kernel_rfl) res54_ok rfl rfl rfl ?_; simp (maxSteps := 9999999) (disch := omega) only [go_sem]
    (have k9 := And.intro @hr (And.intro @g1 (k0)); refine goK ?_; (try clear k9))
    (have k9 := And.intro @hr (k0); exact Ret.dk [0])
  · rw [decide_eq_true (by omega : lo ≤ (l.length : Int)), Bool.true_and]
    have g1 : ((l.length : Int) < lo) = False := eq_false h1
    by_cases h2 : hi < (l.length : Int)
    · rw [decide_eq_false (by omega : ¬ (l.length : Int) ≤ hi), Bool.false_and]
      have g2 : (hi < (l.length : Int)) = True := eq_true h2
      refine ACall.startA c54_ok Tryz.func54 rfl Tryz.ntmps54 (by kernel_rfl) res54_ok rfl rfl rfl ?_; simp (maxSteps := 9999999) (disch := omega) only [go_sem]
      (have k9 := And.intro @hr (And.intro @g1 (And.intro @g2 (k0))); refine goK ?_; (try clear k9))
      (have k9 := And.intro @hr (k0); exact Ret.dk [0])
    · rw [decide_eq_true (by omega : (l.length : Int) ≤ hi), Bool.true_and]
      have g2 : (hi < (l.length : Int)) = False := eq_false h2
      cases b
      all_goals
        simp only [Bool.not_true, Bool.not_false] at c
        refine ACall.startA c54_ok Tryz.func54 rfl Tryz.ntmps54 (by kernel_rfl) res54_ok rfl rfl rfl ?_; simp (maxSteps := 9999999) (disch := omega) only [go_sem]
        (have k9 := And.intro @hr (And.intro @g1 (And.intro @g2 (k0))); have a1 := Arm.mk [0, 17] c; refine goK ?_; (try clear k9); (try clear a1))
        (have k9 := And.intro @hr (k0); exact Ret.dk [0])
/- slices.Equal[[]quidnunc/api.Entry,quidnunc/api.Entry] -/
noncomputable def c41_1 : ACode := .region false [⟨some 4, .move, [.c (.val (.bool false))], none⟩] [] [] [0, 1] false [] []
noncomputable def c41_4 : ACode := .region false [⟨some 6, .move, [.t 0], none⟩,
  ⟨some 7, .len, [.t 6], none⟩,
  ⟨some 8, .move, [.t 1], none⟩,
  ⟨some 9, .len, [.t 8], none⟩,
  ⟨some 10, .bin .neq, [.t 7, .t 9], none⟩] [] [] [0, 1, 10] false [] []
noncomputable def c41_7 : ACode := .region false [⟨some 4, .move, [.c (.val (.bool false))], none⟩] [] [] [4] false [] []
noncomputable def c41_6 : ACode := .seq c41_7 .ret
noncomputable def c41_5 : ACode := .cond (.t 10) c41_6 .skip
noncomputable def c41_3 : ACode := .seq c41_4 c41_5
noncomputable def c41_10 : ACode := .region false [⟨some 11, .move, [.t 0], none⟩,
  ⟨some 12, .len, [.t 11], none⟩,
  ⟨some 13, .move, [.c (.val (.int .i64 0))], none⟩] [] [] [0, 1, 12, 13] false [] []
noncomputable def c41_14 : ACode := .region false [⟨some 14, .bin .lss, [.t 13, .t 12], none⟩] [] [] [0, 1, 12, 13, 14] false [] []
noncomputable def c41_16 : ACode := .cond (.t 14) .skip (.exit 0)
noncomputable def c41_20 : ACode := .region false [⟨some 15, .move, [.t 13], none⟩,
  ⟨some 5, .move, [.t 15], none⟩] [] [] [0, 1, 5, 12, 13] false [] []
noncomputable def c41_22 : ACode := .region true [⟨some 16, .move, [.t 0], none⟩,
  ⟨some 17, .move, [.t 5], none⟩,
  ⟨some 18, .ixS 9, [.t 16, .t 17], none⟩,
  ⟨some 19, .load true 9, [.t 18], none⟩,
  ⟨some 20, .move, [.t 1], none⟩,
  ⟨some 21, .move, [.t 5], none⟩,
  ⟨some 22, .ixS 9, [.t 20, .t 21], none⟩,
  ⟨some 23, .load true 9, [.t 22], none⟩,
  ⟨some 24, .eqA true [(0, 1), (1, 1), (2, 2), (3, 0), (4, 0), (5, 0), (6, 0), (7, 0), (8, 0)], [.t 19, .t 23], none⟩] [] [] [0, 1, 12, 13, 24] false [] []
noncomputable def c41_25 : ACode := .region false [⟨some 4, .move, [.c (.val (.bool false))], none⟩] [] [] [4] false [] []
noncomputable def c41_24 : ACode := .seq c41_25 .ret
noncomputable def c41_23 : ACode := .cond (.t 24) c41_24 .skip
noncomputable def c41_21 : ACode := .seq c41_22 c41_23
noncomputable def c41_19 : ACode := .seq c41_20 c41_21
noncomputable def c41_18 : ACode := .block 1 c41_19
noncomputable def c41_26 : ACode := .region false [⟨some 25, .bin .add, [.t 13, .c (.val (.int .i64 1))], none⟩,
  ⟨some 13, .move, [.t 25], none⟩] [] [] [0, 1, 12, 13] false [] []
noncomputable def c41_17 : ACode := .seq c41_18 c41_26
noncomputable def c41_15 : ACode := .seq c41_16 c41_17
noncomputable def c41_13 : ACode := .seq c41_14 c41_15
noncomputable def c41_12 : ACode := .loop c41_13
noncomputable def c41_11 : ACode := .block 0 c41_12
noncomputable def c41_9 : ACode := .seq c41_10 c41_11
noncomputable def c41_28 : ACode := .region false [⟨some 4, .move, [.c (.val (.bool true))], none⟩] [] [] [4] false [] []
noncomputable def c41_27 : ACode := .seq c41_28 .ret
noncomputable def c41_8 : ACode := .seq c41_9 c41_27
noncomputable def c41_2 : ACode := .seq c41_3 c41_8
noncomputable def c41_0 : ACode := .seq c41_1 c41_2
noncomputable def code41 : Code := (Tryz.f41.body).getD .skip
theorem c41_ok : compC Tryz.prog 26 code41 = some (strip c41_0) := by kernel_rfl
theorem res41_ok : Tryz.f41.results.toList.mapM (resC Tryz.prog) = some [(4, none)] := by kernel_rfl
theorem eqle_any (o o' : Nat) (l m : List En) (hl : l.length ≤ 1099511627776) (hm : m.length ≤ 1099511627776) : ACall Tryz.prog 41 [.sl 0 o l.length 9 none, .sl 1 o' m.length 9 none] [.cells true (Re o l), .cells true (Re o' m)] (Det (Bo (decide (l = m))) [.cells true (Re o l), .cells true (Re o' m)]) := by
  have hr := re_ren
  have hL := re_len o l
  have hL2 := re_len o' m
  by_cases h0 : l.length = m.length
  · have g0 : ((l.length : Int) != (m.length : Int)) = false := by simp [h0]
    refine ACall.startA c41_ok Tryz.func41 rfl Tryz.ntmps41 (by kernel_rfl) res41_ok rfl rfl rfl ?_; simp (maxSteps := 9999999) (disch := omega) only [go_sem]
    (have k9 := And.intro @hr (And.intro @g0 (k0)); refine goK ?_; (try clear k9))
    (apply AWpA.loopL (fun i : Nat => [(0, .sl 0 o l.length 9 none), (1, .sl 1 o' m.length 9 none), (12, I l.length), (13, I i)]) (fun i => [.cells true (Re o l), .cells true (Re o' m)]) (fun i => l.length - i) (fun i => i ≤ l.length ∧ l.take i = m.take i) (0) [0, 1]; rotate_left; (focus (simp (maxSteps := 9999999) (disch := omega) only [go_sem, hr]; (try (repeat' (first | done | trivial | rfl | exact leAs_rfl _ | decide | (refine And.intro ?_ ?_) | (simp; done) | omega | (simp; decide)))))); rotate_right)
    · exact ⟨Nat.zero_le _, rfl⟩
    rintro i ⟨hi, hp⟩
    (try simp only at hi)
    by_cases hin : i < l.length
    · have g1 : ((i : Int) < (l.length : Int)) = True := eq_true (by omega)
      have hin2 : i < m.length := by omega
      have hat := re_at o l i hin
      have hat2 := re_at o' m i hin2
      have e1 : l.take (i + 1) = l.take i ++ [l[i]] := by rw [List.take_add_one, List.getElem?_eq_getElem hin]; rfl
      have e2 : m.take (i + 1) = m.take i ++ [m[i]] := by rw [List.take_add_one, List.getElem?_eq_getElem hin2]; rfl
      have e3 : l = m → l[i] = m[i] := fun h => by subst h; rfl
      generalize l[i] = x at hat e1 e3
      generalize m[i] = y at hat2 e2 e3
      have hx := eqE_dec x y
      have hx2 := True.intro
      by_cases hxy : x = y
      · rw [decide_eq_true hxy] at hx
        (try rw [decide_eq_true hxy] at hx2)
        clear e3
        (try simp (maxSteps := 9999999) (disch := omega) only [go_sem])
        (have k9 := And.intro @g1 (And.intro @hr (And.intro @hat (And.intro @hat2 (And.intro @hL (And.intro @hL2 (And.intro @hx (And.intro @hx2 (k0)))))))); refine goK ?_; (try clear k9))
        (have k9 := And.intro @hr (k0); refine Back.tk (i + 1) [0, 1] ?_)
        exact ⟨by omega, by rw [e1, e2, hp, hxy]⟩
      · rw [decide_eq_false hxy] at hx
        (try rw [decide_eq_false hxy] at hx2)
        have g5 : decide (l = m) = false := decide_eq_false fun h => hxy (e3 h)
        rw [g5]
        clear e3 e1 e2 hp g5
        (try simp (maxSteps := 9999999) (disch := omega) only [go_sem])
        (have k9 := And.intro @g1 (And.intro @hr (And.intro @hat (And.intro @hat2 (And.intro @hL (And.intro @hL2 (And.intro @hx (And.intro @hx2 (k0)))))))); refine goK ?_; (try clear k9))
        (have k9 := And.intro @hr (k0); exact Ret.dk [0, 1])
    · obtain rfl : i = l.length := by omega
      have g1 : ((l.length : Int) < (l.length : Int)) = False := eq_false (by omega)
      have g5 : decide (l = m) = true := decide_eq_true (by rw [List.take_length, h0, List.take_length] at hp; exact hp)
      rw [g5]
      clear hp g5
      (try simp (maxSteps := 9999999) (disch := omega) only [go_sem])
      (have k9 := And.intro @g1 (k0); refine goK ?_; (try clear k9))
      (have k9 := And.intro @hr (k0); exact Ret.dk [0, 1])
  · have g0 : ((l.length : Int) != (m.length : Int)) = true := by simp; omega
    have g5 : decide (l = m) = false := decide_eq_false fun h => h0 (by rw [h])
    rw [g5]
    refine ACall.startA c41_ok Tryz.func41 rfl Tryz.ntmps41 (by kernel_rfl) res41_ok rfl rfl rfl ?_; simp (maxSteps := 9999999) (disch := omega) only [go_sem]
    (have k9 := And.intro @hr (And.intro @g0 (k0)); refine goK ?_; (try clear k9))
    (have k9 := And.intro @hr (k0); exact Ret.dk [0, 1])
/- quidnunc/wire.all[quidnunc/api.Entry]$1 -/
noncomputable def c121_1 : ACode := .region false [⟨some 2, .box 0, [.t 0], none⟩,
  ⟨some 3, .move, [.c (.val (.bool false))], none⟩] [] [] [1, 2] true [] []
noncomputable def c121_3 : ACode := .region false [⟨some 4, .load false 1, [.t 1], none⟩,
  ⟨some 5, .load true 9, [.t 2], none⟩,
  ⟨some 6, .callv, [.t 4, .t 5], none⟩,
  ⟨some 7, .un .not, [.t 6], none⟩,
  ⟨some 3, .move, [.t 7], none⟩] [] [] [3] true [] []
noncomputable def c121_2 : ACode := .seq c121_3 .ret
noncomputable def c121_0 : ACode := .seq c121_1 c121_2
noncomputable def code121 : Code := (Tryz.f121.body).getD .skip
theorem c121_ok : compC Tryz.prog 8 code121 = some (strip c121_0) := by kernel_rfl
theorem res121_ok : Tryz.f121.results.toList.mapM (resC Tryz.prog) = some [(3, none)] := by kernel_rfl
/- slices.IndexFunc[[]quidnunc/api.Entry,quidnunc/api.Entry] -/
noncomputable def c138_1 : ACode := .region false [⟨some 4, .move, [.c (.val (.int .i64 0))], none⟩] [] [] [0, 1] false [] []
noncomputable def c138_4 : ACode := .region false [⟨some 6, .move, [.t 0], none⟩,
  ⟨some 7, .len, [.t 6], none⟩,
  ⟨some 8, .move, [.c (.val (.int .i64 0))], none⟩] [] [] [0, 1, 7, 8] false [] []
noncomputable def c138_8 : ACode := .region false [⟨some 9, .bin .lss, [.t 8, .t 7], none⟩] [] [] [0, 1, 7, 8, 9] false [] []
noncomputable def c138_10 : ACode := .cond (.t 9) .skip (.exit 0)
noncomputable def c138_14 : ACode := .region false [⟨some 10, .move, [.t 8], none⟩,
  ⟨some 5, .move, [.t 10], none⟩] [] [] [0, 1, 5, 7, 8] false [] []
noncomputable def c138_16 : ACode := .region false [⟨some 11, .move, [.t 1], none⟩,
  ⟨some 12, .move, [.t 0], none⟩,
  ⟨some 13, .move, [.t 5], none⟩,
  ⟨some 14, .ixS 9, [.t 12, .t 13], none⟩,
  ⟨some 15, .load true 9, [.t 14], none⟩,
  ⟨some 16, .callv, [.t 11, .t 15], none⟩] [] [] [0, 1, 5, 7, 8, 16] true [] []
noncomputable def c138_19 : ACode := .region false [⟨some 17, .move, [.t 5], none⟩,
  ⟨some 4, .move, [.t 17], none⟩] [] [] [4] false [] []
noncomputable def c138_18 : ACode := .seq c138_19 .ret
noncomputable def c138_17 : ACode := .cond (.t 16) c138_18 .skip
noncomputable def c138_15 : ACode := .seq c138_16 c138_17
noncomputable def c138_13 : ACode := .seq c138_14 c138_15
noncomputable def c138_12 : ACode := .block 1 c138_13
noncomputable def c138_20 : ACode := .region false [⟨some 18, .bin .add, [.t 8, .c (.val (.int .i64 1))], none⟩,
  ⟨some 8, .move, [.t 18], none⟩] [] [] [0, 1, 7, 8] false [] []
noncomputable def c138_11 : ACode := .seq c138_12 c138_20
noncomputable def c138_9 : ACode := .seq c138_10 c138_11
noncomputable def c138_7 : ACode := .seq c138_8 c138_9
noncomputable def c138_6 : ACode := .loop c138_7
noncomputable def c138_5 : ACode := .block 0 c138_6
noncomputable def c138_3 : ACode := .seq c138_4 c138_5
noncomputable def c138_22 : ACode := .region false [⟨some 4, .move, [.c (.val (.int .i64 (-1)))], none⟩] [] [] [4] false [] []
noncomputable def c138_21 : ACode := .seq c138_22 .ret
noncomputable def c138_2 : ACode := .seq c138_3 c138_21
noncomputable def c138_0 : ACode := .seq c138_1 c138_2
noncomputable def code138 : Code := (Tryz.f138.body).getD .skip
theorem c138_ok : compC Tryz.prog 19 code138 = some (strip c138_0) := by kernel_rfl
theorem res138_ok : Tryz.f138.results.toList.mapM (resC Tryz.prog) = some [(4, none)] := by kernel_rfl
/- slices.ContainsFunc[[]quidnunc/api.Entry,quidnunc/api.Entry] -/
noncomputable def c120_1 : ACode := .region false [⟨some 4, .move, [.c (.val (.bool false))], none⟩] [] [] [0, 1] false [] []
noncomputable def c120_3 : ACode := .region false [⟨some 5, .move, [.t 0], none⟩,
  ⟨some 6, .move, [.t 1], none⟩,
  ⟨some 7, .call 138, [.t 5, .t 6], none⟩,
  ⟨some 8, .bin .geq, [.t 7, .c (.val (.int .i64 0))], none⟩,
  ⟨some 4, .move, [.t 8], none⟩] [] [] [4] true [] []
noncomputable def c120_2 : ACode := .seq c120_3 .ret
noncomputable def c120_0 : ACode := .seq c120_1 c120_2
noncomputable def code120 : Code := (Tryz.f120.body).getD .skip
theorem c120_ok : compC Tryz.prog 9 code120 = some (strip c120_0) := by kernel_rfl
theorem res120_ok : Tryz.f120.results.toList.mapM (resC Tryz.prog) = some [(4, none)] := by kernel_rfl
/- quidnunc/wire.all[quidnunc/api.Entry] -/
noncomputable def c55_1 : ACode := .region false [⟨some 4, .box 0, [.t 1], none⟩,
  ⟨some 5, .box 0, [.t 2], none⟩,
  ⟨some 6, .move, [.c (.val (.bool false))], none⟩] [] [] [0, 4, 5] true [] []
noncomputable def c55_4 : ACode := .region false [⟨some 7, .move, [.t 0], none⟩,
  ⟨some 8, .len, [.t 7], none⟩,
  ⟨some 9, .ixA 2 1, [.t 4, .c (.val (.int .i64 0))], none⟩,
  ⟨some 10, .load false 1, [.t 9], none⟩,
  ⟨some 11, .bin .lss, [.t 8, .t 10], none⟩,
  ⟨some 12, .move, [.t 11], none⟩,
  ⟨some 13, .move, [.t 0], some (some 12, false)⟩,
  ⟨some 14, .len, [.t 13], some (some 12, false)⟩,
  ⟨some 15, .ixA 2 1, [.t 4, .c (.val (.int .i64 1))], some (some 12, false)⟩,
  ⟨some 16, .load false 1, [.t 15], some (some 12, false)⟩,
  ⟨some 17, .bin .gtr, [.t 14, .t 16], some (some 12, false)⟩,
  ⟨some 18, .pick, [.t 12, .c (.val (.bool true)), .t 17], none⟩] [] [] [0, 5, 18] false [] []
noncomputable def c55_7 : ACode := .region false [⟨some 6, .move, [.c (.val (.bool false))], none⟩] [] [] [6] false [] []
noncomputable def c55_6 : ACode := .seq c55_7 .ret
noncomputable def c55_5 : ACode := .cond (.t 18) c55_6 .skip
noncomputable def c55_3 : ACode := .seq c55_4 c55_5
noncomputable def c55_9 : ACode := .region false [⟨some 19, .move, [.t 0], none⟩,
  ⟨some 20, .mkFn 121 0, [.t 5], none⟩,
  ⟨some 21, .call 120, [.t 19, .t 20], none⟩,
  ⟨some 22, .un .not, [.t 21], none⟩,
  ⟨some 6, .move, [.t 22], none⟩] [] [] [6] true [] []
noncomputable def c55_8 : ACode := .seq c55_9 .ret
noncomputable def c55_2 : ACode := .seq c55_3 c55_8
noncomputable def c55_0 : ACode := .seq c55_1 c55_2
noncomputable def code55 : Code := (Tryz.f55.body).getD .skip
theorem c55_ok : compC Tryz.prog 23 code55 = some (strip c55_0) := by kernel_rfl
theorem res55_ok : Tryz.f55.results.toList.mapM (resC Tryz.prog) = some [(6, none)] := by kernel_rfl
theorem all1e_any {F : Nat} {b : Bool} (x : En) (hp : ACall Tryz.prog F [EnA x] [] (Det (Bo b) [])) : ACall Tryz.prog 121 [EnA x, .ptr 0 0] [.cells true [.fn F [] []]] (Det (Bo (!b)) [.cells true [.fn F [] []]]) := by
  refine ACall.startA c121_ok Tryz.func121 rfl Tryz.ntmps121 (by kernel_rfl) res121_ok rfl rfl rfl ?_; simp (maxSteps := 9999999) (disch := omega) only [go_sem]
  (have k9 := k0; have a1 := Arm.mk [] hp; refine goK ?_; (try clear k9); (try clear a1))
  (have k9 := k0; exact Ret.dk [0])
theorem idxe_any {F : Nat} {p : En → Bool} (o : Nat) (l : List En) (hl : l.length ≤ 1099511627776) (hp : ∀ x ∈ l, ACall Tryz.prog F [EnA x] [] (Det (Bo (p x)) [])) : ACall Tryz.prog 138 [.sl 0 o l.length 9 none, .fn 121 [] [.ptr 1 0]] [.cells true (Re o l), .cells true [.fn F [] []]] (Det (I (idxI l fun x => !p x)) [.cells true (Re o l), .cells true [.fn F [] []]]) := by
  have hr := re_ren
  have hL := re_len o l
  refine ACall.startA c138_ok Tryz.func138 rfl Tryz.ntmps138 (by kernel_rfl) res138_ok rfl rfl rfl ?_; simp (maxSteps := 9999999) (disch := omega) only [go_sem]
  (have k9 := And.intro @hr (k0); refine goK ?_; (try clear k9))
  (apply AWpA.loopL (fun i : Nat => [(0, .sl 0 o l.length 9 none), (1, .fn 121 [] [.ptr 1 0]), (7, I l.length), (8, I i)]) (fun i => [.cells true (Re o l), .cells true [.fn F [] []]]) (fun i => l.length - i) (fun i => i ≤ l.length ∧ ∀ q (h : q < l.length), q < i → (!p l[q]) = false) (0) [0, 1]; rotate_left; (focus (simp (maxSteps := 9999999) (disch := omega) only [go_sem, hr]; (try (repeat' (first | done | trivial | rfl | exact leAs_rfl _ | decide | (refine And.intro ?_ ?_) | (simp; done) | omega | (simp; decide)))))); rotate_right)
  · exact ⟨Nat.zero_le _, fun q h hq => by omega⟩
  rintro i ⟨hi, hq⟩
  (try simp only at hi hq)
  by_cases hin : i < l.length
  · have g1 : ((i : Int) < (l.length : Int)) = True := eq_true (by omega)
    have hat := re_at o l i hin
    have c := all1e_any l[i] (hp _ (List.getElem_mem hin))
    have hfe : (!p l[i]) = true → idxI l (fun x => !p x) = i := fun h => idxI_at (p := fun x => !p x) hin hq h
    have hn : (!p l[i]) = false → ∀ q (h : q < l.length), q < i + 1 → (!p l[q]) = false := fun h q hl hq' => by
      rcases Nat.lt_or_eq_of_le (Nat.le_of_lt_succ hq') with h' | rfl
      · exact hq q hl h'
      · exact h
    clear hq hp
    generalize (!p l[i]) = b at *
    generalize l[i] = x at *
    cases b with
    | true =>
      rw [hfe rfl]
      clear hfe hn
      (try simp (maxSteps := 9999999) (disch := omega) only [go_sem])
      (have k9 := And.intro @hr (And.intro @hL (And.intro @g1 (And.intro @hat (k0)))); have a1 := Arm.mk [1] c; refine goK ?_; (try clear k9); (try clear a1))
      (have k9 := And.intro @hr (k0); exact Ret.dk [0, 1])
    | false =>
      have hn := hn rfl
      clear hfe
      (try simp (maxSteps := 9999999) (disch := omega) only [go_sem])
      (have k9 := And.intro @hr (And.intro @hL (And.intro @g1 (And.intro @hat (k0)))); have a1 := Arm.mk [1] c; refine goK ?_; (try clear k9); (try clear a1))
      (have k9 := And.intro @hr (k0); refine Back.tk (i + 1) [0, 1] ?_)
      exact ⟨by omega, hn⟩
  · obtain rfl : i = l.length := by omega
    have g1 : ((l.length : Int) < (l.length : Int)) = False := eq_false (by omega)
    have hno : idxI l (fun x => !p x) = -1 := idxI_no fun q h => hq q h h
    rw [hno]
    clear hq hno hp
    (try simp (maxSteps := 9999999) (disch := omega) only [go_sem])
    (have k9 := And.intro @hr (And.intro @g1 (k0)); refine goK ?_; (try clear k9))
    (have k9 := And.intro @hr (k0); exact Ret.dk [0, 1])
theorem conte_any {F : Nat} {p : En → Bool} (o : Nat) (l : List En) (hl : l.length ≤ 1099511627776) (hp : ∀ x ∈ l, ACall Tryz.prog F [EnA x] [] (Det (Bo (p x)) [])) : ACall Tryz.prog 120 [.sl 0 o l.length 9 none, .fn 121 [] [.ptr 1 0]] [.cells true (Re o l), .cells true [.fn F [] []]] (Det (Bo (!(l.all p))) [.cells true (Re o l), .cells true [.fn F [] []]]) := by
  have hr := re_ren
  have c := idxe_any o l hl hp
  rw [← idx_all]
  generalize (idxI l fun x => !p x) = r at *
  clear hp
  refine ACall.startA c120_ok Tryz.func120 rfl Tryz.ntmps120 (by kernel_rfl) res120_ok rfl rfl rfl ?_; simp (maxSteps := 9999999) (disch := omega) only [go_sem]
  (have k9 := And.intro @hr (k0); have a1 := Arm.mk [0, 1] c; refine goK ?_; (try clear k9); (try clear a1))
  (have k9 := And.intro @hr (k0); exact Ret.dk [0, 1])
theorem alle_any {F : Nat} {p : En → Bool} (o : Nat) (l : List En) (hl : l.length ≤ 1099511627776) (hp : ∀ x ∈ l, ACall Tryz.prog F [EnA x] [] (Det (Bo (p x)) [])) (lo hi : Int) : ACall Tryz.prog 55 [.sl 0 o l.length 9 none, .agg [I lo, I hi], .fn F [] []] [.cells true (Re o l)] (Det (Bo (decide (lo ≤ (l.length : Int)) && (decide ((l.length : Int) ≤ hi) && l.all p))) [.cells true (Re o l)]) := by
  have hr := re_ren
  have c := conte_any o l hl hp
  clear hp
  generalize l.all p = b at *
  by_cases h1 : (l.length : Int) < lo
  · rw [decide_eq_false (by omega : ¬ lo ≤ (l.length : Int)), Bool.false_and]
    have g1 : ((l.length : Int) < lo) = True := eq_true h1
    refine ACall.startA c55_ok Tryz.func55 rfl Tryz.ntmps55 (by kernel_rfl) res55_ok rfl rfl rfl ?_; simp (maxSteps := 9999999) (disch := omega) only [go_sem]
    (have k9 := And.intro @hr (And.intro @g1 (k0)); refine goK ?_; (try clear k9))
    (have k9 := And.intro @hr (k0); exact Ret.dk [0])
  · rw [decide_eq_true (by omega : lo ≤ (l.length : Int)), Bool.true_and]
    have g1 : ((l.length : Int) < lo) = False := eq_false h1
    by_cases h2 : hi < (l.length : Int)
    · rw [decide_eq_false (by omega : ¬ (l.length : Int) ≤ hi), Bool.false_and]
      have g2 : (hi < (l.length : Int)) = True := eq_true h2
      refine ACall.startA c55_ok Tryz.func55 rfl Tryz.ntmps55 (by kernel_rfl) res55_ok rfl rfl rfl ?_; simp (maxSteps := 9999999) (disch := omega) only [go_sem]
      (have k9 := And.intro @hr (And.intro @g1 (And.intro @g2 (k0))); refine goK ?_; (try clear k9))
      (have k9 := And.intro @hr (k0); exact Ret.dk [0])
    · rw [decide_eq_true (by omega : (l.length : Int) ≤ hi), Bool.true_and]
      have g2 : (hi < (l.length : Int)) = False := eq_false h2
      cases b
      all_goals
        simp only [Bool.not_true, Bool.not_false] at c
        refine ACall.startA c55_ok Tryz.func55 rfl Tryz.ntmps55 (by kernel_rfl) res55_ok rfl rfl rfl ?_; simp (maxSteps := 9999999) (disch := omega) only [go_sem]
        (have k9 := And.intro @hr (And.intro @g1 (And.intro @g2 (k0))); have a1 := Arm.mk [0, 17] c; refine goK ?_; (try clear k9); (try clear a1))
        (have k9 := And.intro @hr (k0); exact Ret.dk [0])
/- quidnunc/quidnuncref16.peers -/
noncomputable def c31_1 : ACode := .region false [⟨some 4, .move, [.c (.val (.bool false))], none⟩] [] [] [0, 1] false [] []
noncomputable def c31_4 : ACode := .region false [⟨some 6, .move, [.t 0], none⟩,
  ⟨some 7, .len, [.t 6], none⟩,
  ⟨some 8, .move, [.t 1], none⟩,
  ⟨some 9, .len, [.t 8], none⟩,
  ⟨some 10, .bin .neq, [.t 7, .t 9], none⟩] [] [] [0, 1, 10] false [] []
noncomputable def c31_7 : ACode := .region false [⟨some 4, .move, [.c (.val (.bool false))], none⟩] [] [] [4] false [] []
noncomputable def c31_6 : ACode := .seq c31_7 .ret
noncomputable def c31_5 : ACode := .cond (.t 10) c31_6 .skip
noncomputable def c31_3 : ACode := .seq c31_4 c31_5
noncomputable def c31_10 : ACode := .region false [⟨some 5, .move, [.c (.val (.int .i64 0))], none⟩] [] [] [0, 1, 5] false [] []
noncomputable def c31_15 : ACode := .region false [⟨some 11, .move, [.t 5], none⟩,
  ⟨some 12, .move, [.t 0], none⟩,
  ⟨some 13, .len, [.t 12], none⟩,
  ⟨some 14, .bin .lss, [.t 11, .t 13], none⟩] [] [] [0, 1, 5, 14] false [] []
noncomputable def c31_16 : ACode := .cond (.t 14) .skip (.exit 0)
noncomputable def c31_14 : ACode := .seq c31_15 c31_16
noncomputable def c31_20 : ACode := .region true [⟨some 17, .move, [.t 0], none⟩,
  ⟨some 18, .move, [.t 5], none⟩,
  ⟨some 19, .ixS 1, [.t 17, .t 18], none⟩,
  ⟨some 20, .load false 1, [.t 19], none⟩,
  ⟨some 21, .move, [.t 1], none⟩,
  ⟨some 22, .move, [.t 5], none⟩,
  ⟨some 23, .ixS 1, [.t 21, .t 22], none⟩,
  ⟨some 24, .load false 1, [.t 23], none⟩,
  ⟨some 25, .bin .neq, [.t 20, .t 24], none⟩] [] [] [0, 1, 5, 25] false [] []
noncomputable def c31_23 : ACode := .region false [⟨some 4, .move, [.c (.val (.bool false))], none⟩] [] [] [4] false [] []
noncomputable def c31_22 : ACode := .seq c31_23 .ret
noncomputable def c31_21 : ACode := .cond (.t 25) c31_22 .skip
noncomputable def c31_19 : ACode := .seq c31_20 c31_21
noncomputable def c31_18 : ACode := .block 1 c31_19
noncomputable def c31_24 : ACode := .region false [⟨some 15, .move, [.t 5], none⟩,
  ⟨some 16, .bin .add, [.t 15, .c (.val (.int .i64 1))], none⟩,
  ⟨some 5, .move, [.t 16], none⟩] [] [] [0, 1, 5] false [] []
noncomputable def c31_17 : ACode := .seq c31_18 c31_24
noncomputable def c31_13 : ACode := .seq c31_14 c31_17
noncomputable def c31_12 : ACode := .loop c31_13
noncomputable def c31_11 : ACode := .block 0 c31_12
noncomputable def c31_9 : ACode := .seq c31_10 c31_11
noncomputable def c31_26 : ACode := .region false [⟨some 4, .move, [.c (.val (.bool true))], none⟩] [] [] [4] false [] []
noncomputable def c31_25 : ACode := .seq c31_26 .ret
noncomputable def c31_8 : ACode := .seq c31_9 c31_25
noncomputable def c31_2 : ACode := .seq c31_3 c31_8
noncomputable def c31_0 : ACode := .seq c31_1 c31_2
noncomputable def code31 : Code := (Tryz.f31.body).getD .skip
theorem c31_ok : compC Tryz.prog 26 code31 = some (strip c31_0) := by kernel_rfl
theorem res31_ok : Tryz.f31.results.toList.mapM (resC Tryz.prog) = some [(4, none)] := by kernel_rfl
/- quidnunc/quidnuncref16.entries -/
noncomputable def c33_1 : ACode := .region false [⟨some 4, .move, [.c (.val (.bool false))], none⟩] [] [] [0, 1] false [] []
noncomputable def c33_4 : ACode := .region false [⟨some 6, .move, [.t 0], none⟩,
  ⟨some 7, .len, [.t 6], none⟩,
  ⟨some 8, .move, [.t 1], none⟩,
  ⟨some 9, .len, [.t 8], none⟩,
  ⟨some 10, .bin .neq, [.t 7, .t 9], none⟩] [] [] [0, 1, 10] false [] []
noncomputable def c33_7 : ACode := .region false [⟨some 4, .move, [.c (.val (.bool false))], none⟩] [] [] [4] false [] []
noncomputable def c33_6 : ACode := .seq c33_7 .ret
noncomputable def c33_5 : ACode := .cond (.t 10) c33_6 .skip
noncomputable def c33_3 : ACode := .seq c33_4 c33_5
noncomputable def c33_10 : ACode := .region false [⟨some 5, .move, [.c (.val (.int .i64 0))], none⟩] [] [] [0, 1, 5] false [] []
noncomputable def c33_15 : ACode := .region false [⟨some 11, .move, [.t 5], none⟩,
  ⟨some 12, .move, [.t 0], none⟩,
  ⟨some 13, .len, [.t 12], none⟩,
  ⟨some 14, .bin .lss, [.t 11, .t 13], none⟩] [] [] [0, 1, 5, 14] false [] []
noncomputable def c33_16 : ACode := .cond (.t 14) .skip (.exit 0)
noncomputable def c33_14 : ACode := .seq c33_15 c33_16
noncomputable def c33_20 : ACode := .region true [⟨some 17, .move, [.t 0], none⟩,
  ⟨some 18, .move, [.t 5], none⟩,
  ⟨some 19, .ixS 9, [.t 17, .t 18], none⟩,
  ⟨some 20, .load true 9, [.t 19], none⟩,
  ⟨some 21, .move, [.t 1], none⟩,
  ⟨some 22, .move, [.t 5], none⟩,
  ⟨some 23, .ixS 9, [.t 21, .t 22], none⟩,
  ⟨some 24, .load true 9, [.t 23], none⟩,
  ⟨some 25, .eqA true [(0, 1), (1, 1), (2, 2), (3, 0), (4, 0), (5, 0), (6, 0), (7, 0), (8, 0)], [.t 20, .t 24], none⟩] [] [] [0, 1, 5, 25] false [] []
noncomputable def c33_23 : ACode := .region false [⟨some 4, .move, [.c (.val (.bool false))], none⟩] [] [] [4] false [] []
noncomputable def c33_22 : ACode := .seq c33_23 .ret
noncomputable def c33_21 : ACode := .cond (.t 25) c33_22 .skip
noncomputable def c33_19 : ACode := .seq c33_20 c33_21
noncomputable def c33_18 : ACode := .block 1 c33_19
noncomputable def c33_24 : ACode := .region false [⟨some 15, .move, [.t 5], none⟩,
  ⟨some 16, .bin .add, [.t 15, .c (.val (.int .i64 1))], none⟩,
  ⟨some 5, .move, [.t 16], none⟩] [] [] [0, 1, 5] false [] []
noncomputable def c33_17 : ACode := .seq c33_18 c33_24
noncomputable def c33_13 : ACode := .seq c33_14 c33_17
noncomputable def c33_12 : ACode := .loop c33_13
noncomputable def c33_11 : ACode := .block 0 c33_12
noncomputable def c33_9 : ACode := .seq c33_10 c33_11
noncomputable def c33_26 : ACode := .region false [⟨some 4, .move, [.c (.val (.bool true))], none⟩] [] [] [4] false [] []
noncomputable def c33_25 : ACode := .seq c33_26 .ret
noncomputable def c33_8 : ACode := .seq c33_9 c33_25
noncomputable def c33_2 : ACode := .seq c33_3 c33_8
noncomputable def c33_0 : ACode := .seq c33_1 c33_2
noncomputable def code33 : Code := (Tryz.f33.body).getD .skip
theorem c33_ok : compC Tryz.prog 26 code33 = some (strip c33_0) := by kernel_rfl
theorem res33_ok : Tryz.f33.results.toList.mapM (resC Tryz.prog) = some [(4, none)] := by kernel_rfl
theorem rpeers_any (o o' : Nat) (l m : List Int) (hl : l.length ≤ 1099511627776) (hm : m.length ≤ 1099511627776) : ACall Tryz.prog 31 [.sl 0 o l.length 1 none, .sl 1 o' m.length 1 none] [.cells true (Ri o l), .cells true (Ri o' m)] (Det (Bo (decide (l = m))) [.cells true (Ri o l), .cells true (Ri o' m)]) := by
  have hr := ri_ren
  have hL := ri_len o l
  have hL2 := ri_len o' m
  by_cases h0 : l.length = m.length
  · have g0 : ((l.length : Int) != (m.length : Int)) = false := by simp [h0]
    refine ACall.startA c31_ok Tryz.func31 rfl Tryz.ntmps31 (by kernel_rfl) res31_ok rfl rfl rfl ?_; simp (maxSteps := 9999999) (disch := omega) only [go_sem]
    (have k9 := And.intro @hr (And.intro @g0 (k0)); refine goK ?_; (try clear k9))
    (apply AWpA.loopL (fun i : Nat => [(0, .sl 0 o l.length 1 none), (1, .sl 1 o' m.length 1 none), (5, I i)]) (fun i => [.cells true (Ri o l), .cells true (Ri o' m)]) (fun i => l.length - i) (fun i => i ≤ l.length ∧ l.take i = m.take i) (0) [0, 1]; rotate_left; (focus (simp (maxSteps := 9999999) (disch := omega) only [go_sem, hr]; (try (repeat' (first | done | trivial | rfl | exact leAs_rfl _ | decide | (refine And.intro ?_ ?_) | (simp; done) | omega | (simp; decide)))))); rotate_right)
    · exact ⟨Nat.zero_le _, rfl⟩
    rintro i ⟨hi, hp⟩
    (try simp only at hi)
    by_cases hin : i < l.length
    · have g1 : ((i : Int) < (l.length : Int)) = True := eq_true (by omega)
      have hin2 : i < m.length := by omega
      have hat := ri_at o l i hin
      have hat2 := ri_at o' m i hin2
      have e1 : l.take (i + 1) = l.take i ++ [l[i]] := by rw [List.take_add_one, List.getElem?_eq_getElem hin]; rfl
      have e2 : m.take (i + 1) = m.take i ++ [m[i]] := by rw [List.take_add_one, List.getElem?_eq_getElem hin2]; rfl
      have e3 : l = m → l[i] = m[i] := fun h => by subst h; rfl
      generalize l[i] = x at hat e1 e3
      generalize m[i] = y at hat2 e2 e3
      have hx := bi_dec x y
      have hx2 : (x != y) = !decide (x = y) := by rw [← bi_dec x y]; rfl
      by_cases hxy : x = y
      · rw [decide_eq_true hxy] at hx
        (try rw [decide_eq_true hxy] at hx2)
        clear e3
        (try simp (maxSteps := 9999999) (disch := omega) only [go_sem])
        (have k9 := And.intro @g1 (And.intro @hr (And.intro @hat (And.intro @hat2 (And.intro @hL (And.intro @hL2 (And.intro @hx (And.intro @hx2 (k0)))))))); refine goK ?_; (try clear k9))
        (have k9 := And.intro @hr (k0); refine Back.tk (i + 1) [0, 1] ?_)
        exact ⟨by omega, by rw [e1, e2, hp, hxy]⟩
      · rw [decide_eq_false hxy] at hx
        (try rw [decide_eq_false hxy] at hx2)
        have g5 : decide (l = m) = false := decide_eq_false fun h => hxy (e3 h)
        rw [g5]
        clear e3 e1 e2 hp g5
        (try simp (maxSteps := 9999999) (disch := omega) only [go_sem])
        (have k9 := And.intro @g1 (And.intro @hr (And.intro @hat (And.intro @hat2 (And.intro @hL (And.intro @hL2 (And.intro @hx (And.intro @hx2 (k0)))))))); refine goK ?_; (try clear k9))
        (have k9 := And.intro @hr (k0); exact Ret.dk [0, 1])
    · obtain rfl : i = l.length := by omega
      have g1 : ((l.length : Int) < (l.length : Int)) = False := eq_false (by omega)
      have g5 : decide (l = m) = true := decide_eq_true (by rw [List.take_length, h0, List.take_length] at hp; exact hp)
      rw [g5]
      clear hp g5
      (try simp (maxSteps := 9999999) (disch := omega) only [go_sem])
      (have k9 := And.intro @g1 (k0); refine goK ?_; (try clear k9))
      (have k9 := And.intro @hr (k0); exact Ret.dk [0, 1])
  · have g0 : ((l.length : Int) != (m.length : Int)) = true := by simp; omega
    have g5 : decide (l = m) = false := decide_eq_false fun h => h0 (by rw [h])
    rw [g5]
    refine ACall.startA c31_ok Tryz.func31 rfl Tryz.ntmps31 (by kernel_rfl) res31_ok rfl rfl rfl ?_; simp (maxSteps := 9999999) (disch := omega) only [go_sem]
    (have k9 := And.intro @hr (And.intro @g0 (k0)); refine goK ?_; (try clear k9))
    (have k9 := And.intro @hr (k0); exact Ret.dk [0, 1])
theorem rents_any (o o' : Nat) (l m : List En) (hl : l.length ≤ 1099511627776) (hm : m.length ≤ 1099511627776) : ACall Tryz.prog 33 [.sl 0 o l.length 9 none, .sl 1 o' m.length 9 none] [.cells true (Re o l), .cells true (Re o' m)] (Det (Bo (decide (l = m))) [.cells true (Re o l), .cells true (Re o' m)]) := by
  have hr := re_ren
  have hL := re_len o l
  have hL2 := re_len o' m
  by_cases h0 : l.length = m.length
  · have g0 : ((l.length : Int) != (m.length : Int)) = false := by simp [h0]
    refine ACall.startA c33_ok Tryz.func33 rfl Tryz.ntmps33 (by kernel_rfl) res33_ok rfl rfl rfl ?_; simp (maxSteps := 9999999) (disch := omega) only [go_sem]
    (have k9 := And.intro @hr (And.intro @g0 (k0)); refine goK ?_; (try clear k9))
    (apply AWpA.loopL (fun i : Nat => [(0, .sl 0 o l.length 9 none), (1, .sl 1 o' m.length 9 none), (5, I i)]) (fun i => [.cells true (Re o l), .cells true (Re o' m)]) (fun i => l.length - i) (fun i => i ≤ l.length ∧ l.take i = m.take i) (0) [0, 1]; rotate_left; (focus (simp (maxSteps := 9999999) (disch := omega) only [go_sem, hr]; (try (repeat' (first | done | trivial | rfl | exact leAs_rfl _ | decide | (refine And.intro ?_ ?_) | (simp; done) | omega | (simp; decide)))))); rotate_right)
    · exact ⟨Nat.zero_le _, rfl⟩
    rintro i ⟨hi, hp⟩
    (try simp only at hi)
    by_cases hin : i < l.length
    · have g1 : ((i : Int) < (l.length : Int)) = True := eq_true (by omega)
      have hin2 : i < m.length := by omega
      have hat := re_at o l i hin
      have hat2 := re_at o' m i hin2
      have e1 : l.take (i + 1) = l.take i ++ [l[i]] := by rw [List.take_add_one, List.getElem?_eq_getElem hin]; rfl
      have e2 : m.take (i + 1) = m.take i ++ [m[i]] := by rw [List.take_add_one, List.getElem?_eq_getElem hin2]; rfl
      have e3 : l = m → l[i] = m[i] := fun h => by subst h; rfl
      generalize l[i] = x at hat e1 e3
      generalize m[i] = y at hat2 e2 e3
      have hx := eqE_dec x y
      have hx2 := True.intro
      by_cases hxy : x = y
      · rw [decide_eq_true hxy] at hx
        (try rw [decide_eq_true hxy] at hx2)
        clear e3
        (try simp (maxSteps := 9999999) (disch := omega) only [go_sem])
        (have k9 := And.intro @g1 (And.intro @hr (And.intro @hat (And.intro @hat2 (And.intro @hL (And.intro @hL2 (And.intro @hx (And.intro @hx2 (k0)))))))); refine goK ?_; (try clear k9))
        (have k9 := And.intro @hr (k0); refine Back.tk (i + 1) [0, 1] ?_)
        exact ⟨by omega, by rw [e1, e2, hp, hxy]⟩
      · rw [decide_eq_false hxy] at hx
        (try rw [decide_eq_false hxy] at hx2)
        have g5 : decide (l = m) = false := decide_eq_false fun h => hxy (e3 h)
        rw [g5]
        clear e3 e1 e2 hp g5
        (try simp (maxSteps := 9999999) (disch := omega) only [go_sem])
        (have k9 := And.intro @g1 (And.intro @hr (And.intro @hat (And.intro @hat2 (And.intro @hL (And.intro @hL2 (And.intro @hx (And.intro @hx2 (k0)))))))); refine goK ?_; (try clear k9))
        (have k9 := And.intro @hr (k0); exact Ret.dk [0, 1])
    · obtain rfl : i = l.length := by omega
      have g1 : ((l.length : Int) < (l.length : Int)) = False := eq_false (by omega)
      have g5 : decide (l = m) = true := decide_eq_true (by rw [List.take_length, h0, List.take_length] at hp; exact hp)
      rw [g5]
      clear hp g5
      (try simp (maxSteps := 9999999) (disch := omega) only [go_sem])
      (have k9 := And.intro @g1 (k0); refine goK ?_; (try clear k9))
      (have k9 := And.intro @hr (k0); exact Ret.dk [0, 1])
  · have g0 : ((l.length : Int) != (m.length : Int)) = true := by simp; omega
    have g5 : decide (l = m) = false := decide_eq_false fun h => h0 (by rw [h])
    rw [g5]
    refine ACall.startA c33_ok Tryz.func33 rfl Tryz.ntmps33 (by kernel_rfl) res33_ok rfl rfl rfl ?_; simp (maxSteps := 9999999) (disch := omega) only [go_sem]
    (have k9 := And.intro @hr (And.intro @g0 (k0)); refine goK ?_; (try clear k9))
    (have k9 := And.intro @hr (k0); exact Ret.dk [0, 1])
end Go.Proofs.YtopidfkmligljaaGreat
