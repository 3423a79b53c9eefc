/- Marks: lists, and contracts of small functions. -/
import Derived.Test.YtopidfkmligljaaGreatAc6
namespace Go.Proofs.YtopidfkmligljaaGreat
noncomputable section
set_option linter.unusedSimpArgs false
set_option linter.unusedVariables false
set_option maxHeartbeats 4000000
open Go Go.Am Go.RowKit
set_option maxRecDepth 100000
/-- A key's version. -/
structure Mk where
  act : St
  key : ByteArray
abbrev MkL (m : Mk) : List AV := [I m.act.c, I m.act.s, Str m.key]
abbrev MkG (m : Mk) : AV := .agg [I m.act.c, I m.act.s, Str m.key]
abbrev mkE (a b : Mk) : Bool := a.act.c == b.act.c && (a.act.s == b.act.s && a.key == b.key)
theorem mkE_iff (a b : Mk) : mkE a b = true ↔ a = b := by
  obtain ⟨⟨a1, a2⟩, a3⟩ := a
  obtain ⟨⟨b1, b2⟩, b3⟩ := b
  simp only [mkE, Bool.and_eq_true, beq_iff_eq, Mk.mk.injEq, St.mk.injEq]
  rw [ba_iff]
  exact and_assoc.symm
instance : DecidableEq Mk := fun a b => decidable_of_iff _ (mkE_iff a b)
theorem mkE_dec (a b : Mk) : mkE a b = decide (a = b) := by
  by_cases h : a = b
  · rw [decide_eq_true h, mkE_iff]; exact h
  · rw [decide_eq_false h]
    cases e : mkE a b with
    | false => rfl
    | true => exact absurd ((mkE_iff a b).1 e) h
/-- Rows of marks. -/
abbrev Rm (off : Nat) (l : List Mk) : List AV := rowsC off MkL l
theorem rm_ren (off : Nat) (l : List Mk) (ρ : List Nat) : renL ρ (Rm off l) = Rm off l := rowsC_ren (fun ρ x => by simp [renL, ren]) ρ l
theorem rm_len (off : Nat) (l : List Mk) : (Rm off l).length = off + l.length * 3 := rowsC_len (f := MkL) (k := 3) (fun _ => rfl) l
theorem rm_at (off : Nat) (l : List Mk) (i : Nat) (h : i < l.length) : ((Rm off l).drop (off + i * 3)).take 3 = MkL l[i] := rowsC_at (f := MkL) (k := 3) (fun _ => rfl) l i h
theorem rm_nil : Rm 0 [] = [] := rfl
theorem rm_one (m : Mk) : Rm 0 [m] = MkL m := rfl
theorem rm_app (l m : List Mk) : Rm 0 (l ++ m) = Rm 0 l ++ Rm 0 m := by simp [Rm, rowsC]
theorem rm_put (l : List Mk) (i : Nat) (h : i < l.length) : Rm 0 (l.take i) ++ MkL l[i] = Rm 0 (l.take (i + 1)) := by
  rw [List.take_add_one, List.getElem?_eq_getElem h, Option.toList, rm_app, rm_one]
theorem rm_all (l : List Mk) {n : Nat} (h : n = l.length * 3) : (Rm 0 l).take n = Rm 0 l := List.take_of_length_le (by rw [rm_len]; omega)
/- quidnunc/quidnunclaw10.Of -/
def c48_1 : ACode := .region false [⟨some 1, .box 0, [.t 0], none⟩,
  ⟨some 2, .alloc [(.int .i64 0), (.int .i64 0), (.string ⟨#[]⟩)], [], none⟩] [] [] [1, 2] true [] []
def c48_3 : ACode := .region true [⟨some 3, .addr 0, [.t 1], none⟩,
  ⟨some 4, .load true 2, [.t 3], none⟩,
  ⟨some 5, .call 107, [.t 4], none⟩,
  ⟨some 6, .addr 2, [.t 1], none⟩,
  ⟨some 7, .load false 1, [.t 6], none⟩,
  ⟨some 8, .build [(.int .i64 0), (.int .i64 0), (.string ⟨#[]⟩)] [(0, 2), (2, 1)], [.t 5, .t 7], none⟩,
  ⟨none, .store 3, [.t 2, .t 8], none⟩] [] [] [2] true [2] []
def c48_2 : ACode := .seq c48_3 .ret
def c48_0 : ACode := .seq c48_1 c48_2
def code48 : Code := (Tryz.f48.body).getD .skip
theorem c48_ok : compC Tryz.prog 9 code48 = some (strip c48_0) := by kernel_rfl
theorem res48_ok : Tryz.f48.results.toList.mapM (resC Tryz.prog) = some [(2, some (true, 3))] := by kernel_rfl
/- quidnunc/quidnunclaw10.To -/
def c34_1 : ACode := .region false [⟨some 1, .box 0, [.t 0], none⟩,
  ⟨some 2, .alloc [(.int .i64 0), (.int .i64 0), (.string ⟨#[]⟩)], [], none⟩] [] [] [1, 2] true [] []
def c34_3 : ACode := .region true [⟨some 3, .addr 0, [.t 1], none⟩,
  ⟨some 4, .load true 2, [.t 3], none⟩,
  ⟨some 5, .call 86, [.t 4], none⟩,
  ⟨some 6, .addr 2, [.t 1], none⟩,
  ⟨some 7, .load false 1, [.t 6], none⟩,
  ⟨some 8, .build [(.int .i64 0), (.int .i64 0), (.string ⟨#[]⟩)] [(0, 2), (2, 1)], [.t 5, .t 7], none⟩,
  ⟨none, .store 3, [.t 2, .t 8], none⟩] [] [] [2] true [2] []
def c34_2 : ACode := .seq c34_3 .ret
def c34_0 : ACode := .seq c34_1 c34_2
def code34 : Code := (Tryz.f34.body).getD .skip
theorem c34_ok : compC Tryz.prog 9 code34 = some (strip c34_0) := by kernel_rfl
theorem res34_ok : Tryz.f34.results.toList.mapM (resC Tryz.prog) = some [(2, some (true, 3))] := by kernel_rfl
/- quidnunc/quidnuncref10.Same -/
def c32_1 : ACode := .region false [⟨some 4, .move, [.c (.val (.bool false))], none⟩] [] [] [0, 1] false [] []
def c32_4 : ACode := .region false [⟨some 6, .move, [.t 0], none⟩,
  ⟨some 7, .len, [.t 6], none⟩,
  ⟨some 8, .move, [.t 1], none⟩,
  ⟨some 9, .len, [.t 8], none⟩,
  ⟨some 10, .bin .neq, [.t 7, .t 9], none⟩] [] [] [0, 1, 10] false [] []
def c32_7 : ACode := .region false [⟨some 4, .move, [.c (.val (.bool false))], none⟩] [] [] [4] false [] []
def c32_6 : ACode := .seq c32_7 .ret
def c32_5 : ACode := .cond (.t 10) c32_6 .skip
def c32_3 : ACode := .seq c32_4 c32_5
def c32_10 : ACode := .region false [⟨some 5, .move, [.c (.val (.int .i64 0))], none⟩] [] [] [0, 1, 5] false [] []
def c32_15 : ACode := .region false [⟨some 11, .move, [.t 5], none⟩,
  ⟨some 12, .move, [.t 0], none⟩,
  ⟨some 13, .len, [.t 12], none⟩,
  ⟨some 14, .bin .lss, [.t 11, .t 13], none⟩] [] [] [0, 1, 5, 14] false [] []
def c32_16 : ACode := .cond (.t 14) .skip (.exit 0)
def c32_14 : ACode := .seq c32_15 c32_16
def c32_20 : ACode := .region true [⟨some 17, .move, [.t 0], none⟩,
  ⟨some 18, .move, [.t 5], none⟩,
  ⟨some 19, .ixS 3, [.t 17, .t 18], none⟩,
  ⟨some 20, .load true 3, [.t 19], none⟩,
  ⟨some 21, .move, [.t 1], none⟩,
  ⟨some 22, .move, [.t 5], none⟩,
  ⟨some 23, .ixS 3, [.t 21, .t 22], none⟩,
  ⟨some 24, .load true 3, [.t 23], none⟩,
  ⟨some 25, .eqA true [(0, 0), (1, 0), (2, 1)], [.t 20, .t 24], none⟩] [] [] [0, 1, 5, 25] false [] []
def c32_23 : ACode := .region false [⟨some 4, .move, [.c (.val (.bool false))], none⟩] [] [] [4] false [] []
def c32_22 : ACode := .seq c32_23 .ret
def c32_21 : ACode := .cond (.t 25) c32_22 .skip
def c32_19 : ACode := .seq c32_20 c32_21
def c32_18 : ACode := .block 1 c32_19
def c32_24 : ACode := .region false [⟨some 15, .move, [.t 5], none⟩,
  ⟨some 16, .bin .add, [.t 15, .c (.val (.int .i64 1))], none⟩,
  ⟨some 5, .move, [.t 16], none⟩] [] [] [0, 1, 5] false [] []
def c32_17 : ACode := .seq c32_18 c32_24
def c32_13 : ACode := .seq c32_14 c32_17
def c32_12 : ACode := .loop c32_13
def c32_11 : ACode := .block 0 c32_12
def c32_9 : ACode := .seq c32_10 c32_11
def c32_26 : ACode := .region false [⟨some 4, .move, [.c (.val (.bool true))], none⟩] [] [] [4] false [] []
def c32_25 : ACode := .seq c32_26 .ret
def c32_8 : ACode := .seq c32_9 c32_25
def c32_2 : ACode := .seq c32_3 c32_8
def c32_0 : ACode := .seq c32_1 c32_2
def code32 : Code := (Tryz.f32.body).getD .skip
theorem c32_ok : compC Tryz.prog 26 code32 = some (strip c32_0) := by kernel_rfl
theorem res32_ok : Tryz.f32.results.toList.mapM (resC Tryz.prog) = some [(4, none)] := by kernel_rfl
theorem of10_any (m : Mk) : ACall Tryz.prog 48 [MkG m] [] (Det (MkG m) []) := by
  have o := of04_any m.act
  refine ACall.startA c48_ok Tryz.func48 rfl Tryz.ntmps48 (by kernel_rfl) res48_ok rfl rfl rfl ?_; simp (maxSteps := 9999999) (disch := omega) only [go_sem]
  (have k9 := k0; have a1 := Arm.mk [] o; refine goK ?_; (try clear k9); (try clear a1))
  (have k9 := k0; exact Ret.dk [])
theorem to10_any (m : Mk) : ACall Tryz.prog 34 [MkG m] [] (Det (MkG m) []) := by
  have o := to04_any m.act
  refine ACall.startA c34_ok Tryz.func34 rfl Tryz.ntmps34 (by kernel_rfl) res34_ok rfl rfl rfl ?_; simp (maxSteps := 9999999) (disch := omega) only [go_sem]
  (have k9 := k0; have a1 := Arm.mk [] o; refine goK ?_; (try clear k9); (try clear a1))
  (have k9 := k0; exact Ret.dk [])
theorem same10_any (o o' : Nat) (l m : List Mk) (hl : l.length ≤ 1099511627776) (hm : m.length ≤ 1099511627776) : ACall Tryz.prog 32 [.sl 0 o l.length 3 none, .sl 1 o' m.length 3 none] [.cells true (Rm o l), .cells true (Rm o' m)] (Det (Bo (decide (l = m))) [.cells true (Rm o l), .cells true (Rm o' m)]) := by
  have hr := rm_ren o l
  have hr' := rm_ren o' m
  have hlen := rm_len o l
  have hlen' := rm_len o' m
  by_cases h0 : l.length = m.length
  · have g0 : ((l.length : Int) != (m.length : Int)) = false := by simp [h0]
    refine ACall.startA c32_ok Tryz.func32 rfl Tryz.ntmps32 (by kernel_rfl) res32_ok rfl rfl rfl ?_; simp (maxSteps := 9999999) (disch := omega) only [go_sem]
    (have k9 := And.intro @hr (And.intro @hr' (And.intro @g0 (k0))); refine goK ?_; (try clear k9))
    (apply AWpA.loopL (fun i : Nat => [(0, .sl 0 o l.length 3 none), (1, .sl 1 o' m.length 3 none), (5, I i)]) (fun i => [.cells true (Rm o l), .cells true (Rm o' m)]) (fun i => l.length - i) (fun i => i ≤ l.length ∧ l.take i = m.take i) (0) [0, 1]; rotate_left; (focus (simp (maxSteps := 9999999) (disch := omega) only [go_sem, hr, hr']; (try (repeat' (first | done | trivial | rfl | exact leAs_rfl _ | decide | (refine And.intro ?_ ?_) | (simp; done) | omega | (simp; decide)))))); rotate_right)
    · exact ⟨Nat.zero_le _, rfl⟩
    rintro i ⟨hi, hp⟩
    (try simp only at hi)
    by_cases hin : i < l.length
    · have g1 : ((i : Int) < (l.length : Int)) = True := eq_true (by omega)
      have hin2 : i < m.length := by omega
      have hat := rm_at o l i hin
      have hat' := rm_at o' m i hin2
      have e1 : l.take (i + 1) = l.take i ++ [l[i]] := by rw [List.take_add_one, List.getElem?_eq_getElem hin]; rfl
      have e2 : m.take (i + 1) = m.take i ++ [m[i]] := by rw [List.take_add_one, List.getElem?_eq_getElem hin2]; rfl
      have e3 : l = m → l[i] = m[i] := fun h => by subst h; rfl
      generalize l[i] = x at hat e1 e3
      generalize m[i] = y at hat' e2 e3
      have hx := mkE_dec x y
      by_cases hxy : x = y
      · rw [decide_eq_true hxy] at hx
        clear e3
        (try simp (maxSteps := 9999999) (disch := omega) only [go_sem])
        (have k9 := And.intro @g1 (And.intro @hr (And.intro @hr' (And.intro @hat (And.intro @hat' (And.intro @hlen (And.intro @hlen' (And.intro @hx (k0)))))))); refine goK ?_; (try clear k9))
        (have k9 := And.intro @hr (And.intro @hr' (k0)); refine Back.tk (i + 1) [0, 1] ?_)
        exact ⟨by omega, by rw [e1, e2, hp, hxy]⟩
      · rw [decide_eq_false hxy] at hx
        have g5 : decide (l = m) = false := decide_eq_false fun h => hxy (e3 h)
        clear e3 e1 e2 hp
        (try simp (maxSteps := 9999999) (disch := omega) only [go_sem])
        (have k9 := And.intro @g1 (And.intro @hr (And.intro @hr' (And.intro @hat (And.intro @hat' (And.intro @hlen (And.intro @hlen' (And.intro @hx (k0)))))))); refine goK ?_; (try clear k9))
        (have k9 := And.intro @hr (And.intro @hr' (And.intro @g5 (k0))); exact Ret.dk [0, 1])
    · obtain rfl : i = l.length := by omega
      have g1 : ((l.length : Int) < (l.length : Int)) = False := eq_false (by omega)
      have g5 : decide (l = m) = true := decide_eq_true (by rw [List.take_length, h0, List.take_length] at hp; exact hp)
      clear hp
      (try simp (maxSteps := 9999999) (disch := omega) only [go_sem])
      (have k9 := And.intro @g1 (k0); refine goK ?_; (try clear k9))
      (have k9 := And.intro @hr (And.intro @hr' (And.intro @g5 (k0))); exact Ret.dk [0, 1])
  · have g0 : ((l.length : Int) != (m.length : Int)) = true := by simp; omega
    have g5 : decide (l = m) = false := decide_eq_false fun h => h0 (by rw [h])
    refine ACall.startA c32_ok Tryz.func32 rfl Tryz.ntmps32 (by kernel_rfl) res32_ok rfl rfl rfl ?_; simp (maxSteps := 9999999) (disch := omega) only [go_sem]
    (have k9 := And.intro @hr (And.intro @hr' (And.intro @g0 (k0))); refine goK ?_; (try clear k9))
    (have k9 := And.intro @hr (And.intro @hr' (And.intro @g5 (k0))); exact Ret.dk [0, 1])
end
end Go.Proofs.YtopidfkmligljaaGreat
