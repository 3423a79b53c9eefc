/- Contract: of each key the newest entry; the map that is gone through. -/
import Derived.Test.YtbblpmkdhdnkhaaBw2
import Derived.Test.YtbblpmkdhdnkhaaAmT
namespace Go.Proofs.Ytbblpmkdhdnkhaa
set_option linter.unusedSimpArgs false
set_option linter.unusedVariables false
set_option maxHeartbeats 4000000
open Go Go.Am Go.RowKit
set_option maxRecDepth 100000
/-- Is an entry newer than the one that the map has? -/
def mpN (l : List En) (M : List (ByteArray × Int)) (e : En) : Bool := match lookG e.key M with
  | none => true
  | some k => match l[k.toNat]? with
    | some x => newerB e x
    | none => true
def mpK (l : List En) : Nat → List (ByteArray × Int)
  | 0 => []
  | n + 1 => match l[n]? with
    | some e => if mpN l (mpK l n) e = true then updG e.key (n : Int) (mpK l n) else mpK l n
    | none => mpK l n
theorem mp_succ {l : List En} {n : Nat} (h : n < l.length) : mpK l (n + 1) = if mpN l (mpK l n) l[n] = true then updG l[n].key (n : Int) (mpK l n) else mpK l n := by
  rw [mpK, List.getElem?_eq_getElem h]
theorem look_mem {κ : Type} [DecidableEq κ] {k : κ} {v : Int} : ∀ {M : List (κ × Int)}, lookG k M = some v → (k, v) ∈ M
  | [], h => by simp [lookG] at h
  | p :: l, h => by
    unfold lookG at h
    by_cases e : k = p.1
    · rw [if_pos e] at h
      simp only [Option.some.injEq] at h
      rw [e, ← h]
      exact List.mem_cons_self
    · rw [if_neg e] at h
      exact List.mem_cons_of_mem _ (look_mem h)
theorem upd_mem {κ : Type} [DecidableEq κ] {k : κ} {v : Int} {q : κ × Int} : ∀ {M : List (κ × Int)}, q ∈ updG k v M → q = (k, v) ∨ q ∈ M
  | [], h => by simp only [updG, List.mem_singleton] at h; exact .inl h
  | p :: l, h => by
    unfold updG at h
    by_cases e : k = p.1
    · rw [if_pos e] at h
      rcases List.mem_cons.1 h with h | h
      · exact .inl h
      · exact .inr (List.mem_cons_of_mem _ h)
    · rw [if_neg e] at h
      rcases List.mem_cons.1 h with h | h
      · exact .inr (by rw [h]; exact List.mem_cons_self)
      · rcases upd_mem h with h | h
        · exact .inl h
        · exact .inr (List.mem_cons_of_mem _ h)
theorem upd_keys {κ : Type} [DecidableEq κ] {k : κ} {v : Int} : ∀ {M : List (κ × Int)}, (M.map (·.1)).Nodup → ((updG k v M).map (·.1)).Nodup
  | [], _ => by simp [updG]
  | p :: l, h => by
    simp only [List.map_cons, List.nodup_cons] at h
    unfold updG
    by_cases e : k = p.1
    · rw [if_pos e]
      simp only [List.map_cons, List.nodup_cons]
      rw [e]
      exact h
    · rw [if_neg e]
      simp only [List.map_cons, List.nodup_cons]
      refine ⟨fun hm => ?_, upd_keys h.2⟩
      obtain ⟨q, hq, hq2⟩ := List.mem_map.1 hm
      rcases upd_mem hq with h3 | h3
      · rw [h3] at hq2; exact e hq2
      · exact h.1 (by rw [← hq2]; exact List.mem_map_of_mem h3)
theorem mp_at {l : List En} : ∀ n, n ≤ l.length → ∀ p ∈ mpK l n, ∃ j, ∃ h : j < l.length, p.2 = (j : Int) ∧ j < n ∧ l[j].key = p.1
  | 0, _, p, hp => by simp [mpK] at hp
  | n + 1, hn, p, hp => by
    rw [mp_succ (by omega)] at hp
    have ih := mp_at (l := l) n (by omega)
    split at hp
    · rcases upd_mem hp with h | h
      · rw [h]; exact ⟨n, by omega, rfl, by omega, rfl⟩
      · obtain ⟨j, h1, h2, h3, h4⟩ := ih p h
        exact ⟨j, h1, h2, by omega, h4⟩
    · obtain ⟨j, h1, h2, h3, h4⟩ := ih p hp
      exact ⟨j, h1, h2, by omega, h4⟩
theorem mp_keys {l : List En} : ∀ n, n ≤ l.length → ((mpK l n).map (·.1)).Nodup
  | 0, _ => by simp [mpK]
  | n + 1, hn => by
    rw [mp_succ (by omega)]
    have ih := mp_keys (l := l) n (by omega)
    split
    · exact upd_keys ih
    · exact ih
theorem upd_len {κ : Type} [DecidableEq κ] {k : κ} {v : Int} : ∀ {M : List (κ × Int)}, (updG k v M).length ≤ M.length + 1
  | [] => by simp [updG]
  | p :: l => by
    have ih := upd_len (k := k) (v := v) (M := l)
    unfold updG
    split
    · simp
    · simp only [List.length_cons]; omega
theorem mp_len {l : List En} : ∀ n, n ≤ l.length → (mpK l n).length ≤ n
  | 0, _ => by simp [mpK]
  | n + 1, hn => by
    rw [mp_succ (by omega)]
    have ih := mp_len (l := l) n (by omega)
    split
    · have := upd_len (k := l[n].key) (v := (n : Int)) (M := mpK l n)
      omega
    · omega
/-- The entries that the map leads to. -/
def mpO (l : List En) (M : List (ByteArray × Int)) (d : List Nat) : List En := d.filterMap fun j => (M[j]?).bind fun p => l[p.2.toNat]?
theorem mpO_app (l : List En) (M : List (ByteArray × Int)) (d : List Nat) {i : Nat} {p : ByteArray × Int} {e : En} (hp : M[i]? = some p) (he : l[p.2.toNat]? = some e) : mpO l M (d ++ [i]) = mpO l M d ++ [e] := by
  unfold mpO
  rw [List.filterMap_append]
  simp [hp, he]
/-- All of them, their keys rising. -/
def sortE (l : List En) : List En := l.mergeSort fun x y => !(ltK y.key x.key)
theorem sortE_len (l : List En) : (sortE l).length = l.length := List.length_mergeSort l
theorem sortE_rise (l : List En) : (sortE l).Pairwise fun x y => ltK y.key x.key = false := by
  have := List.pairwise_mergeSort (le := fun x y : En => !(ltK y.key x.key)) (fun a b c h1 h2 => by
    simp only [Bool.not_eq_true'] at h1 h2 ⊢
    exact ltK_neg h2 h1) (fun a b => by
    cases h : ltK b.key a.key with
    | false => rfl
    | true => simp [ltK_asym h]) l
  exact this.imp fun h => by simpa using h
theorem key_inj {l : List En} (h : (l.map (·.key)).Nodup) {x y : En} (hx : x ∈ l) (hy : y ∈ l) (e : x.key = y.key) : x = y := by
  induction l with
  | nil => cases hx
  | cons z l ih =>
    simp only [List.map_cons, List.nodup_cons] at h
    rcases List.mem_cons.1 hx with h1 | h1
    · rcases List.mem_cons.1 hy with h2 | h2
      · rw [h1, h2]
      · exact absurd (List.mem_map_of_mem (f := fun e : En => e.key) h2) (by rw [← e, h1]; exact h.1)
    · rcases List.mem_cons.1 hy with h2 | h2
      · exact absurd (List.mem_map_of_mem (f := fun e : En => e.key) h1) (by rw [e, h2]; exact h.1)
      · exact ih h.2 h1 h2
/-- There is one way to sort entries of unlike keys. -/
theorem sort_one {l d : List En} (hk : (l.map (·.key)).Nodup) (hp : d.Perm l) (hs : d.Pairwise fun x y => ltK y.key x.key = false) : d = sortE l := by
  refine List.Perm.eq_of_pairwise (le := fun x y : En => ltK y.key x.key = false) (fun a b ha hb h1 h2 => ?_) hs (sortE_rise l) (hp.trans (List.mergeSort_perm l _).symm)
  have ha' : a ∈ l := hp.mem_iff.1 ha
  have hb' : b ∈ l := (List.mergeSort_perm l _).mem_iff.1 hb
  exact key_inj hk ha' hb' (ltK_tri h2 h1)
theorem sort_perm {l m : List En} (hk : (l.map (·.key)).Nodup) (hp : l.Perm m) : sortE l = sortE m := by
  refine sort_one ((hp.map _).nodup_iff.1 hk) ((List.mergeSort_perm l _).trans hp) (sortE_rise l)
theorem nodup_lt {n : Nat} {d : List Nat} (hn : d.Nodup) (h : ∀ j ∈ d, j < n) {i : Nat} (hi : i < n) (hd : i ∉ d) : d.length < n := by
  have h1 : (d ++ [i]).Nodup := by
    rw [List.nodup_append]
    exact ⟨hn, by simp, fun x hx y hy e => by simp only [List.mem_singleton] at hy; subst hy; subst e; exact hd hx⟩
  have h2 := h1.length_le_of_subset (l₂ := List.range n) (fun j hj => by
    rw [List.mem_range]
    rcases List.mem_append.1 hj with hj | hj
    · exact h j hj
    · simp only [List.mem_singleton] at hj; subst hj; exact hi)
  simp only [List.length_append, List.length_singleton, List.length_range] at h2
  omega
theorem mpO_all {l : List En} {M : List (ByteArray × Int)} (hm : ∀ p ∈ M, ∃ j, ∃ h : j < l.length, p.2 = (j : Int) ∧ l[j].key = p.1) : ∀ d : List Nat, (∀ j ∈ d, j < M.length) → (mpO l M d).map (·.key) = d.map (fun j => (M.map (·.1)).getD j ⟨#[]⟩) ∧ (mpO l M d).length = d.length
  | [], _ => by simp [mpO]
  | j :: d, h => by
    obtain ⟨ih1, ih2⟩ := mpO_all hm d fun k hk => h k (List.mem_cons_of_mem _ hk)
    have hj := h j List.mem_cons_self
    obtain ⟨q, hq, e1, e2⟩ := hm M[j] (List.getElem_mem hj)
    have e3 : mpO l M (j :: d) = l[q] :: mpO l M d := by
      unfold mpO
      rw [List.filterMap_cons]
      have : ((M[j]?).bind fun p => l[p.2.toNat]?) = some l[q] := by
        rw [List.getElem?_eq_getElem hj, Option.bind_some, e1, show ((q : Int)).toNat = q by omega, List.getElem?_eq_getElem hq]
      rw [this]
    rw [e3, List.map_cons, List.map_cons, List.length_cons, List.length_cons, ih1, ih2]
    refine ⟨?_, rfl⟩
    congr 1
    rw [e2, List.getD_eq_getElem?_getD, List.getElem?_map, List.getElem?_eq_getElem hj]
    rfl
theorem mpO_keys {l : List En} {M : List (ByteArray × Int)} (hm : ∀ p ∈ M, ∃ j, ∃ h : j < l.length, p.2 = (j : Int) ∧ l[j].key = p.1) (hk : (M.map (·.1)).Nodup) {d : List Nat} (hd : d.Nodup) (h : ∀ j ∈ d, j < M.length) : ((mpO l M d).map (·.key)).Nodup := by
  rw [(mpO_all hm d h).1]
  refine List.Pairwise.map _ (R := fun a b => a < M.length ∧ b < M.length ∧ a ≠ b) (fun a b ⟨ha, hb, hab⟩ e => hab ?_) ?_
  · rw [List.getD_eq_getElem?_getD, List.getD_eq_getElem?_getD, List.getElem?_eq_getElem (by simpa using ha), List.getElem?_eq_getElem (by simpa using hb)] at e
    exact (List.getElem_inj (i := a) (j := b) (h₀ := by simpa using ha) (h₁ := by simpa using hb) hk).1 (by simpa using e)
  · refine List.Pairwise.imp_of_mem (fun {a b} ha hb hab => ⟨h a ha, h b hb, hab⟩) hd
def mapE (l : List En) : List En := sortE (mpO l (mpK l l.length) (List.range (mpK l l.length).length))
/- quidnunc/watch.Map -/
noncomputable def c23_1 : ACode := .region false [⟨some 2, .move, [.c (.val (.slice none 0 0))], none⟩] [] [] [0] false [] []
noncomputable def c23_3 : ACode := .region false [⟨some 11, .makeMap, [], none⟩,
  ⟨some 3, .move, [.t 11], none⟩] [] [] [0, 3] true [] []
noncomputable def c23_6 : ACode := .region false [⟨some 12, .move, [.t 0], none⟩,
  ⟨some 13, .len, [.t 12], none⟩,
  ⟨some 14, .move, [.c (.val (.int .i64 0))], none⟩] [] [] [0, 3, 12, 13, 14] false [] []
noncomputable def c23_10 : ACode := .region false [⟨some 15, .bin .lss, [.t 14, .t 13], none⟩] [] [] [0, 3, 12, 13, 14, 15] false [] []
noncomputable def c23_12 : ACode := .cond (.t 15) .skip (.exit 0)
noncomputable def c23_16 : ACode := .region false [⟨some 16, .move, [.t 14], none⟩,
  ⟨some 17, .ixS 9, [.t 12, .t 14], none⟩,
  ⟨some 18, .load true 9, [.t 17], none⟩,
  ⟨some 5, .alloc [(.string ⟨#[]⟩), (.string ⟨#[]⟩), (.bool false), (.int .i64 0), (.int .i64 0), (.int .i64 0), (.int .i64 0), (.int .i64 0), (.int .i64 0)], [], none⟩,
  ⟨some 4, .move, [.t 16], none⟩,
  ⟨none, .store 9, [.t 5, .t 18], none⟩] [] [] [0, 3, 4, 5, 12, 13, 14] true [] []
noncomputable def c23_18 : ACode := .region false [⟨some 20, .move, [.t 3], none⟩,
  ⟨some 21, .addr 0, [.t 5], none⟩,
  ⟨some 22, .load false 1, [.t 21], none⟩,
  ⟨some 23, .lookup [(0, 1)] (.int .i64 0) true, [.t 20, .t 22], none⟩,
  ⟨some 19, .move, [.t 23], none⟩,
  ⟨some 24, .ext 0, [.t 19], none⟩,
  ⟨some 25, .ext 1, [.t 19], none⟩,
  ⟨some 6, .move, [.t 24], none⟩,
  ⟨some 7, .move, [.t 25], none⟩] [] [] [0, 3, 4, 5, 6, 7, 12, 13, 14] false [] []
noncomputable def c23_20 : ACode := .region true [⟨some 26, .move, [.t 7], none⟩,
  ⟨some 27, .un .not, [.t 26], none⟩,
  ⟨some 28, .move, [.t 27], none⟩,
  ⟨some 29, .load true 9, [.t 5], some (some 28, false)⟩,
  ⟨some 30, .move, [.t 0], some (some 28, false)⟩,
  ⟨some 31, .move, [.t 6], some (some 28, false)⟩,
  ⟨some 32, .ixS 9, [.t 30, .t 31], some (some 28, false)⟩,
  ⟨some 33, .load true 9, [.t 32], some (some 28, false)⟩,
  ⟨some 34, .call 46, [.t 29, .t 33], some (some 28, false)⟩,
  ⟨some 35, .pick, [.t 28, .c (.val (.bool true)), .t 34], none⟩] [] [] [0, 3, 4, 5, 12, 13, 14, 35] true [] []
noncomputable def c23_22 : ACode := .region false [⟨some 36, .move, [.t 3], none⟩,
  ⟨some 37, .addr 0, [.t 5], none⟩,
  ⟨some 38, .load false 1, [.t 37], none⟩,
  ⟨some 39, .move, [.t 4], none⟩,
  ⟨none, .mapUpd [(0, 1)], [.t 36, .t 38, .t 39], none⟩] [] [] [0, 3, 12, 13, 14] true [] []
noncomputable def c23_21 : ACode := .cond (.t 35) c23_22 .skip
noncomputable def c23_19 : ACode := .seq c23_20 c23_21
noncomputable def c23_17 : ACode := .seq c23_18 c23_19
noncomputable def c23_15 : ACode := .seq c23_16 c23_17
noncomputable def c23_14 : ACode := .block 1 c23_15
noncomputable def c23_23 : ACode := .region false [⟨some 40, .bin .add, [.t 14, .c (.val (.int .i64 1))], none⟩,
  ⟨some 14, .move, [.t 40], none⟩] [] [] [0, 3, 12, 13, 14] false [] []
noncomputable def c23_13 : ACode := .seq c23_14 c23_23
noncomputable def c23_11 : ACode := .seq c23_12 c23_13
noncomputable def c23_9 : ACode := .seq c23_10 c23_11
noncomputable def c23_8 : ACode := .loop c23_9
noncomputable def c23_7 : ACode := .block 0 c23_8
noncomputable def c23_5 : ACode := .seq c23_6 c23_7
noncomputable def c23_25 : ACode := .region false [⟨some 8, .move, [.c (.val (.slice none 0 0))], none⟩] [] [] [0, 3, 8] false [] []
noncomputable def c23_28 : ACode := .region false [⟨some 41, .move, [.t 3], none⟩,
  ⟨some 42, .itR, [.t 41], none⟩] [] [] [0, 8, 42] false [] []
noncomputable def c23_32 : ACode := .region false [⟨some 43, .itN, [.t 42], none⟩,
  ⟨some 44, .ext 0, [.t 43], none⟩] [] [] [0, 8, 42, 44] false [] []
noncomputable def c23_34 : ACode := .cond (.t 44) .skip (.exit 2)
noncomputable def c23_37 : ACode := .region false [⟨some 45, .itE, [.t 42], none⟩,
  ⟨some 46, .ext 1, [.t 45], none⟩,
  ⟨some 10, .move, [.t 46], none⟩] [] [] [0, 8, 10, 42] false [] []
noncomputable def c23_38 : ACode := .region false [⟨some 47, .move, [.t 8], none⟩,
  ⟨some 48, .move, [.t 0], none⟩,
  ⟨some 49, .move, [.t 10], none⟩,
  ⟨some 50, .ixS 9, [.t 48, .t 49], none⟩,
  ⟨some 51, .load true 9, [.t 50], none⟩,
  ⟨some 52, .buildSl 9 1 [(.string ⟨#[]⟩), (.string ⟨#[]⟩), (.bool false), (.int .i64 0), (.int .i64 0), (.int .i64 0), (.int .i64 0), (.int .i64 0), (.int .i64 0)] [(0, 9)], [.t 51], none⟩,
  ⟨some 53, .append 9 88 false, [.t 47, .t 52], none⟩,
  ⟨some 8, .move, [.t 53], none⟩] [] [] [0, 8, 42] true [] []
noncomputable def c23_36 : ACode := .seq c23_37 c23_38
noncomputable def c23_35 : ACode := .block 3 c23_36
noncomputable def c23_33 : ACode := .seq c23_34 c23_35
noncomputable def c23_31 : ACode := .seq c23_32 c23_33
noncomputable def c23_30 : ACode := .loop c23_31
noncomputable def c23_29 : ACode := .block 2 c23_30
noncomputable def c23_27 : ACode := .seq c23_28 c23_29
noncomputable def c23_40 : ACode := .region false [⟨some 54, .move, [.t 8], none⟩,
  ⟨some 55, .call 47, [.t 54, .c (.fn 48 [] [])], none⟩] [] [] [8] true [] []
noncomputable def c23_42 : ACode := .region false [⟨some 56, .move, [.t 8], none⟩,
  ⟨some 2, .move, [.t 56], none⟩] [] [] [2] false [] []
noncomputable def c23_41 : ACode := .seq c23_42 .ret
noncomputable def c23_39 : ACode := .seq c23_40 c23_41
noncomputable def c23_26 : ACode := .seq c23_27 c23_39
noncomputable def c23_24 : ACode := .seq c23_25 c23_26
noncomputable def c23_4 : ACode := .seq c23_5 c23_24
noncomputable def c23_2 : ACode := .seq c23_3 c23_4
noncomputable def c23_0 : ACode := .seq c23_1 c23_2
noncomputable def code23 : Code := (Try.f23.body).getD .skip
theorem c23_ok : compC Try.prog 57 code23 = some (strip c23_0) := by kernel_rfl
theorem res23_ok : Try.f23.results.toList.mapM (resC Try.prog) = some [(2, none)] := by kernel_rfl
theorem wmap_any (o : Nat) (l : List En) (hl : l.length ≤ 4096)
    (hs : ∀ out : List En, out.length ≤ 4096 → (out.map (·.key)).Nodup → ACall Try.prog 47 [.sl 0 0 out.length 9 none, .fn 48 [] []] [.cells false (Re 0 out)] (Det (.tup []) [.cells false (Re 0 (sortE out))])) :
    ACall Try.prog 23 [.sl 0 o l.length 9 none] [.cells true (Re o l)] (Det (.sl 2 0 (mapE l).length 9 none) [.cells true (Re o l), .gone, .cells false (Re 0 (mapE l))]) := by
  have hr := re_ren
  have hL := re_len o l
  have hg := fun ρ M => ren_G (enc := Str) str_ren ρ M
  refine ACall.startA c23_ok Try.func23 rfl Try.ntmps23 (by kernel_rfl) res23_ok rfl rfl rfl ?_; simp (maxSteps := 9999999) (disch := omega) only [go_sem]
  (have k9 := And.intro @hr (k0); (repeat' (first | refine AWpA.seq ?_ | refine AWpA.block ?_ | (with_reducible refine CondP.tt ?_) | (with_reducible refine CondP.ff ?_) | refine AWpA.cg ?_ | ((first | refine AWpA.rg ?_ | refine AWpA.dg [] [] follows ?_ | refine TailK.tg ?_ | refine AWpA.skip ?_ | refine AWpA.exit ?_ | refine AWpA.ret ?_ | (with_reducible refine ARoundsA.succ ?_) | ((first | refine Runs.gkt (fun h9 => ?_) | refine Runs.gkf (fun h9 => ?_) | refine Runs.gnt (fun h9 => ?_) | refine Runs.gnf (fun h9 => ?_) | refine CondP.gt (fun h9 => ?_) | refine CondP.gf (fun h9 => ?_) | refine CondP.gnt (fun h9 => ?_) | refine CondP.gnf (fun h9 => ?_)); (try simp only [h9]); clear h9)); (try simp (maxSteps := 9999999) (disch := omega) only [go_sem, k9]); (try refine cnd ?_)) | ((first | refine CondP.split (fun hif => ?_) (fun hif => ?_) | refine Runs.part (fun hif => ?_) (fun hif => ?_)) <;> ((try simp only [hif]); (try simp only [BL] at hif); (try (have h9 : _ = true := hif; simp only [h9])); (try (have h9 : _ = false := hif; simp only [h9])); (try simp (maxSteps := 9999999) (disch := omega) only [go_sem, k9]); (try refine cnd ?_); (try (exfalso; omega; done)))))); (all_goals (try clear k9)))
  (apply AWpA.loopL (fun n : Nat => [(0, .sl 0 o l.length 9 none), (3, .mp 1), (12, .sl 0 o l.length 9 none), (13, I l.length), (14, I n)]) (fun n => [.cells true (Re o l), .map false (EsG Str (mpK l n))]) (fun n => l.length - n) (fun n => n ≤ l.length) (0) [0, _]; rotate_left; (focus (simp (maxSteps := 9999999) (disch := omega) only [go_sem, hr, mpK, List.map_nil]; (try (repeat' (first | done | trivial | rfl | exact leAs_rfl _ | decide | (refine And.intro ?_ ?_) | (simp; done) | omega | (simp; decide)))))); rotate_right)
  · exact Nat.zero_le _
  rintro n hn
  (try simp only at hn)
  by_cases hnl : n < l.length
  · have g1 : ((n : Int) < (l.length : Int)) = True := eq_true (by omega)
    have hat := re_at o l n hnl
    have hk := key_str l[n].key l[n].key
    rw [decide_eq_true rfl] at hk
    have hf := find_G key_str l[n].key (mpK l n)
    have hu := upd_G key_str l[n].key (n : Int) (mpK l n)
    have hsucc := mp_succ hnl
    have hma := mp_at n hn
    generalize hM : mpK l n = M at *
    generalize hx : l[n] = x at *
    cases hlk : lookG x.key M with
    | none =>
      have e1 : mpN l M x = true := by unfold mpN; rw [hlk]
      rw [if_pos e1] at hsucc
      rw [hlk] at hf
      simp only [Option.map_none] at hf
      clear hma hM hx hlk e1
      (try simp (maxSteps := 9999999) (disch := omega) only [go_sem])
      (have k9 := And.intro @hr (And.intro @hg (And.intro @hL (And.intro @g1 (And.intro @hat (And.intro @hk (And.intro @hf (And.intro @hu (k0)))))))); (repeat' (first | refine AWpA.seq ?_ | refine AWpA.block ?_ | (with_reducible refine CondP.tt ?_) | (with_reducible refine CondP.ff ?_) | refine AWpA.cg ?_ | ((first | refine AWpA.rg ?_ | refine AWpA.dg [] [] follows ?_ | refine TailK.tg ?_ | refine AWpA.skip ?_ | refine AWpA.exit ?_ | refine AWpA.ret ?_ | (with_reducible refine ARoundsA.succ ?_) | ((first | refine Runs.gkt (fun h9 => ?_) | refine Runs.gkf (fun h9 => ?_) | refine Runs.gnt (fun h9 => ?_) | refine Runs.gnf (fun h9 => ?_) | refine CondP.gt (fun h9 => ?_) | refine CondP.gf (fun h9 => ?_) | refine CondP.gnt (fun h9 => ?_) | refine CondP.gnf (fun h9 => ?_)); (try simp only [h9]); clear h9)); (try simp (maxSteps := 9999999) (disch := omega) only [go_sem, k9]); (try refine cnd ?_)) | ((first | refine CondP.split (fun hif => ?_) (fun hif => ?_) | refine Runs.part (fun hif => ?_) (fun hif => ?_)) <;> ((try simp only [hif]); (try simp only [BL] at hif); (try (have h9 : _ = true := hif; simp only [h9])); (try (have h9 : _ = false := hif; simp only [h9])); (try simp (maxSteps := 9999999) (disch := omega) only [go_sem, k9]); (try refine cnd ?_); (try (exfalso; omega; done)))))); (all_goals (try clear k9)))
      (apply Back.to (n + 1) [0, 1]; (focus ((try simp (maxSteps := 9999999) (disch := omega) only [go_sem, hr, hg, hsucc]); first | done | omega)); rotate_left; (focus (simp (maxSteps := 9999999) (disch := omega) only [go_sem, hr, hg, hsucc]; (try (repeat' (first | done | trivial | rfl | exact leAs_rfl _ | decide | (refine And.intro ?_ ?_) | (simp; done) | omega | (simp; decide)))))))
      omega
    | some k =>
      rw [hlk] at hf
      simp only [Option.map_some] at hf
      obtain ⟨j, hj, e2, -, -⟩ := hma _ (look_mem hlk)
      simp only at e2
      subst e2
      have e1 : mpN l M x = newerB x l[j] := by
        unfold mpN
        rw [hlk]
        simp only
        rw [show ((j : Int)).toNat = j by omega, List.getElem?_eq_getElem hj]
      rw [e1] at hsucc
      have hat2 := re_at o l j hj
      have c1 := newer_any x l[j]
      clear hma hM hx hlk e1
      cases hnb : newerB x l[j] with
      | true =>
        rw [hnb] at hsucc c1
        simp only [if_true] at hsucc
        (try simp (maxSteps := 9999999) (disch := omega) only [go_sem])
        (have k9 := And.intro @hr (And.intro @hg (And.intro @hL (And.intro @g1 (And.intro @hat (And.intro @hk (And.intro @hf (And.intro @hu (And.intro @hat2 (k0))))))))); (repeat' (first | refine AWpA.seq ?_ | refine AWpA.block ?_ | (with_reducible refine CondP.tt ?_) | (with_reducible refine CondP.ff ?_) | refine AWpA.cg ?_ | ((first | refine AWpA.rg ?_ | refine AWpA.dg [] [] follows ?_ | refine TailK.tg ?_ | refine AWpA.skip ?_ | refine AWpA.exit ?_ | refine AWpA.ret ?_ | (with_reducible refine ARoundsA.succ ?_) | ((first | refine Runs.gkt (fun h9 => ?_) | refine Runs.gkf (fun h9 => ?_) | refine Runs.gnt (fun h9 => ?_) | refine Runs.gnf (fun h9 => ?_) | refine CondP.gt (fun h9 => ?_) | refine CondP.gf (fun h9 => ?_) | refine CondP.gnt (fun h9 => ?_) | refine CondP.gnf (fun h9 => ?_)); (try simp only [h9]); clear h9) | refine CallG.pg [] (c1) ?_ | refine CallG.dg [] (c1) ?_); (try simp (maxSteps := 9999999) (disch := omega) only [go_sem, k9]); (try refine cnd ?_)) | ((first | refine CondP.split (fun hif => ?_) (fun hif => ?_) | refine Runs.part (fun hif => ?_) (fun hif => ?_)) <;> ((try simp only [hif]); (try simp only [BL] at hif); (try (have h9 : _ = true := hif; simp only [h9])); (try (have h9 : _ = false := hif; simp only [h9])); (try simp (maxSteps := 9999999) (disch := omega) only [go_sem, k9]); (try refine cnd ?_); (try (exfalso; omega; done)))))); (all_goals (try clear k9)))
        (apply Back.to (n + 1) [0, 1]; (focus ((try simp (maxSteps := 9999999) (disch := omega) only [go_sem, hr, hg, hsucc]); first | done | omega)); rotate_left; (focus (simp (maxSteps := 9999999) (disch := omega) only [go_sem, hr, hg, hsucc]; (try (repeat' (first | done | trivial | rfl | exact leAs_rfl _ | decide | (refine And.intro ?_ ?_) | (simp; done) | omega | (simp; decide)))))))
        omega
      | false =>
        rw [hnb] at hsucc c1
        simp only [Bool.false_eq_true, if_false] at hsucc
        (try simp (maxSteps := 9999999) (disch := omega) only [go_sem])
        (have k9 := And.intro @hr (And.intro @hg (And.intro @hL (And.intro @g1 (And.intro @hat (And.intro @hk (And.intro @hf (And.intro @hu (And.intro @hat2 (k0))))))))); (repeat' (first | refine AWpA.seq ?_ | refine AWpA.block ?_ | (with_reducible refine CondP.tt ?_) | (with_reducible refine CondP.ff ?_) | refine AWpA.cg ?_ | ((first | refine AWpA.rg ?_ | refine AWpA.dg [] [] follows ?_ | refine TailK.tg ?_ | refine AWpA.skip ?_ | refine AWpA.exit ?_ | refine AWpA.ret ?_ | (with_reducible refine ARoundsA.succ ?_) | ((first | refine Runs.gkt (fun h9 => ?_) | refine Runs.gkf (fun h9 => ?_) | refine Runs.gnt (fun h9 => ?_) | refine Runs.gnf (fun h9 => ?_) | refine CondP.gt (fun h9 => ?_) | refine CondP.gf (fun h9 => ?_) | refine CondP.gnt (fun h9 => ?_) | refine CondP.gnf (fun h9 => ?_)); (try simp only [h9]); clear h9) | refine CallG.pg [] (c1) ?_ | refine CallG.dg [] (c1) ?_); (try simp (maxSteps := 9999999) (disch := omega) only [go_sem, k9]); (try refine cnd ?_)) | ((first | refine CondP.split (fun hif => ?_) (fun hif => ?_) | refine Runs.part (fun hif => ?_) (fun hif => ?_)) <;> ((try simp only [hif]); (try simp only [BL] at hif); (try (have h9 : _ = true := hif; simp only [h9])); (try (have h9 : _ = false := hif; simp only [h9])); (try simp (maxSteps := 9999999) (disch := omega) only [go_sem, k9]); (try refine cnd ?_); (try (exfalso; omega; done)))))); (all_goals (try clear k9)))
        (apply Back.to (n + 1) [0, 1]; (focus ((try simp (maxSteps := 9999999) (disch := omega) only [go_sem, hr, hg, hsucc]); first | done | omega)); rotate_left; (focus (simp (maxSteps := 9999999) (disch := omega) only [go_sem, hr, hg, hsucc]; (try (repeat' (first | done | trivial | rfl | exact leAs_rfl _ | decide | (refine And.intro ?_ ?_) | (simp; done) | omega | (simp; decide)))))))
        omega
  · obtain rfl : n = l.length := by omega
    have g1 : ((l.length : Int) < (l.length : Int)) = False := eq_false (by omega)
    have hma := mp_at l.length (Nat.le_refl l.length)
    have hke := mp_keys l.length (Nat.le_refl l.length)
    have hM := Nat.le_trans (mp_len l.length (Nat.le_refl l.length)) hl
    unfold mapE
    generalize mpK l l.length = M at *
    refine AWpA.dummy ?_
    (try simp (maxSteps := 9999999) (disch := omega) only [go_sem])
    (have k9 := And.intro @hr (And.intro @hg (And.intro @g1 (k0))); (repeat' (first | (refine AWpA.rangeMap (EsG Str M) (fun p d => [(0, .sl 0 o l.length 9 none), (8, .sl 1 0 (mpO l M d).length 9 none), (42, .val p)]) (fun d => [.cells true (Re o l), .cells false (Re 0 (mpO l M d))]) [0, 2] rfl rfl ?_ (fun _ _ => rfl) (by decide) ?_ ?_ ?_) | refine AWpA.seq ?_ | refine AWpA.block ?_ | (with_reducible refine CondP.tt ?_) | (with_reducible refine CondP.ff ?_) | refine AWpA.cg ?_ | ((first | refine AWpA.rg ?_ | refine AWpA.dg [] [] follows ?_ | refine TailK.tg ?_ | refine AWpA.skip ?_ | refine AWpA.exit ?_ | refine AWpA.ret ?_ | (with_reducible refine ARoundsA.succ ?_) | ((first | refine Runs.gkt (fun h9 => ?_) | refine Runs.gkf (fun h9 => ?_) | refine Runs.gnt (fun h9 => ?_) | refine Runs.gnf (fun h9 => ?_) | refine CondP.gt (fun h9 => ?_) | refine CondP.gf (fun h9 => ?_) | refine CondP.gnt (fun h9 => ?_) | refine CondP.gnf (fun h9 => ?_)); (try simp only [h9]); clear h9)); (try simp (maxSteps := 9999999) (disch := omega) only [go_sem, k9]); (try refine cnd ?_)) | ((first | refine CondP.split (fun hif => ?_) (fun hif => ?_) | refine Runs.part (fun hif => ?_) (fun hif => ?_)) <;> ((try simp only [hif]); (try simp only [BL] at hif); (try (have h9 : _ = true := hif; simp only [h9])); (try (have h9 : _ = false := hif; simp only [h9])); (try simp (maxSteps := 9999999) (disch := omega) only [go_sem, k9]); (try refine cnd ?_); (try (exfalso; omega; done)))))); (all_goals (try clear k9)))
    · intro i p hp
      rw [List.getElem?_map] at hp
      cases hq : M[i]? with
      | none => rw [hq] at hp; cases hp
      | some q => rw [hq] at hp; cases hp; exact ⟨_, _, rfl⟩
    · intro p
      (focus (simp (maxSteps := 9999999) (disch := omega) only [go_sem, hr, mpO, List.filterMap_nil, re_nil]; (try (repeat' (first | done | trivial | rfl | exact leAs_rfl _ | decide | (refine And.intro ?_ ?_) | (simp; done) | omega | (simp; decide))))))
    · intro p d i u v hd hdl hi hid hiv
      rw [List.length_map] at hdl hi
      have hlt := nodup_lt hd hdl hi hid
      rw [List.getElem?_map, List.getElem?_eq_getElem hi] at hiv
      simp only [Option.map_some, Option.some.injEq, Prod.mk.injEq, AV.val.injEq] at hiv
      obtain ⟨rfl, hv⟩ := hiv
      obtain ⟨j, hj, e1, -, e2⟩ := hma M[i] (List.getElem_mem hi)
      rw [e1] at hv
      subst hv
      have hat := re_at o l j hj
      have happ := mpO_app l M d (List.getElem?_eq_getElem hi) (e := l[j]) (by rw [e1, show ((j : Int)).toNat = j by omega, List.getElem?_eq_getElem hj])
      have hol := (mpO_all (fun p hp => by obtain ⟨j, h1, h2, -, h3⟩ := hma p hp; exact ⟨j, h1, h2, h3⟩) d hdl).2
      have hL2 := re_len 0 (mpO l M d)
      have hre : Re 0 (mpO l M (d ++ [i])) = Re 0 (mpO l M d) ++ EnL l[j] := by rw [happ, re_app, re_one]
      have hlen : (mpO l M (d ++ [i])).length = (mpO l M d).length + 1 := by rw [happ, List.length_append, List.length_singleton]
      have hfu := re_all (mpO l M d) rfl
      simp only [List.length_cons, List.length_nil, Am.stepT]
      clear hma hke hdl hid happ e2
      (try simp (maxSteps := 9999999) (disch := omega) only [go_sem])
      (have k9 := And.intro @hr (And.intro @hL (And.intro @hat (And.intro @hL2 (k0)))); (repeat' (first | refine AWpA.seq ?_ | refine AWpA.block ?_ | (with_reducible refine CondP.tt ?_) | (with_reducible refine CondP.ff ?_) | refine AWpA.cg ?_ | ((first | refine AWpA.rg ?_ | refine AWpA.dg [] [] follows ?_ | refine TailK.tg ?_ | refine AWpA.skip ?_ | refine AWpA.exit ?_ | refine AWpA.ret ?_ | (with_reducible refine ARoundsA.succ ?_) | ((first | refine Runs.gkt (fun h9 => ?_) | refine Runs.gkf (fun h9 => ?_) | refine Runs.gnt (fun h9 => ?_) | refine Runs.gnf (fun h9 => ?_) | refine CondP.gt (fun h9 => ?_) | refine CondP.gf (fun h9 => ?_) | refine CondP.gnt (fun h9 => ?_) | refine CondP.gnf (fun h9 => ?_)); (try simp only [h9]); clear h9)); (try simp (maxSteps := 9999999) (disch := omega) only [go_sem, k9]); (try refine cnd ?_)) | ((first | refine CondP.split (fun hif => ?_) (fun hif => ?_) | refine Runs.part (fun hif => ?_) (fun hif => ?_)) <;> ((try simp only [hif]); (try simp only [BL] at hif); (try (have h9 : _ = true := hif; simp only [h9])); (try (have h9 : _ = false := hif; simp only [h9])); (try simp (maxSteps := 9999999) (disch := omega) only [go_sem, k9]); (try refine cnd ?_); (try (exfalso; omega; done)))))); (all_goals (try clear k9)))
      (apply Back.to (d ++ [i]) [0, 178]; (focus ((try simp (maxSteps := 9999999) (disch := omega) only [go_sem, hr, hfu, hre, hlen, renL_append, List.length_map, List.length_append]); first | done | omega)); rotate_left; (focus (simp (maxSteps := 9999999) (disch := omega) only [go_sem, hr, hfu, hre, hlen, renL_append, List.length_map, List.length_append]; (try (repeat' (first | done | trivial | rfl | exact leAs_rfl _ | decide | (refine And.intro ?_ ?_) | (simp; done) | omega | (simp; decide)))))))
      rfl
    · intro p d hd hp
      rw [List.length_map] at hp
      simp only [List.length_cons, List.length_nil, Am.stepT, AThen]
      have hdl : ∀ j ∈ d, j < M.length := fun j hj => by simpa using hp.mem_iff.1 hj
      have hm' : ∀ p ∈ M, ∃ j, ∃ h : j < l.length, p.2 = (j : Int) ∧ l[j].key = p.1 := fun p hp => by obtain ⟨j, h1, h2, -, h3⟩ := hma p hp; exact ⟨j, h1, h2, h3⟩
      have hkk := mpO_keys hm' hke hd hdl
      have hso : sortE (mpO l M d) = sortE (mpO l M (List.range M.length)) := sort_perm hkk (hp.filterMap _)
      have hol := (mpO_all hm' d hdl).2
      have c1 := hs (mpO l M d) (by rw [hol, hp.length_eq, List.length_range]; exact hM) hkk
      rw [hso] at c1
      have hsl : (sortE (mpO l M (List.range M.length))).length = (mpO l M d).length := by rw [← hso, sortE_len]
      rw [hsl]
      clear hso hkk hm' hma hke hdl hp hsl
      (try simp (maxSteps := 9999999) (disch := omega) only [go_sem])
      (have k9 := And.intro @hr (k0); (repeat' (first | refine AWpA.seq ?_ | refine AWpA.block ?_ | (with_reducible refine CondP.tt ?_) | (with_reducible refine CondP.ff ?_) | refine AWpA.cg ?_ | ((first | refine AWpA.rg ?_ | refine AWpA.dg [] [] follows ?_ | refine TailK.tg ?_ | refine AWpA.skip ?_ | refine AWpA.exit ?_ | refine AWpA.ret ?_ | (with_reducible refine ARoundsA.succ ?_) | ((first | refine Runs.gkt (fun h9 => ?_) | refine Runs.gkf (fun h9 => ?_) | refine Runs.gnt (fun h9 => ?_) | refine Runs.gnf (fun h9 => ?_) | refine CondP.gt (fun h9 => ?_) | refine CondP.gf (fun h9 => ?_) | refine CondP.gnt (fun h9 => ?_) | refine CondP.gnf (fun h9 => ?_)); (try simp only [h9]); clear h9) | refine CallG.pg [1] (c1) ?_ | refine CallG.dg [1] (c1) ?_); (try simp (maxSteps := 9999999) (disch := omega) only [go_sem, k9]); (try refine cnd ?_)) | ((first | refine CondP.split (fun hif => ?_) (fun hif => ?_) | refine Runs.part (fun hif => ?_) (fun hif => ?_)) <;> ((try simp only [hif]); (try simp only [BL] at hif); (try (have h9 : _ = true := hif; simp only [h9])); (try (have h9 : _ = false := hif; simp only [h9])); (try simp (maxSteps := 9999999) (disch := omega) only [go_sem, k9]); (try refine cnd ?_); (try (exfalso; omega; done)))))); (all_goals (try clear k9)))
      (apply Ret.det [0, 0, 1]; (focus (first | exact .inl rfl | exact .inr rfl)); (focus (simp (maxSteps := 9999999) (disch := omega) only [go_sem, hr]; rfl)); (simp (maxSteps := 9999999) (disch := omega) only [go_sem, hr]; (try (repeat' (first | done | trivial | rfl | exact leAs_rfl _ | decide | (refine And.intro ?_ ?_) | (simp; done) | omega | (simp; decide))))))
end Go.Proofs.Ytbblpmkdhdnkhaa
