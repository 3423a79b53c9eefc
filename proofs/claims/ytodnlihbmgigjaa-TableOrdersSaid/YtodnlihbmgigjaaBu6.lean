/- Plain laws and contracts for TableOrders: unlike keys in whatever order; a table gone through by a function that stops. -/
import Derived.Test.YtodnlihbmgigjaaBu5
namespace Go.Proofs.Ytodnlihbmgigjaa.Us
set_option linter.unusedSimpArgs false
set_option linter.unusedVariables false
set_option maxHeartbeats 4000000
open Go Go.Am Go.RowKit
set_option maxRecDepth 100000
theorem keys_put {l : List Pi} (k v k' : ByteArray) : k' ∈ (putP l k v).map (·.key) ↔ k' = k ∨ k' ∈ l.map (·.key) := by
  unfold putP
  split
  · rename_i hh
    have hlt := hasP_lt hh
    have hk := hasP_key hh
    have e : l.map (·.key) = (l.take (rankP l k)).map (·.key) ++ k :: (l.drop (rankP l k + 1)).map (·.key) := by
      have : l = l.take (rankP l k) ++ l[rankP l k] :: l.drop (rankP l k + 1) := by rw [List.getElem_cons_drop, List.take_append_drop]
      conv => lhs; rw [this]
      rw [List.map_append, List.map_cons, hk]
    rw [e, List.map_append, List.map_cons]
    simp only [List.mem_append, List.mem_cons]
    constructor
    · rintro (h | h | h)
      · exact .inr (.inl h)
      · exact .inl h
      · exact .inr (.inr (.inr h))
    · rintro (h | h | h | h)
      · exact .inr (.inl h)
      · exact .inl h
      · exact .inr (.inl h)
      · exact .inr (.inr h)
  · have e : l.map (·.key) = (l.take (rankP l k)).map (·.key) ++ (l.drop (rankP l k)).map (·.key) := by rw [← List.map_append, List.take_append_drop]
    rw [e, List.map_append, List.map_cons]
    simp only [List.mem_append, List.mem_cons]
    constructor
    · rintro (h | h | h)
      · exact .inr (.inl h)
      · exact .inl h
      · exact .inr (.inr h)
    · rintro (h | h | h)
      · exact .inr (.inl h)
      · exact .inl h
      · exact .inr (.inr h)
theorem same_put {l : List Pi} (h : ∀ p ∈ l, p.v = p.key) (k : ByteArray) : ∀ p ∈ putP l k k, p.v = p.key := by
  intro p hp
  unfold putP at hp
  split at hp <;> rcases List.mem_append.1 hp with hp | hp
  · exact h p (List.mem_of_mem_take hp)
  · rcases List.mem_cons.1 hp with rfl | hp
    · rfl
    · exact h p (List.mem_of_mem_drop hp)
  · exact h p (List.mem_of_mem_take hp)
  · rcases List.mem_cons.1 hp with rfl | hp
    · rfl
    · exact h p (List.mem_of_mem_drop hp)
theorem rise_ext : ∀ {a b : List ByteArray}, a.Pairwise (fun x y => ltK x y = true) → b.Pairwise (fun x y => ltK x y = true) → (∀ x, x ∈ a ↔ x ∈ b) → a = b
  | [], [], _, _, _ => rfl
  | [], y :: b, _, _, h => by have := (h y).2 (by simp); cases this
  | x :: a, [], _, _, h => by have := (h x).1 (by simp); cases this
  | x :: a, y :: b, ha, hb, h => by
    rw [List.pairwise_cons] at ha hb
    have e : x = y := by
      rcases List.mem_cons.1 ((h x).1 (by simp)) with e | h1
      · exact e
      · rcases List.mem_cons.1 ((h y).2 (by simp)) with e | h2
        · exact e.symm
        · have := ltK_asym (ha.1 y h2); rw [hb.1 x h1] at this; cases this
    subst e
    have hn : ∀ {l : List ByteArray}, (∀ z ∈ l, ltK x z = true) → x ∉ l := fun hl hx => by have := hl x hx; rw [ltK_irr] at this; cases this
    rw [rise_ext ha.2 hb.2 fun z => ?_]
    constructor
    · intro hz
      rcases List.mem_cons.1 ((h z).1 (List.mem_cons_of_mem _ hz)) with rfl | h1
      · exact absurd hz (hn ha.1)
      · exact h1
    · intro hz
      rcases List.mem_cons.1 ((h z).2 (List.mem_cons_of_mem _ hz)) with rfl | h1
      · exact absurd hz (hn hb.1)
      · exact h1
/-- A table of these keys, each its own. -/
structure OkS (t : Tb) (ks : List ByteArray) : Prop where
  rise : Rise t.l
  len : t.l.length ≤ ks.length
  room : t.room = 64
  same : ∀ p ∈ t.l, p.v = p.key
  keys : ∀ x, x ∈ t.l.map (·.key) ↔ x ∈ ks
theorem OkS.ok {t : Tb} {ks : List ByteArray} (h : OkS t ks) (hk : ks.length ≤ 64) : t.ok := ⟨h.rise, by have := h.len; omega⟩
theorem OkS.put {t : Tb} {ks ks' : List ByteArray} (h : OkS t ks) (hk : ks.length < 64) {k : ByteArray} (hl : ks'.length = ks.length + 1) (hm : ∀ x, x ∈ ks' ↔ x = k ∨ x ∈ ks) : OkS (putT t k k) ks' := by
  have hne : ¬ ((t.l.length : Int) = t.room) := by have := h.len; have := h.room; omega
  have e : putT t k k = ⟨t.room, putP t.l k k⟩ := by
    unfold putT
    rw [decide_eq_false hne, Bool.and_false]
  rw [e]
  refine ⟨rise_put h.rise k k, ?_, h.room, same_put h.same k, fun x => ?_⟩
  · have := h.len
    have := rankP_le t.l k
    simp only
    unfold putP
    split
    · rename_i hh; have := hasP_lt hh; simp; omega
    · simp; omega
  · simp only
    rw [keys_put, hm, h.keys]
theorem OkS.eq {t u : Tb} {ks : List ByteArray} (h : OkS t ks) (k : OkS u ks) : t = u := by
  have hk : t.l.map (·.key) = u.l.map (·.key) := rise_ext (List.pairwise_map.2 h.rise) (List.pairwise_map.2 k.rise) fun x => by rw [h.keys, k.keys]
  have hs : ∀ {l : List Pi}, (∀ p ∈ l, p.v = p.key) → l = (l.map (·.key)).map fun k => ⟨k, k⟩ := fun {l} hl => by
    rw [List.map_map]
    refine (List.map_id' l).symm.trans (List.map_congr_left fun p hp => ?_)
    have := hl p hp
    cases p
    simp_all
  have e : t.l = u.l := by rw [hs h.same, hs k.same, hk]
  have hr := h.room
  have kr := k.room
  cases t; cases u; simp_all
/-- How often one asks. -/
def cntI (n : Nat) (s : Int) : Int := if (if s < 1 then 1 else s) < (n : Int) then (if s < 1 then 1 else s) else (n : Int)
/- (*quidnunc/table.Table[string]).All -/
noncomputable def c12_1 : ACode := .region false [⟨some 1, .box 0, [.t 0], none⟩,
  ⟨some 2, .move, [.c (.val .nilFunc)], none⟩] [] [] [1] true [] []
noncomputable def c12_3 : ACode := .region false [⟨some 3, .mkFn 32 0, [.t 1], none⟩,
  ⟨some 2, .move, [.t 3], none⟩] [] [] [2] false [] []
noncomputable def c12_2 : ACode := .seq c12_3 .ret
noncomputable def c12_0 : ACode := .seq c12_1 c12_2
noncomputable def code12 : Code := (Try.f12.body).getD .skip
theorem c12_ok : compC Try.prog 4 code12 = some (strip c12_0) := by kernel_rfl
theorem res12_ok : Try.f12.results.toList.mapM (resC Try.prog) = some [(2, none)] := by kernel_rfl
/- (*quidnunc/table.Table[string]).All$1 -/
noncomputable def c32_1 : ACode := .region false [⟨some 5, .load false 1, [.t 1], none⟩,
  ⟨some 6, .nilChk, [.t 5], none⟩,
  ⟨some 7, .addr 1, [.t 6], none⟩,
  ⟨some 8, .load false 1, [.t 7], none⟩,
  ⟨some 9, .len, [.t 8], none⟩,
  ⟨some 10, .move, [.c (.val (.int .i64 0))], none⟩] [] [] [0, 8, 9, 10] false [] []
noncomputable def c32_5 : ACode := .region false [⟨some 11, .bin .lss, [.t 10, .t 9], none⟩] [] [] [0, 8, 9, 10, 11] false [] []
noncomputable def c32_7 : ACode := .cond (.t 11) .skip (.exit 0)
noncomputable def c32_11 : ACode := .region false [⟨some 12, .ixS 2, [.t 8, .t 10], none⟩,
  ⟨some 13, .load true 2, [.t 12], none⟩,
  ⟨some 4, .alloc [(.string ⟨#[]⟩), (.string ⟨#[]⟩)], [], none⟩,
  ⟨none, .store 2, [.t 4, .t 13], none⟩] [] [] [0, 4, 8, 9, 10] true [] []
noncomputable def c32_13 : ACode := .region false [⟨some 14, .move, [.t 0], none⟩,
  ⟨some 15, .addr 0, [.t 4], none⟩,
  ⟨some 16, .load false 1, [.t 15], none⟩,
  ⟨some 17, .addr 1, [.t 4], none⟩,
  ⟨some 18, .load false 1, [.t 17], none⟩,
  ⟨some 19, .callv, [.t 14, .t 16, .t 18], none⟩,
  ⟨some 20, .un .not, [.t 19], none⟩] [] [] [0, 8, 9, 10, 20] true [] []
noncomputable def c32_14 : ACode := .cond (.t 20) .ret .skip
noncomputable def c32_12 : ACode := .seq c32_13 c32_14
noncomputable def c32_10 : ACode := .seq c32_11 c32_12
noncomputable def c32_9 : ACode := .block 1 c32_10
noncomputable def c32_15 : ACode := .region false [⟨some 21, .bin .add, [.t 10, .c (.val (.int .i64 1))], none⟩,
  ⟨some 10, .move, [.t 21], none⟩] [] [] [0, 8, 9, 10] false [] []
noncomputable def c32_8 : ACode := .seq c32_9 c32_15
noncomputable def c32_6 : ACode := .seq c32_7 c32_8
noncomputable def c32_4 : ACode := .seq c32_5 c32_6
noncomputable def c32_3 : ACode := .loop c32_4
noncomputable def c32_2 : ACode := .block 0 c32_3
noncomputable def c32_0 : ACode := .seq c32_1 c32_2
noncomputable def code32 : Code := (Try.f32.body).getD .skip
theorem c32_ok : compC Try.prog 22 code32 = some (strip c32_0) := by kernel_rfl
theorem res32_ok : Try.f32.results.toList.mapM (resC Try.prog) = some [] := by kernel_rfl
/- quidnunc/quidnunclaw08.TableOrders$1 -/
noncomputable def c13_1 : ACode := .region false [⟨some 7, .move, [.c (.val (.bool false))], none⟩] [] [] [0, 1, 2, 3, 4] false [] []
noncomputable def c13_4 : ACode := .region false [⟨some 8, .load false 1, [.t 2], none⟩,
  ⟨some 9, .load false 1, [.t 3], none⟩,
  ⟨some 10, .len, [.t 9], none⟩,
  ⟨some 11, .bin .geq, [.t 8, .t 10], none⟩,
  ⟨some 12, .move, [.t 11], none⟩,
  ⟨some 13, .load false 1, [.t 3], some (some 12, false)⟩,
  ⟨some 14, .load false 1, [.t 2], some (some 12, false)⟩,
  ⟨some 15, .ixS 2, [.t 13, .t 14], some (some 12, false)⟩,
  ⟨some 16, .addr 0, [.t 15], some (some 12, false)⟩,
  ⟨some 17, .load false 1, [.t 16], some (some 12, false)⟩,
  ⟨some 18, .move, [.t 0], some (some 12, false)⟩,
  ⟨some 19, .bin .neq, [.t 17, .t 18], some (some 12, false)⟩,
  ⟨some 20, .pick, [.t 12, .c (.val (.bool true)), .t 19], none⟩,
  ⟨some 21, .move, [.t 20], none⟩,
  ⟨some 22, .load false 1, [.t 3], some (some 21, false)⟩,
  ⟨some 23, .load false 1, [.t 2], some (some 21, false)⟩,
  ⟨some 24, .ixS 2, [.t 22, .t 23], some (some 21, false)⟩,
  ⟨some 25, .addr 1, [.t 24], some (some 21, false)⟩,
  ⟨some 26, .load false 1, [.t 25], some (some 21, false)⟩,
  ⟨some 27, .move, [.t 1], some (some 21, false)⟩,
  ⟨some 28, .bin .neq, [.t 26, .t 27], some (some 21, false)⟩,
  ⟨some 29, .pick, [.t 21, .c (.val (.bool true)), .t 28], none⟩] [] [] [2, 4, 29] false [] []
noncomputable def c13_6 : ACode := .region false [⟨none, .store 1, [.t 2, .c (.val (.int .i64 1000))], none⟩] [] [] [2, 4] true [] []
noncomputable def c13_5 : ACode := .cond (.t 29) c13_6 .skip
noncomputable def c13_3 : ACode := .seq c13_4 c13_5
noncomputable def c13_8 : ACode := .region false [⟨some 30, .load false 1, [.t 2], none⟩,
  ⟨some 31, .bin .add, [.t 30, .c (.val (.int .i64 1))], none⟩,
  ⟨none, .store 1, [.t 2, .t 31], none⟩] [] [] [2, 4] true [] []
noncomputable def c13_10 : ACode := .region false [⟨some 32, .load false 1, [.t 2], none⟩,
  ⟨some 33, .load false 1, [.t 4], none⟩,
  ⟨some 34, .conv .i64, [.t 33], none⟩,
  ⟨some 35, .bin .lss, [.t 32, .t 34], none⟩,
  ⟨some 7, .move, [.t 35], none⟩] [] [] [7] false [] []
noncomputable def c13_9 : ACode := .seq c13_10 .ret
noncomputable def c13_7 : ACode := .seq c13_8 c13_9
noncomputable def c13_2 : ACode := .seq c13_3 c13_7
noncomputable def c13_0 : ACode := .seq c13_1 c13_2
noncomputable def code13 : Code := (Try.f13.body).getD .skip
theorem c13_ok : compC Try.prog 36 code13 = some (strip c13_0) := by kernel_rfl
theorem res13_ok : Try.f13.results.toList.mapM (resC Try.prog) = some [(7, none)] := by kernel_rfl
theorem ord1_any (l : List Pi) (hl : l.length ≤ 1099511627776) (j : Nat) (hj : j < l.length) (s : Int) (hs : 0 ≤ s ∧ s ≤ 255) : ACall Try.prog 13 [.val (.string l[j].key), .val (.string l[j].v), .ptr 0 0, .ptr 1 0, .ptr 3 0] [.cells false [I j], .cells true [.sl 2 0 l.length 2 none], .cells true (Rp 0 l), .cells true [.val (.int .u8 s)]]
    (Det (Bo (decide ((j : Int) + 1 < s))) [.cells false [I (j + 1)], .cells true [.sl 2 0 l.length 2 none], .cells true (Rp 0 l), .cells true [.val (.int .u8 s)]]) := by
  have hr := rp_ren 0 l
  have hL := rp_len 0 l
  have hk0 := rp_k l j hj
  have hv0 := rp_v l j hj
  have g1 : ((l.length : Int) ≤ (j : Int)) = False := eq_false (by omega)
  have hbe : ∀ x : ByteArray, (x == x) = true := fun x => (_root_.Go.MapKept.bytes_beq _ _).2 rfl
  generalize l[j] = p at *
  refine ACall.startA c13_ok Try.func13 rfl Try.ntmps13 (by kernel_rfl) res13_ok rfl rfl rfl ?_; simp (maxSteps := 9999999) (disch := omega) only [go_sem]
  (repeat' (first | refine AWpA.seq ?_ | refine AWpA.block ?_ | (with_reducible refine CondP.tt ?_) | (with_reducible refine CondP.ff ?_) | refine AWpA.condv (by simp (maxSteps := 9999999) (disch := omega) only [go_sem, hr, hL, hk0, hv0, g1, hbe]; rfl) ?_ | ((first | (apply AWpA.region; (focus (simp (maxSteps := 9999999) (disch := omega) only [go_sem, hr, hL, hk0, hv0, g1, hbe]; rfl))) | (apply AWpA.draw [] [] follows; (focus (first | rfl | decide)); (focus (simp (maxSteps := 9999999) (disch := omega) only [go_sem, hr, hL, hk0, hv0, g1, hbe]; rfl)); (focus (simp (maxSteps := 9999999) (disch := omega) only [go_sem, hr, hL, hk0, hv0, g1, hbe]; first | done | trivial)); (focus (simp (maxSteps := 9999999) (disch := omega) only [go_sem, hr, hL, hk0, hv0, g1, hbe]; rfl))) | (apply TailK.go; (focus (simp (maxSteps := 9999999) (disch := omega) only [go_sem, hr, hL, hk0, hv0, g1, hbe]; rfl))) | refine AWpA.skip ?_ | refine AWpA.exit ?_ | refine AWpA.ret ?_ | (with_reducible refine ARoundsA.succ ?_) | ((first | refine Runs.kt (by assumption) (fun h9 => ?_) | refine Runs.kf (by assumption) (fun h9 => ?_) | refine Runs.nt (by assumption) (fun h9 => ?_) | refine Runs.nf (by assumption) (fun h9 => ?_) | refine CondP.ht (by assumption) (fun h9 => ?_) | refine CondP.hf (by assumption) (fun h9 => ?_) | refine CondP.nt (by assumption) (fun h9 => ?_) | refine CondP.nf (by assumption) (fun h9 => ?_)); (try simp only [h9]); clear h9)); (try simp (maxSteps := 9999999) (disch := omega) only [go_sem, hr, hL, hk0, hv0, g1, hbe]); (try (refine And.intro ?_ ?_; (focus (first | omega | (simp only [go_sem]; done) | (simp; done) | (simp; omega) | assumption))))) | ((first | refine CondP.split (fun hif => ?_) (fun hif => ?_) | refine Runs.part (fun hif => ?_) (fun hif => ?_)) <;> ((try simp only [hif]); (try simp only [decide_eq_true_eq, decide_eq_false_iff_not, Bool.not_eq_true, Bool.not_eq_false, Bool.not_eq_true', Bool.not_eq_false', beq_iff_eq, bne_iff_ne, bne_eq_false_iff_eq, beq_eq_false_iff_ne, ne_eq, Bool.and_eq_true, Bool.or_eq_true, Bool.or_eq_false_iff] at hif); (try (have h9 : _ = true := hif; simp only [h9])); (try (have h9 : _ = false := hif; simp only [h9])); (try simp (maxSteps := 9999999) (disch := omega) only [go_sem, hr, hL, hk0, hv0, g1, hbe]); (try (refine And.intro ?_ ?_; (focus (first | omega | (simp only [go_sem]; done) | (simp; done) | (simp; omega) | assumption)))); (try (exfalso; omega; done))))))
  (apply Ret.det [0, 1, 2, 3]; (focus (first | exact .inl rfl | exact .inr rfl)); (focus (simp (maxSteps := 9999999) (disch := omega) only [go_sem, hr]; rfl)); (simp (maxSteps := 9999999) (disch := omega) only [go_sem, hr]; (try (repeat' (first | done | trivial | rfl | exact leAs_rfl _ | decide | (refine And.intro ?_ ?_) | (simp; done) | omega | (simp; decide))))))
theorem all_any (t : Tb) : ACall Try.prog 12 [.ptr 0 0] [TbR 1 t, .cells true (Rp 0 t.l)] (Det (.fn 32 [] [.ptr 2 0]) [TbR 1 t, .cells true (Rp 0 t.l), .cells false [.ptr 0 0]]) := by
  have hr := rp_ren 0 t.l
  refine ACall.startA c12_ok Try.func12 rfl Try.ntmps12 (by kernel_rfl) res12_ok rfl rfl rfl ?_; simp (maxSteps := 9999999) (disch := omega) only [go_sem]
  (repeat' (first | refine AWpA.seq ?_ | refine AWpA.block ?_ | (with_reducible refine CondP.tt ?_) | (with_reducible refine CondP.ff ?_) | refine AWpA.condv (by simp (maxSteps := 9999999) (disch := omega) only [go_sem, hr]; rfl) ?_ | ((first | (apply AWpA.region; (focus (simp (maxSteps := 9999999) (disch := omega) only [go_sem, hr]; rfl))) | (apply AWpA.draw [] [] follows; (focus (first | rfl | decide)); (focus (simp (maxSteps := 9999999) (disch := omega) only [go_sem, hr]; rfl)); (focus (simp (maxSteps := 9999999) (disch := omega) only [go_sem, hr]; first | done | trivial)); (focus (simp (maxSteps := 9999999) (disch := omega) only [go_sem, hr]; rfl))) | (apply TailK.go; (focus (simp (maxSteps := 9999999) (disch := omega) only [go_sem, hr]; rfl))) | refine AWpA.skip ?_ | refine AWpA.exit ?_ | refine AWpA.ret ?_ | (with_reducible refine ARoundsA.succ ?_) | ((first | refine Runs.kt (by assumption) (fun h9 => ?_) | refine Runs.kf (by assumption) (fun h9 => ?_) | refine Runs.nt (by assumption) (fun h9 => ?_) | refine Runs.nf (by assumption) (fun h9 => ?_) | refine CondP.ht (by assumption) (fun h9 => ?_) | refine CondP.hf (by assumption) (fun h9 => ?_) | refine CondP.nt (by assumption) (fun h9 => ?_) | refine CondP.nf (by assumption) (fun h9 => ?_)); (try simp only [h9]); clear h9)); (try simp (maxSteps := 9999999) (disch := omega) only [go_sem, hr]); (try (refine And.intro ?_ ?_; (focus (first | omega | (simp only [go_sem]; done) | (simp; done) | (simp; omega) | assumption))))) | ((first | refine CondP.split (fun hif => ?_) (fun hif => ?_) | refine Runs.part (fun hif => ?_) (fun hif => ?_)) <;> ((try simp only [hif]); (try simp only [decide_eq_true_eq, decide_eq_false_iff_not, Bool.not_eq_true, Bool.not_eq_false, Bool.not_eq_true', Bool.not_eq_false', beq_iff_eq, bne_iff_ne, bne_eq_false_iff_eq, beq_eq_false_iff_ne, ne_eq, Bool.and_eq_true, Bool.or_eq_true, Bool.or_eq_false_iff] at hif); (try (have h9 : _ = true := hif; simp only [h9])); (try (have h9 : _ = false := hif; simp only [h9])); (try simp (maxSteps := 9999999) (disch := omega) only [go_sem, hr]); (try (refine And.intro ?_ ?_; (focus (first | omega | (simp only [go_sem]; done) | (simp; done) | (simp; omega) | assumption)))); (try (exfalso; omega; done))))))
  (apply Ret.det [0, 1, _]; (focus (first | exact .inl rfl | exact .inr rfl)); (focus (simp (maxSteps := 9999999) (disch := omega) only [go_sem, hr]; rfl)); (simp (maxSteps := 9999999) (disch := omega) only [go_sem, hr]; (try (repeat' (first | done | trivial | rfl | exact leAs_rfl _ | decide | (refine And.intro ?_ ?_) | (simp; done) | omega | (simp; decide))))))
theorem all1_any (t : Tb) (hl : t.l.length ≤ 1099511627776) (s : Int) (hs : 0 ≤ s ∧ s ≤ 255) : ACall Try.prog 32 [.fn 13 [] [.ptr 0 0, .ptr 1 0, .ptr 3 0], .ptr 4 0] [.cells false [I 0], .cells true [.sl 2 0 t.l.length 2 none], .cells true (Rp 0 t.l), .cells true [.val (.int .u8 s)], .cells true [.ptr 5 0], TbR 6 t, .cells true (Rp 0 t.l)]
    (Det (.tup []) [.cells false [I (cntI t.l.length s)], .cells true [.sl 2 0 t.l.length 2 none], .cells true (Rp 0 t.l), .cells true [.val (.int .u8 s)], .cells true [.ptr 5 0], TbR 6 t, .cells true (Rp 0 t.l)]) := by
  have hr := rp_ren 0
  have hL := rp_len 0 t.l
  refine ACall.startA c32_ok Try.func32 rfl Try.ntmps32 (by kernel_rfl) res32_ok rfl rfl rfl ?_; simp (maxSteps := 9999999) (disch := omega) only [go_sem]
  (repeat' (first | refine AWpA.seq ?_ | refine AWpA.block ?_ | (with_reducible refine CondP.tt ?_) | (with_reducible refine CondP.ff ?_) | refine AWpA.condv (by simp (maxSteps := 9999999) (disch := omega) only [go_sem, hr]; rfl) ?_ | ((first | (apply AWpA.region; (focus (simp (maxSteps := 9999999) (disch := omega) only [go_sem, hr]; rfl))) | (apply AWpA.draw [] [] follows; (focus (first | rfl | decide)); (focus (simp (maxSteps := 9999999) (disch := omega) only [go_sem, hr]; rfl)); (focus (simp (maxSteps := 9999999) (disch := omega) only [go_sem, hr]; first | done | trivial)); (focus (simp (maxSteps := 9999999) (disch := omega) only [go_sem, hr]; rfl))) | (apply TailK.go; (focus (simp (maxSteps := 9999999) (disch := omega) only [go_sem, hr]; rfl))) | refine AWpA.skip ?_ | refine AWpA.exit ?_ | refine AWpA.ret ?_ | (with_reducible refine ARoundsA.succ ?_) | ((first | refine Runs.kt (by assumption) (fun h9 => ?_) | refine Runs.kf (by assumption) (fun h9 => ?_) | refine Runs.nt (by assumption) (fun h9 => ?_) | refine Runs.nf (by assumption) (fun h9 => ?_) | refine CondP.ht (by assumption) (fun h9 => ?_) | refine CondP.hf (by assumption) (fun h9 => ?_) | refine CondP.nt (by assumption) (fun h9 => ?_) | refine CondP.nf (by assumption) (fun h9 => ?_)); (try simp only [h9]); clear h9)); (try simp (maxSteps := 9999999) (disch := omega) only [go_sem, hr]); (try (refine And.intro ?_ ?_; (focus (first | omega | (simp only [go_sem]; done) | (simp; done) | (simp; omega) | assumption))))) | ((first | refine CondP.split (fun hif => ?_) (fun hif => ?_) | refine Runs.part (fun hif => ?_) (fun hif => ?_)) <;> ((try simp only [hif]); (try simp only [decide_eq_true_eq, decide_eq_false_iff_not, Bool.not_eq_true, Bool.not_eq_false, Bool.not_eq_true', Bool.not_eq_false', beq_iff_eq, bne_iff_ne, bne_eq_false_iff_eq, beq_eq_false_iff_ne, ne_eq, Bool.and_eq_true, Bool.or_eq_true, Bool.or_eq_false_iff] at hif); (try (have h9 : _ = true := hif; simp only [h9])); (try (have h9 : _ = false := hif; simp only [h9])); (try simp (maxSteps := 9999999) (disch := omega) only [go_sem, hr]); (try (refine And.intro ?_ ?_; (focus (first | omega | (simp only [go_sem]; done) | (simp; done) | (simp; omega) | assumption)))); (try (exfalso; omega; done))))))
  (apply AWpA.loopL (fun j : Nat => [(0, .fn 13 [] [.ptr 0 0, .ptr 1 0, .ptr 3 0]), (8, .sl 6 0 t.l.length 2 none), (9, I t.l.length), (10, I j)]) (fun j => [.cells false [I j], .cells true [.sl 2 0 t.l.length 2 none], .cells true (Rp 0 t.l), .cells true [.val (.int .u8 s)], .cells true [.ptr 5 0], TbR 6 t, .cells true (Rp 0 t.l)]) (fun j => t.l.length - j) (fun j => j ≤ t.l.length ∧ (j = 0 ∨ (j : Int) < s)) (0) [0, 1, 2, 3, 4, 5, 6]; rotate_left; (focus (simp (maxSteps := 9999999) (disch := omega) only [go_sem, hr]; (try (repeat' (first | done | trivial | rfl | exact leAs_rfl _ | decide | (refine And.intro ?_ ?_) | (simp; done) | omega | (simp; decide)))))); rotate_right)
  · simp
  rintro j ⟨hj, hjs⟩
  (try simp only at hj hjs)
  by_cases hjl : j < t.l.length
  · have m1 : ((j : Int) < (t.l.length : Int)) = True := eq_true (by omega)
    have c := ord1_any t.l hl j hjl s hs
    have mat := rp_at 0 t.l j hjl
    rw [Nat.zero_add] at mat
    generalize t.l[j] = p at *
    by_cases hst : (j : Int) + 1 < s
    · rw [decide_eq_true hst] at c
      (try simp (maxSteps := 9999999) (disch := omega) only [go_sem])
      (repeat' (first | refine AWpA.seq ?_ | refine AWpA.block ?_ | (with_reducible refine CondP.tt ?_) | (with_reducible refine CondP.ff ?_) | refine AWpA.condv (by simp (maxSteps := 9999999) (disch := omega) only [go_sem, hr, hL, m1, mat]; rfl) ?_ | ((first | (apply AWpA.region; (focus (simp (maxSteps := 9999999) (disch := omega) only [go_sem, hr, hL, m1, mat]; rfl))) | (apply AWpA.draw [] [] follows; (focus (first | rfl | decide)); (focus (simp (maxSteps := 9999999) (disch := omega) only [go_sem, hr, hL, m1, mat]; rfl)); (focus (simp (maxSteps := 9999999) (disch := omega) only [go_sem, hr, hL, m1, mat]; first | done | trivial)); (focus (simp (maxSteps := 9999999) (disch := omega) only [go_sem, hr, hL, m1, mat]; rfl))) | (apply TailK.go; (focus (simp (maxSteps := 9999999) (disch := omega) only [go_sem, hr, hL, m1, mat]; rfl))) | refine AWpA.skip ?_ | refine AWpA.exit ?_ | refine AWpA.ret ?_ | (with_reducible refine ARoundsA.succ ?_) | ((first | refine Runs.kt (by assumption) (fun h9 => ?_) | refine Runs.kf (by assumption) (fun h9 => ?_) | refine Runs.nt (by assumption) (fun h9 => ?_) | refine Runs.nf (by assumption) (fun h9 => ?_) | refine CondP.ht (by assumption) (fun h9 => ?_) | refine CondP.hf (by assumption) (fun h9 => ?_) | refine CondP.nt (by assumption) (fun h9 => ?_) | refine CondP.nf (by assumption) (fun h9 => ?_)); (try simp only [h9]); clear h9) | ((first | (with_reducible apply CallG.plain1 [0, 1, 2, 3] (c)) | (with_reducible apply CallG.draw1 [0, 1, 2, 3] (c))); (focus ((try refine And.intro (leAs_of_eq rfl) ?_); (try refine And.intro (leOL_of_eq rfl) ?_); simp (maxSteps := 9999999) (disch := omega) only [go_sem, hr, hL, m1, mat]; first | done | (repeat' (first | rfl | (refine And.intro ?_ ?_))))); (focus (simp (maxSteps := 9999999) (disch := omega) only [go_sem, hr, hL, m1, mat]; rfl)))); (try simp (maxSteps := 9999999) (disch := omega) only [go_sem, hr, hL, m1, mat]); (try (refine And.intro ?_ ?_; (focus (first | omega | (simp only [go_sem]; done) | (simp; done) | (simp; omega) | assumption))))) | ((first | refine CondP.split (fun hif => ?_) (fun hif => ?_) | refine Runs.part (fun hif => ?_) (fun hif => ?_)) <;> ((try simp only [hif]); (try simp only [decide_eq_true_eq, decide_eq_false_iff_not, Bool.not_eq_true, Bool.not_eq_false, Bool.not_eq_true', Bool.not_eq_false', beq_iff_eq, bne_iff_ne, bne_eq_false_iff_eq, beq_eq_false_iff_ne, ne_eq, Bool.and_eq_true, Bool.or_eq_true, Bool.or_eq_false_iff] at hif); (try (have h9 : _ = true := hif; simp only [h9])); (try (have h9 : _ = false := hif; simp only [h9])); (try simp (maxSteps := 9999999) (disch := omega) only [go_sem, hr, hL, m1, mat]); (try (refine And.intro ?_ ?_; (focus (first | omega | (simp only [go_sem]; done) | (simp; done) | (simp; omega) | assumption)))); (try (exfalso; omega; done))))))
      (apply Back.to (j + 1) [0, 1, 2, 3, 4, 5, 6]; (focus ((try simp (maxSteps := 9999999) (disch := omega) only [go_sem, hr]); first | done | omega)); rotate_left; (focus (simp (maxSteps := 9999999) (disch := omega) only [go_sem, hr]; (try (repeat' (first | done | trivial | rfl | exact leAs_rfl _ | decide | (refine And.intro ?_ ?_) | (simp; done) | omega | (simp; decide)))))))
      all_goals omega
    · rw [decide_eq_false hst] at c
      have hc : cntI t.l.length s = (j : Int) + 1 := by unfold cntI; (repeat' split) <;> omega
      rw [hc]
      (try simp (maxSteps := 9999999) (disch := omega) only [go_sem])
      (repeat' (first | refine AWpA.seq ?_ | refine AWpA.block ?_ | (with_reducible refine CondP.tt ?_) | (with_reducible refine CondP.ff ?_) | refine AWpA.condv (by simp (maxSteps := 9999999) (disch := omega) only [go_sem, hr, hL, m1, mat]; rfl) ?_ | ((first | (apply AWpA.region; (focus (simp (maxSteps := 9999999) (disch := omega) only [go_sem, hr, hL, m1, mat]; rfl))) | (apply AWpA.draw [] [] follows; (focus (first | rfl | decide)); (focus (simp (maxSteps := 9999999) (disch := omega) only [go_sem, hr, hL, m1, mat]; rfl)); (focus (simp (maxSteps := 9999999) (disch := omega) only [go_sem, hr, hL, m1, mat]; first | done | trivial)); (focus (simp (maxSteps := 9999999) (disch := omega) only [go_sem, hr, hL, m1, mat]; rfl))) | (apply TailK.go; (focus (simp (maxSteps := 9999999) (disch := omega) only [go_sem, hr, hL, m1, mat]; rfl))) | refine AWpA.skip ?_ | refine AWpA.exit ?_ | refine AWpA.ret ?_ | (with_reducible refine ARoundsA.succ ?_) | ((first | refine Runs.kt (by assumption) (fun h9 => ?_) | refine Runs.kf (by assumption) (fun h9 => ?_) | refine Runs.nt (by assumption) (fun h9 => ?_) | refine Runs.nf (by assumption) (fun h9 => ?_) | refine CondP.ht (by assumption) (fun h9 => ?_) | refine CondP.hf (by assumption) (fun h9 => ?_) | refine CondP.nt (by assumption) (fun h9 => ?_) | refine CondP.nf (by assumption) (fun h9 => ?_)); (try simp only [h9]); clear h9) | ((first | (with_reducible apply CallG.plain1 [0, 1, 2, 3] (c)) | (with_reducible apply CallG.draw1 [0, 1, 2, 3] (c))); (focus ((try refine And.intro (leAs_of_eq rfl) ?_); (try refine And.intro (leOL_of_eq rfl) ?_); simp (maxSteps := 9999999) (disch := omega) only [go_sem, hr, hL, m1, mat]; first | done | (repeat' (first | rfl | (refine And.intro ?_ ?_))))); (focus (simp (maxSteps := 9999999) (disch := omega) only [go_sem, hr, hL, m1, mat]; rfl)))); (try simp (maxSteps := 9999999) (disch := omega) only [go_sem, hr, hL, m1, mat]); (try (refine And.intro ?_ ?_; (focus (first | omega | (simp only [go_sem]; done) | (simp; done) | (simp; omega) | assumption))))) | ((first | refine CondP.split (fun hif => ?_) (fun hif => ?_) | refine Runs.part (fun hif => ?_) (fun hif => ?_)) <;> ((try simp only [hif]); (try simp only [decide_eq_true_eq, decide_eq_false_iff_not, Bool.not_eq_true, Bool.not_eq_false, Bool.not_eq_true', Bool.not_eq_false', beq_iff_eq, bne_iff_ne, bne_eq_false_iff_eq, beq_eq_false_iff_ne, ne_eq, Bool.and_eq_true, Bool.or_eq_true, Bool.or_eq_false_iff] at hif); (try (have h9 : _ = true := hif; simp only [h9])); (try (have h9 : _ = false := hif; simp only [h9])); (try simp (maxSteps := 9999999) (disch := omega) only [go_sem, hr, hL, m1, mat]); (try (refine And.intro ?_ ?_; (focus (first | omega | (simp only [go_sem]; done) | (simp; done) | (simp; omega) | assumption)))); (try (exfalso; omega; done))))))
      (apply Ret.det [0, 1, 2, 3, 4, 5, 6]; (focus (first | exact .inl rfl | exact .inr rfl)); (focus (simp (maxSteps := 9999999) (disch := omega) only [go_sem, hr]; rfl)); (simp (maxSteps := 9999999) (disch := omega) only [go_sem, hr]; (try (repeat' (first | done | trivial | rfl | exact leAs_rfl _ | decide | (refine And.intro ?_ ?_) | (simp; done) | omega | (simp; decide))))))
  · obtain rfl : j = t.l.length := by omega
    have m1 : ((t.l.length : Int) < (t.l.length : Int)) = False := eq_false (by omega)
    have hc : cntI t.l.length s = (t.l.length : Int) := by unfold cntI; (repeat' split) <;> omega
    rw [hc]
    (try simp (maxSteps := 9999999) (disch := omega) only [go_sem])
    (repeat' (first | refine AWpA.seq ?_ | refine AWpA.block ?_ | (with_reducible refine CondP.tt ?_) | (with_reducible refine CondP.ff ?_) | refine AWpA.condv (by simp (maxSteps := 9999999) (disch := omega) only [go_sem, hr, m1]; rfl) ?_ | ((first | (apply AWpA.region; (focus (simp (maxSteps := 9999999) (disch := omega) only [go_sem, hr, m1]; rfl))) | (apply AWpA.draw [] [] follows; (focus (first | rfl | decide)); (focus (simp (maxSteps := 9999999) (disch := omega) only [go_sem, hr, m1]; rfl)); (focus (simp (maxSteps := 9999999) (disch := omega) only [go_sem, hr, m1]; first | done | trivial)); (focus (simp (maxSteps := 9999999) (disch := omega) only [go_sem, hr, m1]; rfl))) | (apply TailK.go; (focus (simp (maxSteps := 9999999) (disch := omega) only [go_sem, hr, m1]; rfl))) | refine AWpA.skip ?_ | refine AWpA.exit ?_ | refine AWpA.ret ?_ | (with_reducible refine ARoundsA.succ ?_) | ((first | refine Runs.kt (by assumption) (fun h9 => ?_) | refine Runs.kf (by assumption) (fun h9 => ?_) | refine Runs.nt (by assumption) (fun h9 => ?_) | refine Runs.nf (by assumption) (fun h9 => ?_) | refine CondP.ht (by assumption) (fun h9 => ?_) | refine CondP.hf (by assumption) (fun h9 => ?_) | refine CondP.nt (by assumption) (fun h9 => ?_) | refine CondP.nf (by assumption) (fun h9 => ?_)); (try simp only [h9]); clear h9)); (try simp (maxSteps := 9999999) (disch := omega) only [go_sem, hr, m1]); (try (refine And.intro ?_ ?_; (focus (first | omega | (simp only [go_sem]; done) | (simp; done) | (simp; omega) | assumption))))) | ((first | refine CondP.split (fun hif => ?_) (fun hif => ?_) | refine Runs.part (fun hif => ?_) (fun hif => ?_)) <;> ((try simp only [hif]); (try simp only [decide_eq_true_eq, decide_eq_false_iff_not, Bool.not_eq_true, Bool.not_eq_false, Bool.not_eq_true', Bool.not_eq_false', beq_iff_eq, bne_iff_ne, bne_eq_false_iff_eq, beq_eq_false_iff_ne, ne_eq, Bool.and_eq_true, Bool.or_eq_true, Bool.or_eq_false_iff] at hif); (try (have h9 : _ = true := hif; simp only [h9])); (try (have h9 : _ = false := hif; simp only [h9])); (try simp (maxSteps := 9999999) (disch := omega) only [go_sem, hr, m1]); (try (refine And.intro ?_ ?_; (focus (first | omega | (simp only [go_sem]; done) | (simp; done) | (simp; omega) | assumption)))); (try (exfalso; omega; done))))))
    (apply Ret.det [0, 1, 2, 3, 4, 5, 6]; (focus (first | exact .inl rfl | exact .inr rfl)); (focus (simp (maxSteps := 9999999) (disch := omega) only [go_sem, hr]; rfl)); (simp (maxSteps := 9999999) (disch := omega) only [go_sem, hr]; (try (repeat' (first | done | trivial | rfl | exact leAs_rfl _ | decide | (refine And.intro ?_ ?_) | (simp; done) | omega | (simp; decide))))))
end Go.Proofs.Ytodnlihbmgigjaa.Us
