/- Own theory, no program in sight: the quiet operations are as the model has them (2). -/
import Derived.Test.YteggjhihpjjloaaAm3
namespace Go.Am
set_option linter.unusedSimpArgs false
set_option linter.unusedVariables false
set_option maxHeartbeats 4000000
open Go Go.RowKit
set_option linter.unusedVariables false
set_option linter.unusedSimpArgs false

section
variable {P : Program} {B : BM} {w : World}

theorem vr_val {x v : Value} : VR B (.val x) v ↔ v = x := by simp [VR]
theorem args1 {x : AV} {v : List Value} : VRs B [x] v ↔ ∃ a, v = [a] ∧ VR B x a := by
  simp only [VRs]
  constructor
  · rintro ⟨a, r, rfl, h, rfl⟩; exact ⟨a, rfl, h⟩
  · rintro ⟨a, rfl, h⟩; exact ⟨a, [], rfl, h, rfl⟩
theorem args2 {x y : AV} {v : List Value} : VRs B [x, y] v ↔ ∃ a b, v = [a, b] ∧ VR B x a ∧ VR B y b := by
  simp only [VRs]
  constructor
  · rintro ⟨a, r, rfl, h, b, s, rfl, k, rfl⟩; exact ⟨a, b, rfl, h, k⟩
  · rintro ⟨a, b, rfl, h, k⟩; exact ⟨a, [b], rfl, h, b, [], rfl, k, rfl⟩

theorem run_intBin {op : BinOp} {k k' : IntKind} {a b : Int} {c : Prop} {v : Value} (T : TypeId)
    (h : binV op (.int k a) (.int k' b) = some (c, v)) (hc : c) : (binOp op T (.int k a) (.int k' b)).run P w = .ok v w := by
  unfold binV at h
  cases op <;> simp only [isShift, intBin, Option.map_some, Option.some.injEq, Prod.mk.injEq] at h <;> obtain ⟨rfl, rfl⟩ := h <;>
    first
      | (obtain ⟨rfl, hc⟩ := hc; simp [binOp, Op.intArith, Op.intDiv, Op.intBits, Op.intCmp, bits, hc]; done)
      | (obtain ⟨rfl, hc⟩ := hc; simp [binOp, Op.intArith, Op.intDiv, Op.intBits, Op.intCmp, bits, hc]; rfl)
      | (simp [binOp, Op.shift, show ¬ b < 0 by omega])
theorem run_strBin {op : BinOp} {a b : ByteArray} {c : Prop} {v : Value} (T : TypeId)
    (h : strBin op a b = some (c, v)) (hc : c) : (binOp op T (.string a) (.string b)).run P w = .ok v w := by
  cases op <;> simp only [strBin, Option.some.injEq, Prod.mk.injEq, reduceCtorEq] at h <;> obtain ⟨rfl, rfl⟩ := h <;>
    first
      | (simp [binOp, Op.stringOp, beq_toListBytes]; done)
      | (simp only [binOp, Op.stringOp]; rw [if_neg (by omega)]; rfl)
theorem run_binV {op : BinOp} {x y : Value} {c : Prop} {v : Value} (T : TypeId)
    (h : binV op x y = some (c, v)) (hc : c) : (binOp op T x y).run P w = .ok v w := by
  cases x <;> cases y <;> first
    | exact run_intBin T h hc
    | exact run_strBin T (by simpa [binV] using h) hc
    | (simp [binV] at h; done)

theorem eqGuard_quiet {op : BinOp} {T : TypeId} {X Y : Operand} {x y : Value} (h : ∀ a b, x = .agg a → y = .agg b → P.eqGuardType P.depth T = false) (hn : x ≠ .nilIface) :
    (eqGuard op T X Y x y).run P w = .ok () w := by
  unfold eqGuard
  cases op <;> first
    | rfl
    | (cases x <;> cases y <;> first
        | rfl
        | (exact absurd rfl hn)
        | (rename_i a b
           have := h a b rfl rfl
           simp [this]))

theorem eqCells_append {xs ys : List AV} : ∀ {l l' : List (Nat × Nat)} {r : Bool}, eqCells xs ys (l ++ l') = some r → ∃ a b, eqCells xs ys l = some a ∧ eqCells xs ys l' = some b ∧ r = (a && b)
  | [], l', r, h => ⟨true, r, rfl, h, by simp⟩
  | (o, k) :: l, l', r, h => by
    simp only [List.cons_append, eqCells] at h
    split at h
    · rename_i a c h1 h2
      obtain ⟨a', b, e1, e2, rfl⟩ := eqCells_append h2
      cases h
      exact ⟨a && a', b, by simp only [eqCells, h1, e1], e2, by simp [Bool.and_assoc]⟩
    · cases h
/-- A value lies at a place among cells. -/
def At (P : Program) (t : TypeId) (A : List Value) (off : Nat) (v : Value) : Prop :=
  match P.underlying t with
  | some (.struct _) => ∃ sub : Array Value, v = .agg sub ∧ ∀ n, sizeT P t = some n → ∀ o, o < n → sub[o]? = A[off + o]?
  | _ => A[off]? = some v
theorem VRs.getD {x : List AV} {v : List Value} (h : VRs B x v) (i : Nat) : VR B (x.getD i .bad) (v.getD i undef) ∨ x.getD i .bad = .bad := by
  rw [List.getD_eq_getElem?_getD, List.getD_eq_getElem?_getD]
  cases hx : x[i]? with
  | none => exact .inr rfl
  | some a =>
    obtain ⟨r, hr, hv⟩ := h.get i hx
    rw [hr]
    exact .inl hv
theorem VRs.leaf {x : List AV} {v : List Value} (h : VRs B x v) {i : Nat} {u : Value} (e : x.getD i .bad = .val u) : v[i]? = some u := by
  rw [List.getD_eq_getElem?_getD] at e
  cases hx : x[i]? with
  | none => rw [hx] at e; cases e
  | some a =>
    obtain ⟨r, hr, hv⟩ := h.get i hx
    rw [hx] at e
    simp only [Option.getD_some] at e
    subst e
    rw [hr, vr_val.1 hv]
theorem leaf_eq {k : Nat} {x y : AV} {r : Bool} (h : eqLeaf k x y = some r) :
    (k = 0 ∧ ∃ j a b, x = .val (.int j a) ∧ y = .val (.int j b) ∧ r = (a == b)) ∨ (k = 1 ∧ ∃ a b, x = .val (.string a) ∧ y = .val (.string b) ∧ r = (a == b)) ∨
    (k = 2 ∧ ∃ a b, x = .val (.bool a) ∧ y = .val (.bool b) ∧ r = (a == b)) := by
  unfold eqLeaf at h
  split at h
  · rename_i j a j' b
    split at h
    · rename_i e; subst e; cases h; exact .inl ⟨rfl, _, _, _, rfl, rfl, rfl⟩
    · cases h
  · cases h; exact .inr (.inl ⟨rfl, _, _, rfl, rfl, rfl⟩)
  · cases h; exact .inr (.inr ⟨rfl, _, _, rfl, rfl, rfl⟩)
  · cases h
theorem eq_leaves : ∀ (d D : Nat), d ≤ D → ∀ (t : TypeId) (off : Nat) (l : List (Nat × Nat)), leaves P d t off = some l → ∀ (xs ys : List AV) (ax ay : List Value) (x y : Value),
    VRs B xs ax → VRs B ys ay → At P t ax off x → At P t ay off y → ∀ r, eqCells xs ys l = some r → (Op.equalIn D t x y).run P w = .ok r w := by
  intro d
  induction d with
  | zero => intro D hD t off l hl; simp [leaves] at hl
  | succ d ih =>
    intro D hD t off l hl xs ys ax ay x y hx hy ux uy r hr
    obtain ⟨D, rfl⟩ : ∃ D', D = D' + 1 := ⟨D - 1, by omega⟩
    unfold leaves at hl
    have one : ∀ k, l = [(off, k)] → eqLeaf k (xs.getD off .bad) (ys.getD off .bad) = some r := by
      rintro k rfl
      simp only [eqCells] at hr
      split at hr
      · rename_i a c h1 h2; cases h2; cases hr; simpa using h1
      · cases hr
    split at hl
    · rename_i kk hu
      cases hl
      rcases leaf_eq (one 0 rfl) with ⟨_, j, a, b, e1, e2, rfl⟩ | ⟨h, _⟩ | ⟨h, _⟩
      · simp only [At, hu, hx.leaf e1, Option.some.injEq] at ux
        simp only [At, hu, hy.leaf e2, Option.some.injEq] at uy
        subst ux; subst uy
        exact run_equalIn_int w D t j kk a b hu
      · cases h
      · cases h
    · rename_i hu
      cases hl
      rcases leaf_eq (one 1 rfl) with ⟨h, _⟩ | ⟨_, a, b, e1, e2, rfl⟩ | ⟨h, _⟩
      · cases h
      · simp only [At, hu, hx.leaf e1, Option.some.injEq] at ux
        simp only [At, hu, hy.leaf e2, Option.some.injEq] at uy
        subst ux; subst uy
        rw [beq_toListBytes]
        exact run_equalIn_string w D t a b hu
      · cases h
    · rename_i hu
      cases hl
      rcases leaf_eq (one 2 rfl) with ⟨h, _⟩ | ⟨h, _⟩ | ⟨_, a, b, e1, e2, rfl⟩
      · cases h
      · cases h
      · simp only [At, hu, hx.leaf e1, Option.some.injEq] at ux
        simp only [At, hu, hy.leaf e2, Option.some.injEq] at uy
        subst ux; subst uy
        exact run_equalIn_bool' w D t a b hu
    · rename_i fs hu
      split at hl
      · rename_i n hst hn
        simp only [At, hu] at ux uy
        obtain ⟨sx, rfl, wx⟩ := ux
        obtain ⟨sy, rfl, wy⟩ := uy
        have hf : P.fieldsOf t = fs := by simp [Program.fieldsOf, hu]
        rw [run_equalIn_struct w D t sx sy (by rw [hf]; exact hu) hst, hf]
        have wx := wx n hn
        have wy := wy n hn
        clear one hf hu
        generalize fs.toList = L at hl
        induction L generalizing l r with
        | nil =>
          simp only [List.foldr_nil, Option.some.injEq] at hl
          subst hl
          simp only [eqCells, Option.some.injEq] at hr
          subst hr
          rfl
        | cons f L ihL =>
          simp only [List.foldr_cons] at hl
          split at hl
          · rename_i l0 l1 m h0 h1 h2
            split at hl
            · rename_i hc
              obtain ⟨hname, hfit, hm⟩ := hc
              cases hl
              obtain ⟨ra, rb, hra, hrb, rfl⟩ := eqCells_append hr
              have hnn : f.name ≠ "_" := hname
              simp only [Op.eqFields, if_pos hnn]
              -- the field's value
              have sz := run_size (P := P) h2 w
              have key : ∀ (A : List Value) (s : Array Value), (∀ o, o < n → s[o]? = A[off + o]?) → ((∃ k, l1 = [(off + f.offset, k)]) → (A[off + f.offset]?).isSome = true) →
                  ∃ v, (part f.type s f.offset).run P w = .ok v w ∧ At P f.type A (off + f.offset) v := by
                intro A s hs hsome
                cases hd : P.underlying f.type with
                | none => cases d <;> simp [leaves, hd] at h1
                | some dd =>
                  have ag := run_agg (P := P) hd w
                  unfold part At
                  simp only [Sem.run_bind, ag, Result.andThen_ok, hd]
                  cases dd
                  case struct ff =>
                    refine ⟨.agg (s.extract f.offset (f.offset + m)), by simp [aggD, sz], s.extract f.offset (f.offset + m), rfl, fun n' hn' o ho => ?_⟩
                    rw [h2] at hn'
                    cases hn'
                    rw [Array.getElem?_extract]
                    have hso := hs (f.offset + o) (by omega)
                    by_cases hb : f.offset + o < s.size
                    · rw [if_pos (by omega), hso, Nat.add_assoc]
                    · rw [if_neg (by omega)]
                      rw [Array.getElem?_eq_none (by omega)] at hso
                      rw [Nat.add_assoc, ← hso]
                  all_goals first
                    | (cases d <;> simp [leaves, hd] at h1; done)
                    | (obtain ⟨v, hv⟩ := Option.isSome_iff_exists.1 (hsome (by cases d <;> simp [leaves, hd] at h1; exact ⟨_, h1.symm⟩))
                       have hsv : s[f.offset]? = some v := by rw [hs _ (by omega)]; exact hv
                       exact ⟨v, by simp [aggD, hsv], hv⟩)
              have leaf1 : ∀ k, l1 = [(off + f.offset, k)] → (ax[off + f.offset]?).isSome = true ∧ (ay[off + f.offset]?).isSome = true := by
                rintro k rfl
                simp only [eqCells] at hra
                split at hra
                · rename_i a c h1 h2
                  rcases leaf_eq h1 with ⟨_, j, a, b, e1, e2, _⟩ | ⟨_, a, b, e1, e2, _⟩ | ⟨_, a, b, e1, e2, _⟩ <;> exact ⟨by rw [hx.leaf e1]; rfl, by rw [hy.leaf e2]; rfl⟩
                · cases hra
              obtain ⟨vx, px, qx⟩ := key ax sx wx fun hk => (leaf1 _ hk.choose_spec).1
              obtain ⟨vy, py, qy⟩ := key ay sy wy fun hk => (leaf1 _ hk.choose_spec).2
              have h3 := ih D (by omega) f.type _ l1 h1 xs ys ax ay vx vy hx hy qx qy ra hra
              simp only [Sem.run_bind, px, py, h3, Result.andThen_ok, Sem.run_ite]
              cases ra with
              | false => simp
              | true =>
                simp only [Bool.not_true, Bool.false_eq_true, if_false, Bool.true_and]
                first
                  | exact ihL l0 rb h0 hrb
                  | exact ihL l0 rb hrb h0
            · cases hl
          · cases hl
      · cases hl
    · cases hl
end
end Go.Am
