/- Own theory, no program in sight: the quiet operations are as the model has them (3). -/
import Derived.Test.YteggjhihpjjloaaAm4
namespace Go.Am
set_option linter.unusedSimpArgs false
set_option linter.unusedVariables false
set_option maxHeartbeats 4000000
open Go Go.RowKit
set_option linter.unusedVariables false
set_option linter.unusedSimpArgs false

section
variable {P : Program} {B : BM} {w : World}

theorem minA_run : ∀ (l : List AV) (vs : List Value) (k : IntKind) (x r : Int), VRs B l vs → minA x l = some r → (vs.foldlM Builtin.min2 (.int k x)).run P w = .ok (.int k r) w
  | [], vs, k, x, r, h, e => by
    simp only [VRs] at h
    subst h
    simp only [minA, Option.some.injEq] at e
    subst e
    rfl
  | y :: l, vs, k, x, r, h, e => by
    simp only [VRs] at h
    obtain ⟨v, rest, rfl, hv, hs⟩ := h
    have e0 : ∃ k' z, y = .val (.int k' z) := by
      cases y <;> first | (simp [minA] at e; done) | skip
      rename_i u
      cases u <;> first | (simp [minA] at e; done) | exact ⟨_, _, rfl⟩
    obtain ⟨k', y, rfl⟩ := e0
    simp only [minA] at e
    rw [vr_val] at hv
    subst hv
    rw [List.foldlM_cons]
    rw [Sem.run_bind]
    show ((Builtin.min2 (.int k x) (.int k' y)).run P w).andThen _ = _
    have e2 : (Builtin.min2 (.int k x) (.int k' y)).run P w = .ok (.int k (if y < x then y else x)) w := rfl
    rw [e2]
    exact minA_run l rest k _ r hs e
theorem maxA_run : ∀ (l : List AV) (vs : List Value) (k : IntKind) (x r : Int), VRs B l vs → maxA x l = some r → (vs.foldlM Builtin.max2 (.int k x)).run P w = .ok (.int k r) w
  | [], vs, k, x, r, h, e => by
    simp only [VRs] at h
    subst h
    simp only [maxA, Option.some.injEq] at e
    subst e
    rfl
  | y :: l, vs, k, x, r, h, e => by
    simp only [VRs] at h
    obtain ⟨v, rest, rfl, hv, hs⟩ := h
    have e0 : ∃ k' z, y = .val (.int k' z) := by
      cases y <;> first | (simp [maxA] at e; done) | skip
      rename_i u
      cases u <;> first | (simp [maxA] at e; done) | exact ⟨_, _, rfl⟩
    obtain ⟨k', y, rfl⟩ := e0
    simp only [maxA] at e
    rw [vr_val] at hv
    subst hv
    rw [List.foldlM_cons]
    rw [Sem.run_bind]
    show ((Builtin.max2 (.int k x) (.int k' y)).run P w).andThen _ = _
    have e2 : (Builtin.max2 (.int k x) (.int k' y)).run P w = .ok (.int k (if y > x then y else x)) w := rfl
    rw [e2]
    exact maxA_run l rest k _ r hs e

theorem neq_of_eql {T : TypeId} {x y : Value} {b : Bool} (h : (Op.equal T x y).run P w = .ok b w) (neg : Bool)
    (h1 : ∀ j a k b, x = .int j a → y = .int k b → False) (h2 : ∀ a b, x = .string a → y = .string b → False) (h3 : ∀ j a k b, x = .float j a → y = .float k b → False)
    (h4 : ∀ j a c k b d, x = .complex j a c → y = .complex k b d → False) :
    (binOp (cond neg .neq .eql) T x y).run P w = .ok (.bool (sepB neg b)) w := by
  cases neg
  · cases x <;> cases y <;> first
      | exact (h1 _ _ _ _ rfl rfl).elim
      | exact (h2 _ _ rfl rfl).elim
      | exact (h3 _ _ _ _ rfl rfl).elim
      | exact (h4 _ _ _ _ _ _ rfl rfl).elim
      | simp [binOp, h, sepB]
  · cases x <;> cases y <;> first
      | exact (h1 _ _ _ _ rfl rfl).elim
      | exact (h2 _ _ rfl rfl).elim
      | exact (h3 _ _ _ _ rfl rfl).elim
      | exact (h4 _ _ _ _ _ _ rfl rfl).elim
      | simp [binOp, h, sepB]

theorem eqIn_ptr_nil (d : Nat) {T e : TypeId} (hu : P.underlying T = some (.pointer e)) (a : Option Addr) : (Op.equalIn (d + 1) T (.pointer none) (.pointer a)).run P w = .ok a.isNone w := by
  simp [Op.equalIn, run_und hu]
theorem eqIn_nil_ptr (d : Nat) {T e : TypeId} (hu : P.underlying T = some (.pointer e)) (a : Addr) : (Op.equalIn (d + 1) T (.pointer (some a)) (.pointer none)).run P w = .ok false w := by
  simp [Op.equalIn, run_und hu]
theorem eqIn_ptr (d : Nat) {T e : TypeId} {n : Nat} (hu : P.underlying T = some (.pointer e)) (hs : sizeT P e = some (n + 1)) (b o p : Nat) :
    (Op.equalIn (d + 1) T (.pointer (some ⟨b, o, none⟩)) (.pointer (some ⟨b, p, none⟩))).run P w = .ok (o == p) w := by
  simp only [Op.equalIn, Sem.run_bind, run_und hu, Result.andThen_ok, run_size hs]
  simp [sameAddr]
  rw [Bool.eq_iff_iff]; simp
theorem eqIn_sl_nil (d : Nat) {T e : TypeId} (hu : P.underlying T = some (.slice e)) (a : Option Addr) (l c m k : Nat) : (Op.equalIn (d + 1) T (.slice a l c) (.slice none m k)).run P w = .ok a.isNone w := by
  cases a <;> simp [Op.equalIn, run_und hu]
theorem eqIn_mp_nil (d : Nat) {T k e : TypeId} (hu : P.underlying T = some (.map k e)) (a : Option Nat) : (Op.equalIn (d + 1) T (.map a) (.map none)).run P w = .ok a.isNone w := by
  cases a <;> simp [Op.equalIn, run_und hu]
theorem eqIn_fn_nil (d : Nat) {T : TypeId} {ps rs : Array TypeId} {va : Bool} (hu : P.underlying T = some (.func ps rs va)) (f : Fn) (a c : Array Value) : (Op.equalIn (d + 1) T (.func f a c) .nilFunc).run P w = .ok false w := by
  simp [Op.equalIn, run_und hu]
theorem eqIn_nil_nil (d : Nat) {T : TypeId} {ps rs : Array TypeId} {va : Bool} (hu : P.underlying T = some (.func ps rs va)) : (Op.equalIn (d + 1) T .nilFunc .nilFunc).run P w = .ok true w := by
  simp [Op.equalIn, run_und hu]

def EqRes (P : Program) (w : World) (B : BM) (neg : Bool) (T : TypeId) (X Y : Operand) (x y : Value) (v : AV) : Prop :=
  ∃ r, ((do eqGuard (cond neg .neq .eql) T X Y x y; binOp (cond neg .neq .eql) T x y : Sem Value).run P w) = .ok r w ∧ VR B v r
theorem eq_grd {T : TypeId} {neg : Bool} {X Y : Operand} {x y : Value} (h1 : ∀ a b, x = .agg a → y = .agg b → P.eqGuardType P.depth T = false) (h2 : x ≠ .nilIface) {r : Value} {v : AV}
    (h3 : (binOp (cond neg .neq .eql) T x y).run P w = .ok r w) (hv : VR B v r) : EqRes P w B neg T X Y x y v :=
  ⟨r, by simp only [Sem.run_bind, eqGuard_quiet h1 h2, Result.andThen_ok, h3], hv⟩
theorem eq_in {T : TypeId} {neg b : Bool} {X Y : Operand} {x y : Value} (h0 : (Op.equalIn (9999 + 1) T x y).run P w = .ok b w)
    (h1 : ∀ a b, x = .agg a → y = .agg b → P.eqGuardType P.depth T = false) (h2 : x ≠ .nilIface)
    (h3 : ∀ j a k b, x = .int j a → y = .int k b → False) (h4 : ∀ a b, x = .string a → y = .string b → False) (h5 : ∀ j a k b, x = .float j a → y = .float k b → False)
    (h6 : ∀ j a c k b d, x = .complex j a c → y = .complex k b d → False) : EqRes P w B neg T X Y x y (.val (.bool (sepB neg b))) :=
  eq_grd h1 h2 (neq_of_eql h0 neg h3 h4 h5 h6) (by rw [vr_val])
theorem eq_bin {T : TypeId} {neg : Bool} {X Y : Operand} {ax ay : AV} {x y : Value} (hx : VR B ax x) (hy : VR B ay y) {c : Prop} {v : AV}
    (hq : qBin (cond neg .neq .eql) [ax, ay] = some (c, v)) (hc : c) : EqRes P w B neg T X Y x y v := by
  cases ax <;> cases ay <;> simp only [qBin, reduceCtorEq] at hq
  rename_i p q
  rw [vr_val] at hx hy
  subst hx; subst hy
  cases hb : binV (cond neg .neq .eql) x y with
  | none => rw [hb] at hq; cases hq
  | some r =>
    rw [hb] at hq
    cases hq
    refine eq_grd ?_ ?_ (run_binV T hb hc) (by rw [vr_val])
    · rintro a b rfl; simp [binV] at hb
    · rintro rfl; simp [binV] at hb

theorem eqOp_ok {o : AObj} {T : TypeId} {neg : Bool} {op : AOp} (h : eqOp P neg T = some op) {ax ay : AV} {x y : Value} (hx : VR B ax x) (hy : VR B ay y) {c : Prop} {v : AV}
    (hq : quiet op [ax, ay] o = some (c, v)) (hc : c) (X Y : Operand) : EqRes P w B neg T X Y x y v := by
  unfold eqOp at h
  cases hu : P.underlying T with
  | none => simp [hu] at h
  | some d =>
    rw [hu] at h
    cases d <;> simp only [reduceCtorEq] at h
    case bool =>
      cases h
      simp only [quiet] at hq
      unfold qEqB at hq
      split at hq
      · rename_i p q e
        cases e
        cases hq
        rw [vr_val] at hx hy
        subst hx; subst hy
        exact eq_in (run_equalIn_bool' w 9999 T p q hu) (by rintro a b e; cases e) (by simp) (by simp) (by simp) (by simp) (by simp)
      · cases hq
    case int k =>
      cases h
      exact eq_bin hx hy hq hc
    case string =>
      cases h
      exact eq_bin hx hy hq hc
    case pointer e =>
      split at h
      · rename_i n hsz
        cases h
        simp only [quiet] at hq
        unfold qEqP at hq
        split at hq
        · rename_i i o e; cases e; cases hq
          rw [vr_val] at hy; simp only [VR] at hx
          obtain ⟨b, n, hb, rfl⟩ := hx; subst hy
          exact eq_in (eqIn_nil_ptr 9999 hu _) (by rintro a b e; cases e) (by simp) (by simp) (by simp) (by simp) (by simp)
        · rename_i i o e; cases e; cases hq
          rw [vr_val] at hx; simp only [VR] at hy
          obtain ⟨b, n, hb, rfl⟩ := hy; subst hx
          exact eq_in (eqIn_ptr_nil 9999 hu _) (by rintro a b e; cases e) (by simp) (by simp) (by simp) (by simp) (by simp)
        · rename_i e; cases e; cases hq
          rw [vr_val] at hx hy; subst hx; subst hy
          exact eq_in (eqIn_ptr_nil 9999 hu _) (by rintro a b e; cases e) (by simp) (by simp) (by simp) (by simp) (by simp)
        · rename_i i o j p e; cases e; cases hq; subst hc
          simp only [VR] at hx hy
          obtain ⟨b, n, hb, rfl⟩ := hx
          obtain ⟨b', n', hb', rfl⟩ := hy
          rw [hb] at hb'; cases hb'
          exact eq_in (eqIn_ptr 9999 hu hsz _ _ _) (by rintro a b e; cases e) (by simp) (by simp) (by simp) (by simp) (by simp)
        · cases hq
      · cases h
    case slice e =>
      cases h
      simp only [quiet] at hq
      unfold qEqS at hq
      split at hq
      · rename_i e; cases e; cases hq
        rw [vr_val] at hy; simp only [VR] at hx
        rcases hx with ⟨rfl, rfl, q0, rfl⟩ | ⟨b, n, c, o', hb, rfl, _⟩
        · exact absurd hc (Nat.lt_irrefl 0)
        subst hy
        exact eq_in (eqIn_sl_nil 9999 hu _ _ _ _ _) (by rintro a b e; cases e) (by simp) (by simp) (by simp) (by simp) (by simp)
      · rename_i e; cases e; cases hq
        rw [vr_val] at hx hy; subst hx; subst hy
        exact eq_in (eqIn_sl_nil 9999 hu _ _ _ _ _) (by rintro a b e; cases e) (by simp) (by simp) (by simp) (by simp) (by simp)
      · rename_i e; cases e; cases hq
        rw [vr_val] at hx hy; subst hx; subst hy
        exact eq_in (eqIn_sl_nil 9999 hu _ _ _ _ _) (by rintro a b e; cases e) (by simp) (by simp) (by simp) (by simp) (by simp)
      · cases hq
    case map k e =>
      cases h
      simp only [quiet] at hq
      unfold qEqM at hq
      split at hq
      · rename_i e; cases e; cases hq
        rw [vr_val] at hy; simp only [VR] at hx
        obtain ⟨b, n, hb, rfl⟩ := hx; subst hy
        exact eq_in (eqIn_mp_nil 9999 hu _) (by rintro a b e; cases e) (by simp) (by simp) (by simp) (by simp) (by simp)
      · rename_i e; cases e; cases hq
        rw [vr_val] at hx hy; subst hx; subst hy
        exact eq_in (eqIn_mp_nil 9999 hu _) (by rintro a b e; cases e) (by simp) (by simp) (by simp) (by simp) (by simp)
      · cases hq
    case func ps rs va =>
      cases h
      simp only [quiet] at hq
      unfold qEqF at hq
      split at hq
      · rename_i e; cases e; cases hq
        rw [vr_val] at hy; simp only [VR] at hx
        obtain ⟨a, c, rfl, _⟩ := hx; subst hy
        exact eq_in (eqIn_fn_nil 9999 hu _ _ _) (by rintro a b e; cases e) (by simp) (by simp) (by simp) (by simp) (by simp)
      · rename_i e; cases e; cases hq
        rw [vr_val] at hx hy; subst hx; subst hy
        exact eq_in (eqIn_nil_nil 9999 hu) (by rintro a b e; cases e) (by simp) (by simp) (by simp) (by simp) (by simp)
      · cases hq
    case struct fs =>
      split at h
      · cases h
      · rename_i hg
        cases hl : leaves P 10 T 0 with
        | none => rw [hl] at h; cases h
        | some l =>
          rw [hl] at h
          cases h
          simp only [quiet] at hq
          unfold qEqA at hq
          split at hq
          · rename_i xs ys e; cases e
            cases hr : eqCells xs ys l with
            | none => rw [hr] at hq; cases hq
            | some r =>
              rw [hr] at hq
              cases hq
              simp only [VR] at hx hy
              obtain ⟨ax, rfl, hx, -⟩ := hx
              obtain ⟨ay, rfl, hy, -⟩ := hy
              refine eq_in (eq_leaves 10 (9999 + 1) (by omega) T 0 l hl xs ys ax.toList ay.toList (.agg ax) (.agg ay) hx hy ?_ ?_ r hr) (fun _ _ _ _ => by simpa using hg) (by simp) (by simp) (by simp) (by simp) (by simp)
              · simp only [At, hu]; exact ⟨ax, rfl, fun n hn o ho => by simp⟩
              · simp only [At, hu]; exact ⟨ay, rfl, fun n hn o ho => by simp⟩
          · cases hq
end
end Go.Am
