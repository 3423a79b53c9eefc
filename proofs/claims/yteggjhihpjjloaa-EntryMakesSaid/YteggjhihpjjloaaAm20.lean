/- Own theory, no program in sight: code compiled once, piece by piece. -/
import Derived.Test.YteggjhihpjjloaaAm19
namespace Go.Am
set_option linter.unusedSimpArgs false
set_option linter.unusedVariables false
set_option maxHeartbeats 4000000
open Go Go.RowKit
set_option linter.unusedVariables false
set_option linter.unusedSimpArgs false

/-- Compiled code. 'live': the slots that are kept behind a region (what stands there is nobody's promise: less is told, never more); 'dd': are objects written; 'wr': slots whose blocks are written beside reads. -/
inductive ACode where
  | skip
  | region (draw : Bool) (ops : List AOper) (F : List (Nat × Nat)) (live : List Nat) (dd : Bool) (wr : List Nat)
  | seq (a b : ACode)
  | cond (c : Opd) (a b : ACode)
  | block (id : Nat) (c : ACode)
  | loop (c : ACode)
  | exit (id : Nat)
  | ret
  deriving Inhabited
def strip : ACode → ACode
  | .skip => .skip
  | .region d ops F _ _ _ => .region d ops F [] false []
  | .seq a b => .seq (strip a) (strip b)
  | .cond c a b => .cond c (strip a) (strip b)
  | .block id c => .block id (strip c)
  | .loop c => .loop (strip c)
  | .exit id => .exit id
  | .ret => .ret
/-- Effects and new blocks that nothing orders. -/
def freeF (ops : Array Oper) (aops : List AOper) (ms : List Nat) : List (Nat × Nat) :=
  let l := numberA 0 aops
  l.flatMap fun p => match isEff p.2.op with
    | false => []
    | true => l.filterMap fun q => match isFresh q.2.op && !((ms.getD q.1 0).testBit p.1) && !((ms.getD p.1 0).testBit q.1) with
      | true => some (p.1, q.1)
      | false => none
open Go.Proofs.Yteggjhihpjjloaa in
def compR (ops : Array Oper) (aops : List AOper) (d : Bool) : Option ACode :=
  match d with
  | false => some (.region false aops [] [] false [])
  | true => match orderB ops aops [] (freeF ops aops (Seq.masks .any ops.toList [])) with
    | true => some (.region true aops (freeF ops aops (Seq.masks .any ops.toList [])) [] false [])
    | false => none
def compC (P : Program) (N : Nat) : Code → Option ACode
  | .skip => some .skip
  | .label _ => some .skip
  | .region _ ops d => match compOps P N ops with
    | some aops => compR ops aops d
    | none => none
  | .seq a b => match compC P N a, compC P N b with
    | some x, some y => some (.seq x y)
    | _, _ => none
  | .cond c a b => match compC P N a, compC P N b with
    | some x, some y => some (.cond (opd c) x y)
    | _, _ => none
  | .block id c => match compC P N c with
    | some x => some (.block id x)
    | none => none
  | .loop c => match compC P N c with
    | some x => some (.loop x)
    | none => none
  | .exit id => some (.exit id)
  | .ret => some .ret
  | _ => none
theorem compR_inv {ops : Array Oper} {aops : List AOper} {d d' : Bool} {l : List AOper} {F : List (Nat × Nat)} {lv : List Nat} {dd : Bool} {wr : List Nat} (h : compR ops aops d = some (.region d' l F lv dd wr)) : l = aops ∧ d' = d ∧ (d = true → orderB ops aops [] F = true) := by
  unfold compR at h
  cases d with
  | false => simp at h; obtain ⟨rfl, rfl, _⟩ := h; exact ⟨rfl, rfl, fun h => by cases h⟩
  | true =>
    simp only at h
    split at h
    · rename_i h1
      simp at h
      obtain ⟨rfl, rfl, rfl, _⟩ := h
      exact ⟨rfl, rfl, fun _ => h1⟩
    · cases h
theorem compR_region {ops : Array Oper} {aops : List AOper} {d : Bool} {c : ACode} (h : compR ops aops d = some c) : ∃ l F, c = .region d l F [] false [] := by
  unfold compR at h
  cases d with
  | false => simp at h; exact ⟨_, _, h.symm⟩
  | true =>
    simp only at h
    split at h
    · simp at h; exact ⟨_, _, h.symm⟩
    · cases h

section
variable {P : Program} {N : Nat} {nn : NN} {Q : Exit → St → Prop} {x : St}
/-- Compiled code, run in an abstract state, comes to an end that is Q. -/
def AWpA (P : Program) (N : Nat) (nn : NN) (ac : ACode) (Q : Exit → St → Prop) (x : St) : Prop :=
  ∀ c, compC P N c = some (strip ac) → AWp P N nn c Q x
theorem comp_seq {c : Code} {a b : ACode} (h : compC P N c = some (.seq a b)) : ∃ c1 c2, c = .seq c1 c2 ∧ compC P N c1 = some a ∧ compC P N c2 = some b := by
  cases c <;> simp only [compC] at h
  case seq c1 c2 =>
    split at h
    · rename_i x y h1 h2; simp at h; obtain ⟨rfl, rfl⟩ := h; exact ⟨c1, c2, rfl, h1, h2⟩
    · cases h
  case region id ops d =>
    split at h
    · obtain ⟨_, _, e⟩ := compR_region h; cases e
    · cases h
  all_goals (first | (split at h <;> simp at h) | simp at h)
theorem comp_cond {c : Code} {o : Opd} {a b : ACode} (h : compC P N c = some (.cond o a b)) : ∃ co c1 c2, c = .cond co c1 c2 ∧ opd co = o ∧ compC P N c1 = some a ∧ compC P N c2 = some b := by
  cases c <;> simp only [compC] at h
  case cond co c1 c2 =>
    split at h
    · rename_i x y h1 h2; simp at h; obtain ⟨rfl, rfl, rfl⟩ := h; exact ⟨co, c1, c2, rfl, rfl, h1, h2⟩
    · cases h
  case region id ops d =>
    split at h
    · obtain ⟨_, _, e⟩ := compR_region h; cases e
    · cases h
  all_goals (first | (split at h <;> simp at h) | simp at h)
theorem comp_block {c : Code} {id : Nat} {a : ACode} (h : compC P N c = some (.block id a)) : ∃ c1, c = .block id c1 ∧ compC P N c1 = some a := by
  cases c <;> simp only [compC] at h
  case block id' c1 =>
    split at h
    · rename_i x h1; simp at h; obtain ⟨rfl, rfl⟩ := h; exact ⟨c1, rfl, h1⟩
    · cases h
  case region id ops d =>
    split at h
    · obtain ⟨_, _, e⟩ := compR_region h; cases e
    · cases h
  all_goals (first | (split at h <;> simp at h) | simp at h)
theorem comp_loop {c : Code} {a : ACode} (h : compC P N c = some (.loop a)) : ∃ c1, c = .loop c1 ∧ compC P N c1 = some a := by
  cases c <;> simp only [compC] at h
  case loop c1 =>
    split at h
    · rename_i x h1; simp at h; obtain rfl := h; exact ⟨c1, rfl, h1⟩
    · cases h
  case region id ops d =>
    split at h
    · obtain ⟨_, _, e⟩ := compR_region h; cases e
    · cases h
  all_goals (first | (split at h <;> simp at h) | simp at h)
theorem comp_exit {c : Code} {id : Nat} (h : compC P N c = some (.exit id)) : c = .exit id := by
  cases c <;> simp only [compC] at h
  case exit id' => simp at h; rw [h]
  case region id ops d =>
    split at h
    · obtain ⟨_, _, e⟩ := compR_region h; cases e
    · cases h
  all_goals (first | (split at h <;> simp at h) | simp at h)
theorem comp_ret {c : Code} (h : compC P N c = some .ret) : c = .ret := by
  cases c <;> simp only [compC] at h
  case ret => rfl
  case region id ops d =>
    split at h
    · obtain ⟨_, _, e⟩ := compR_region h; cases e
    · cases h
  all_goals (first | (split at h <;> simp at h) | simp at h)
theorem comp_skip {c : Code} (h : compC P N c = some .skip) : c = .skip ∨ ∃ l, c = .label l := by
  cases c <;> simp only [compC] at h
  case skip => exact .inl rfl
  case label l => exact .inr ⟨l, rfl⟩
  case region id ops d =>
    split at h
    · obtain ⟨_, _, e⟩ := compR_region h; cases e
    · cases h
  all_goals (first | (split at h <;> simp at h) | simp at h)
theorem comp_region {c : Code} {d : Bool} {l : List AOper} {F : List (Nat × Nat)} {lv : List Nat} {dd : Bool} {wr : List Nat} (h : compC P N c = some (.region d l F lv dd wr)) : ∃ id ops, c = .region id ops d ∧ compOps P N ops = some l ∧ (d = true → orderB ops l [] F = true) := by
  cases c <;> simp only [compC] at h
  case region id ops d' =>
    split at h
    · rename_i aops h1
      obtain ⟨rfl, rfl, h2⟩ := compR_inv h
      exact ⟨id, ops, rfl, h1, h2⟩
    · cases h
  all_goals (first | (split at h <;> simp at h) | simp at h)

theorem AWpA.seq {a b : ACode} (h : AWpA P N nn a (AThen (fun x => AWpA P N nn b Q x) Q) x) : AWpA P N nn (.seq a b) Q x := by
  intro c hc
  obtain ⟨c1, c2, rfl, h1, h2⟩ := comp_seq hc
  refine AWp.seq (AWp.mono (h c1 h1) ?_)
  intro e y hq
  cases e with
  | normal => exact hq c2 h2
  | _ => exact hq
theorem AWpA.block {id : Nat} {a : ACode} (h : AWpA P N nn a (ABlock id Q) x) : AWpA P N nn (.block id a) Q x := by
  intro c hc
  obtain ⟨c1, rfl, h1⟩ := comp_block hc
  exact AWp.block (h c1 h1)
theorem AWpA.skip (h : Q .normal x) : AWpA P N nn .skip Q x := by
  intro c hc
  rcases comp_skip hc with rfl | ⟨l, rfl⟩
  · exact AWp.skip h
  · exact AWp.label h
theorem AWpA.exit {id : Nat} (h : Q (.exit id) x) : AWpA P N nn (.exit id) Q x := by
  intro c hc
  rw [comp_exit hc]
  exact AWp.exit h
theorem AWpA.ret (h : Q .ret x) : AWpA P N nn .ret Q x := by
  intro c hc
  rw [comp_ret hc]
  exact AWp.ret h
theorem AWpA.cond {o : Opd} {y z : ACode} {t : Bool} (hc : evO x.s.t o = .val (.bool t)) (ht : t = true → AWpA P N nn y Q x) (hf : t = false → AWpA P N nn z Q x) : AWpA P N nn (.cond o y z) Q x := by
  intro c hk
  obtain ⟨co, c1, c2, rfl, rfl, h1, h2⟩ := comp_cond hk
  exact AWp.cond hc (fun e => ht e c1 h1) (fun e => hf e c2 h2)
/-- A condition, its value found first. -/
def CondP (t : Bool) (A B : Prop) : Prop := match t with
  | true => A
  | false => B
theorem CondP.tt {A B : Prop} (h : A) : CondP true A B := h
theorem CondP.ff {A B : Prop} (h : B) : CondP false A B := h
theorem CondP.ht {t : Bool} {A B : Prop} (h : t = true) (k : t = true → A) : CondP t A B := by
  have := k h
  rw [h]; exact this
theorem CondP.hf {t : Bool} {A B : Prop} (h : t = false) (k : t = false → B) : CondP t A B := by
  have := k h
  rw [h]; exact this
theorem CondP.nt {t : Bool} {A B : Prop} (h : t = false) (k : (!t) = true → A) : CondP (!t) A B := CondP.ht (by simp [h]) k
theorem CondP.nf {t : Bool} {A B : Prop} (h : t = true) (k : (!t) = false → B) : CondP (!t) A B := CondP.hf (by simp [h]) k
theorem CondP.split {t : Bool} {A B : Prop} (ht : t = true → A) (hf : t = false → B) : CondP t A B := by
  cases t with
  | true => exact ht rfl
  | false => exact hf rfl
theorem AWpA.condv {o : Opd} {y z : ACode} {t : Bool} (hc : evO x.s.t o = .val (.bool t)) (h : CondP t (AWpA P N nn y Q x) (AWpA P N nn z Q x)) : AWpA P N nn (.cond o y z) Q x := by
  refine AWpA.cond hc (fun e => ?_) (fun e => ?_)
  · rw [e] at h; exact h
  · rw [e] at h; exact h
theorem AWpA.mono {ac : ACode} {Q' : Exit → St → Prop} (h : AWpA P N nn ac Q x) (hq : ∀ e x, Q e x → Q' e x) : AWpA P N nn ac Q' x :=
  fun c hc => AWp.mono (h c hc) hq
def keepS (live : List Nat) (dd : Bool) (x : St) : St := ⟨⟨fT (live.map fun k => (k, x.s.t k)) none0, x.s.h⟩, x.n⟩
theorem keepS_t (live : List Nat) (f : Nat → AV) : ∀ j, fT (live.map fun k => (k, f k)) none0 j = .any ∨ fT (live.map fun k => (k, f k)) none0 j = f j := by
  induction live with
  | nil => exact fun j => .inl rfl
  | cons k ks ih =>
    intro j
    simp only [List.map_cons, fT]
    cases h : Nat.beq k j with
    | true => have := Nat.eq_of_beq_eq_true h; subst this; exact .inr rfl
    | false => exact ih j
theorem keepS_ok (live : List Nat) (dd : Bool) {C : Ctx} {B : BM} {a : Act} {w : World} (hs : Sms C N B x a w) : Sms C N B (keepS live dd x) a w :=
  hs.forget (keepS_t live x.s.t) (fun i => .inr rfl) (Nat.le_refl _)
theorem restr_fH {hb : Nat → AObj} : ∀ {H : List (Nat × AObj)} {X : List Nat} (j : Nat), hasB X j = false → fH (restr X H) hb j = fH H hb j
  | [], X, j, _ => rfl
  | p :: l, X, j, hx => by
    simp only [restr]
    cases hp : hasB X p.1 with
    | true =>
      simp only [fH]
      cases e : Nat.beq p.1 j with
      | true => have := Nat.eq_of_beq_eq_true e; rw [this, hx] at hp; cases hp
      | false => exact restr_fH j hx
    | false =>
      simp only [fH]
      cases e : Nat.beq p.1 j with
      | true => rfl
      | false => exact restr_fH j (by simp only [hasB, e, hx, cond_false])
theorem keepS_mk0 (live : List Nat) (T : List (Nat × AV)) (b : Nat → AV) (H : List (Nat × AObj)) (hb : Nat → AObj) (n : Nat) : keepS live false (mk T b H hb n) = mk (keepT b T live) none0 H hb n := by
  have : ∀ l : List Nat, (l.map fun k => (k, fT T b k)) = keepT b T l := fun l => by
    induction l with
    | nil => rfl
    | cons k ks ih => simp only [List.map_cons, keepT, ih]
  unfold keepS Am.mk
  simp only [this]
theorem keepS_mk1 (live : List Nat) (T : List (Nat × AV)) (b : Nat → AV) (H : List (Nat × AObj)) (hb : Nat → AObj) (n : Nat) : keepS live true (mk T b H hb n) = mk (keepT b T live) none0 (restr [] H) hb n := by
  have h1 : keepS live true (mk T b H hb n) = keepS live false (mk T b H hb n) := rfl
  rw [h1, keepS_mk0]
  have : fH (restr [] H) hb = fH H hb := by funext j; exact restr_fH j rfl
  unfold Am.mk
  rw [this]
theorem AWpA.region {ops : List AOper} {F : List (Nat × Nat)} {live : List Nat} {dd : Bool} {wr : List Nat} {T : List (Nat × AV)} {b : Nat → AV} {H : List (Nat × AObj)} {hb : Nat → AObj} {n : Nat} {r : Prop × List (Nat × AV) × List (Nat × AObj) × Stop}
    (hr : runL ⟨false, n, [], [], []⟩ b hb (numberA 0 ops) T H True = r)
    (h : Runs P ⟨false, n, [], [], []⟩ b hb (fun x => Q .normal (keepS live dd x)) (n + 16 * ops.length) r) : AWpA P N nn (.region false ops F live dd wr) Q (mk T b H hb n) := by
  intro c hc
  obtain ⟨id, ops', rfl, h1, _⟩ := comp_region hc
  refine AWp.forgetPost (f := keepS live dd) (fun C B x a w => keepS_ok live dd) ?_
  exact AWp.regionL h1 hr h
def wrX (T : List (Nat × AV)) (b : Nat → AV) : List Nat → List Nat
  | [] => []
  | k :: l => idOf (fT T b k) ++ wrX T b l
theorem AWpA.draw {ops : List AOper} {F : List (Nat × Nat)} {live : List Nat} {dd : Bool} {wr : List Nat} {T : List (Nat × AV)} {b : Nat → AV} {H : List (Nat × AObj)} {hb : Nat → AObj} {n : Nat} {R : List (Nat × AObj)} {r : Prop × List (Nat × AV) × List (Nat × AObj) × Stop} (X : List Nat)
    (hm : P.follows .mixedOrders = true) (hRe : restr (X ++ wrX T b wr) H = R) (hl : ltR n R)
    (hr : runL ⟨true, n, R, [], F⟩ b hb (numberA 0 ops) T H True = r)
    (h : Runs P ⟨true, n, R, [], F⟩ b hb (fun x => Q .normal (keepS live dd x)) (n + 16 * ops.length) r) : AWpA P N nn (.region true ops F live dd wr) Q (mk T b H hb n) := by
  intro c hc
  obtain ⟨id, ops', rfl, h1, h2⟩ := comp_region hc
  refine AWp.forgetPost (f := keepS live dd) (fun C B x a w => keepS_ok live dd) ?_
  exact AWp.drawX (X ++ wrX T b wr) [] F hm h1 (h2 rfl) hRe hl hr h
theorem AWpA.loopL {α : Type} {ac : ACode} {T : List (Nat × AV)} {b : Nat → AV} {H : List (Nat × AObj)} {hb : Nat → AObj} {n : Nat} (T0 : α → List (Nat × AV)) (H0 : α → List AObj) (μ : α → Nat) (P0 : α → Prop) (a0 : α) (ρ : List Nat) (h0 : P0 a0) (h : sameT ρ T b (T0 a0) ∧ sameR ρ H hb ρ (H0 a0) ∧ aloneB ρ (H0 a0) = true ∧ (H0 a0).length = ρ.length ∧ ancB ρ nn.n = true)
    (round : ∀ a, P0 a → AWpA P N nn ac (AThen (Back nn T0 H0 μ P0 a) Q) (mk (T0 a) none0 (zipI 0 (H0 a)) gone0 (H0 a).length)) : AWpA P N nn (.loop ac) Q (mk T b H hb n) := by
  intro c hc
  obtain ⟨c1, rfl, h1⟩ := comp_loop hc
  exact AWp.loopL T0 H0 μ P0 a0 ρ h0 h fun a ha => round a ha c1 h1
theorem AWpA.once {ac : ACode} (h : AWpA P N nn ac (AThen (fun _ => False) Q) x) : AWpA P N nn (.loop ac) Q x := by
  intro c hc
  obtain ⟨c1, rfl, h1⟩ := comp_loop hc
  exact AWp.once (h c1 h1)
/-- At most so many rounds, one by one. -/
def ARoundsA (P : Program) (N : Nat) (nn : NN) (ac : ACode) (Q : Exit → St → Prop) : Nat → St → Prop
  | 0, _ => False
  | n + 1, x => AWpA P N nn ac (AThen (ARoundsA P N nn ac Q n) Q) x
theorem ARoundsA.succ {ac : ACode} {n : Nat} (h : AWpA P N nn ac (AThen (ARoundsA P N nn ac Q n) Q) x) : ARoundsA P N nn ac Q (n + 1) x := h
theorem AWpA.rounds {ac : ACode} (n : Nat) (h : ARoundsA P N nn ac Q n x) : AWpA P N nn (.loop ac) Q x := by
  intro c hc
  obtain ⟨c1, rfl, h1⟩ := comp_loop hc
  refine AWp.rounds n ?_
  have : ∀ n x, ARoundsA P N nn ac Q n x → ARounds P N nn c1 Q n x := by
    intro n
    induction n with
    | zero => exact fun _ h => h
    | succ n ih =>
      intro x h
      refine AWp.mono (h c1 h1) ?_
      intro e y hq
      cases e with
      | normal => exact ih y hq
      | _ => exact hq
  exact this n x h
/-- Where ways meet again: what holds there. -/
def Into {α : Type} (nn : NN) (T0 : α → List (Nat × AV)) (H0 : α → List AObj) (P0 : α → Prop) (x : St) : Prop :=
  ∃ a, P0 a ∧ ∃ ρ, Emb nn ρ (head (T0 a) (H0 a)) x
theorem Into.to {α : Type} {T0 : α → List (Nat × AV)} {H0 : α → List AObj} {P0 : α → Prop} {T : List (Nat × AV)} {b : Nat → AV} {H : List (Nat × AObj)} {hb : Nat → AObj} {n : Nat} (a : α) (ρ : List Nat) (hP : P0 a) (h : sameT ρ T b (T0 a) ∧ sameR ρ H hb ρ (H0 a) ∧ aloneB ρ (H0 a) = true ∧ (H0 a).length = ρ.length ∧ ancB ρ nn.n = true) : Into nn T0 H0 P0 (Am.mk T b H hb n) :=
  ⟨a, hP, ρ, Emb.list h.1 h.2.1 h.2.2.1 h.2.2.2.1 h.2.2.2.2⟩
theorem AWpA.cut {α : Type} {a b : ACode} (T0 : α → List (Nat × AV)) (H0 : α → List AObj) (P0 : α → Prop) (h : AWpA P N nn a (AThen (Into nn T0 H0 P0) Q) x)
    (k : ∀ a, P0 a → AWpA P N nn b Q (mk (T0 a) none0 (zipI 0 (H0 a)) gone0 (H0 a).length)) : AWpA P N nn (.seq a b) Q x := by
  refine AWpA.seq (h.mono ?_)
  intro e y hq
  cases e with
  | normal =>
    obtain ⟨a, hP, ρ, he⟩ := hq
    exact fun c hc => AWp.weaken he (k a hP c hc)
  | _ => exact hq
theorem ACall.startA {g : FuncId} {fn : Func} {c : Code} {ac : ACode} {args : List AV} {H : List AObj} {R : AV → List AObj → Prop} {rs : List (Nat × Option (Bool × Nat))} {N nn : Nat} {H1 : List (Nat × AObj)} (hc : compC P N c = some (strip ac)) (hf : P.funcs[g]? = some fn) (hb : fn.body = some c) (hN0 : fn.ntmps = N) (hen : entersB P g = true)
    (hrs : fn.results.toList.mapM (resC P) = some rs) (hN : Nat.ble args.length N = true) (hnn : H.length = nn) (hz : zipI 0 H = H1)
    (h : AWpA P N (NN.plain nn) ac (RetPost (NN.plain nn) rs H R) (mk [] (args0 args) H1 gone0 nn)) : ACall P g args H R :=
  ACall.start hf hb hN0 hen hrs hN hnn hz (h c hc)
end
theorem keepT_nil (b : Nat → AV) (T : List (Nat × AV)) : keepT b T [] = [] := rfl
theorem keepT_cons (b : Nat → AV) (T : List (Nat × AV)) (k : Nat) (ks : List Nat) : keepT b T (k :: ks) = (k, fT T b k) :: keepT b T ks := rfl
attribute [go_sem] keepS_mk0 keepS_mk1 keepT_nil keepT_cons numberA wrX
attribute [irreducible] AWpA
end Go.Am
