/- Own theory, no program in sight: code compiled once, piece by piece. -/
import Derived.Test.YteggjhihpjjloaaAm19
namespace Go.Am
set_option linter.unusedSimpArgs false
set_option linter.unusedVariables false
set_option maxHeartbeats 4000000
open Go Go.RowKit
set_option linter.unusedVariables false
set_option linter.unusedSimpArgs false

/-- Compiled code. 'live': the slots that are kept behind a region (what stands there is nobody's promise: less is told, never more); 'dd': are objects written; 'wr': slots whose blocks are written beside reads; 'tl': what goes as the text does behind all that draws. -/
inductive ACode where
  | skip
  | region (draw : Bool) (ops : List AOper) (E : List Nat) (F : List (Nat × Nat)) (live : List Nat) (dd : Bool) (wr : List Nat) (tl : List AOper)
  | seq (a b : ACode)
  | cond (c : Opd) (a b : ACode)
  | block (id : Nat) (c : ACode)
  | loop (c : ACode)
  | exit (id : Nat)
  | ret
  deriving Inhabited
def strip : ACode → ACode
  | .skip => .skip
  | .region d ops E F _ _ _ tl => .region d ops E F [] false [] tl
  | .seq a b => .seq (strip a) (strip b)
  | .cond c a b => .cond c (strip a) (strip b)
  | .block id c => .block id (strip c)
  | .loop c => .loop (strip c)
  | .exit id => .exit id
  | .ret => .ret
/-- The operation of the region that fills a slot; where an address comes from. -/
def defOf : List AOper → Nat → Option AOper
  | [], _ => none
  | o :: l, k => match o.dst with
    | some d => cond (Nat.beq d k) (some o) (defOf l k)
    | none => defOf l k
def isVia : AOp → Bool
  | .addr _ => true
  | .nilChk => true
  | .move => true
  | .ixS _ => true
  | .ixA _ _ => true
  | .slS .. => true
  | .slA .. => true
  | _ => false
def baseOf (aops : List AOper) : Nat → Nat → Option Nat
  | 0, _ => none
  | n + 1, k => match defOf aops k with
    | none => some k
    | some o => match isVia o.op, o.xs with
      | true, .t j :: _ => baseOf aops n j
      | _, _ => none
def firstBase (aops : List AOper) (o : AOper) : Option Nat :=
  match o.xs with
  | .t j :: _ => baseOf aops 64 j
  | _ => none
def isWr : AOp → Bool
  | .store _ => true
  | .append .. => true
  | .copy _ => true
  | .mapUpd _ => true
  | .delete _ => true
  | _ => false
def isLd : AOp → Bool
  | .load .. => true
  | .toStr => true
  | .lookup .. => true
  | .lenM => true
  | _ => false
/-- As baseOf, through pointers that are loaded. -/
def baseOf2 (aops : List AOper) : Nat → Nat → Option Nat
  | 0, _ => none
  | n + 1, k => match defOf aops k with
    | none => some k
    | some o => match isVia o.op, o.op, o.xs with
      | true, _, .t j :: _ => baseOf2 aops n j
      | false, .load _ _, .t j :: _ => (baseOf2 aops n j).map (· + 1000)
      | _, _, _ => none
def firstBase2 (aops : List AOper) (o : AOper) : Option Nat :=
  match o.xs with
  | .t j :: _ => baseOf2 aops 64 j
  | _ => none
def freeF (ops : Array Oper) (aops : List AOper) (E : List Nat) (ms : List Nat) : List (Nat × Nat) :=
  let l := numberA 0 aops
  l.flatMap fun p => match isEff p.2.op || hasB E p.1 with
    | false => []
    | true => l.filterMap fun q => match isFresh q.2.op && !((ms.getD q.1 0).testBit p.1) && !((ms.getD p.1 0).testBit q.1) with
      | true => some (p.1, q.1)
      | false => none
def lateOf (ms : List Nat) (l : List (Nat × AOper)) : Nat → Nat → Nat
  | 0, k => k
  | n + 1, k => cond (lateB (k - 1) ms l) (lateOf ms l n (k - 1)) k
open Go.Proofs.Yteggjhihpjjloaa in
def tryR (ops : Array Oper) (aops : List AOper) (k : Nat) (E : List Nat) (F : List (Nat × Nat)) : Option ACode :=
  match orderB ops aops k E F with
  | true => some (.region true (aops.take k) E F [] false [] (aops.drop k))
  | false => none
def orElseA : Option ACode → Option ACode → Option ACode
  | some x, _ => some x
  | none, y => y
/-- Where the addresses come from that a call is handed. -/
def argBases (aops : List AOper) : List Opd → List Nat
  | .t j :: l => (baseOf2 aops 64 j).toList ++ argBases aops l
  | _ :: l => argBases aops l
  | [] => []
/-- Reads of blocks that the region writes: taken as effects. -/
def needE (base : List AOper → AOper → Option Nat) (calls : Bool) (aops : List AOper) : List Nat :=
  let wr := aops.flatMap fun o => match isWr o.op with
    | true => (base aops o).toList
    | false => match calls, o.op with
      | true, .call _ => argBases aops o.xs
      | _, _ => []
  (numberA 0 aops).filterMap fun p => match isLd p.2.op, base aops p.2 with
    | true, some k => cond (hasB wr k) (some p.1) none
    | _, _ => none
def tryS (ops : Array Oper) (aops : List AOper) (ms : List Nat) (k : Nat) (ne : List AOper → List Nat) : Option ACode :=
  orElseA (tryR ops aops aops.length (ne aops) (freeF ops aops (ne aops) ms)) (tryR ops aops k (ne (aops.take k)) (freeF ops (aops.take k) (ne (aops.take k)) ms))
open Go.Proofs.Yteggjhihpjjloaa in
def compR (ops : Array Oper) (aops : List AOper) (d : Bool) : Option ACode :=
  match d with
  | false => some (.region false aops [] [] [] false [] [])
  | true => let ms := Seq.masks .any ops.toList []
    let k := lateOf ms (numberA 0 aops) aops.length aops.length
    orElseA (orElseA (tryS ops aops ms k (needE firstBase2 true)) (tryS ops aops ms k (needE firstBase2 false))) (tryS ops aops ms k (needE firstBase false))
def compC (P : Program) (N : Nat) : Code → Option ACode
  | .skip => some .skip
  | .label _ => some .skip
  | .region _ ops d => match compOps P N ops with
    | some aops => compR ops aops d
    | none => none
  | .seq a b => match compC P N a, compC P N b with
    | some x, some y => some (.seq x y)
    | _, _ => none
  | .cond c a b => match compC P N a, compC P N b with
    | some x, some y => some (.cond (opd c) x y)
    | _, _ => none
  | .block id c => match compC P N c with
    | some x => some (.block id x)
    | none => none
  | .loop c => match compC P N c with
    | some x => some (.loop x)
    | none => none
  | .exit id => some (.exit id)
  | .ret => some .ret
  | _ => none
theorem tryR_inv {ops : Array Oper} {aops : List AOper} {k : Nat} {E : List Nat} {F : List (Nat × Nat)} {c : ACode} (h : tryR ops aops k E F = some c) : c = .region true (aops.take k) E F [] false [] (aops.drop k) ∧ orderB ops aops k E F = true := by
  unfold tryR at h
  split at h
  · rename_i h1; cases h; exact ⟨rfl, h1⟩
  · cases h
theorem orElseA_inv {a b : Option ACode} {c : ACode} (h : orElseA a b = some c) : a = some c ∨ b = some c := by
  unfold orElseA at h
  split at h
  · exact .inl h
  · exact .inr h
theorem orderB_len {ops : Array Oper} {aops : List AOper} {k : Nat} {E : List Nat} {F : List (Nat × Nat)} (h : orderB ops aops k E F = true) : orderB ops (aops.take k ++ aops.drop k) k E F = true := by
  rw [List.take_append_drop]; exact h
theorem lateOf_le (ms : List Nat) (l : List (Nat × AOper)) : ∀ (n k : Nat), lateOf ms l n k ≤ k
  | 0, k => Nat.le_refl _
  | n + 1, k => by
    simp only [lateOf]
    cases lateB (k - 1) ms l with
    | true => exact Nat.le_trans (lateOf_le ms l n (k - 1)) (Nat.sub_le _ _)
    | false => exact Nat.le_refl _
theorem tryS_any {ops : Array Oper} {aops : List AOper} {ms : List Nat} {k0 : Nat} {ne : List AOper → List Nat} {c : ACode} (hk : k0 ≤ aops.length) (h : tryS ops aops ms k0 ne = some c) : ∃ k E F, k ≤ aops.length ∧ c = .region true (aops.take k) E F [] false [] (aops.drop k) ∧ orderB ops aops k E F = true := by
  rcases orElseA_inv h with h | h
  · exact ⟨_, _, _, Nat.le_refl _, (tryR_inv h).1, (tryR_inv h).2⟩
  · exact ⟨_, _, _, hk, (tryR_inv h).1, (tryR_inv h).2⟩
theorem compR_any {ops : Array Oper} {aops : List AOper} {c : ACode} (h : compR ops aops true = some c) : ∃ k E F, k ≤ aops.length ∧ c = .region true (aops.take k) E F [] false [] (aops.drop k) ∧ orderB ops aops k E F = true := by
  simp only [compR] at h
  rcases orElseA_inv h with h | h
  · rcases orElseA_inv h with h | h
    · exact tryS_any (lateOf_le _ _ _ _) h
    · exact tryS_any (lateOf_le _ _ _ _) h
  · exact tryS_any (lateOf_le _ _ _ _) h
theorem compR_inv {ops : Array Oper} {aops : List AOper} {d d' : Bool} {l tl : List AOper} {E : List Nat} {F : List (Nat × Nat)} {lv : List Nat} {dd : Bool} {wr : List Nat} (h : compR ops aops d = some (.region d' l E F lv dd wr tl)) : aops = l ++ tl ∧ d' = d ∧ (d = false → tl = []) ∧ (d = true → orderB ops (l ++ tl) l.length E F = true) := by
  cases d with
  | false => simp [compR] at h; obtain ⟨rfl, rfl, _, _, _, _, _, rfl⟩ := h; exact ⟨by simp, rfl, fun _ => rfl, fun h => Bool.noConfusion h⟩
  | true =>
    obtain ⟨k, E', F', hk, h1, h2⟩ := compR_any h
    simp only [ACode.region.injEq] at h1
    obtain ⟨rfl, rfl, rfl, rfl, _, _, _, rfl⟩ := h1
    refine ⟨by simp, rfl, fun h => Bool.noConfusion h, fun _ => ?_⟩
    rw [List.take_append_drop, List.length_take, Nat.min_eq_left hk]
    exact h2
theorem compR_region {ops : Array Oper} {aops : List AOper} {d : Bool} {c : ACode} (h : compR ops aops d = some c) : ∃ l E F tl, c = .region d l E F [] false [] tl := by
  cases d with
  | false => simp [compR] at h; exact ⟨_, _, _, _, h.symm⟩
  | true =>
    obtain ⟨k, E', F', hk, h1, h2⟩ := compR_any h
    exact ⟨_, _, _, _, h1⟩

section
variable {P : Program} {N : Nat} {nn : NN} {Q : Exit → St → Prop} {x : St}
/-- Compiled code, run in an abstract state, comes to an end that is Q. -/
def AWpA (P : Program) (N : Nat) (nn : NN) (ac : ACode) (Q : Exit → St → Prop) (x : St) : Prop :=
  ∀ c, compC P N c = some (strip ac) → AWp P N nn c Q x
theorem comp_seq {c : Code} {a b : ACode} (h : compC P N c = some (.seq a b)) : ∃ c1 c2, c = .seq c1 c2 ∧ compC P N c1 = some a ∧ compC P N c2 = some b := by
  cases c <;> simp only [compC] at h
  case seq c1 c2 =>
    split at h
    · rename_i x y h1 h2; simp at h; obtain ⟨rfl, rfl⟩ := h; exact ⟨c1, c2, rfl, h1, h2⟩
    · cases h
  case region id ops d =>
    split at h
    · obtain ⟨_, _, _, _, e⟩ := compR_region h; cases e
    · cases h
  all_goals (first | (split at h <;> simp at h) | simp at h)
theorem comp_cond {c : Code} {o : Opd} {a b : ACode} (h : compC P N c = some (.cond o a b)) : ∃ co c1 c2, c = .cond co c1 c2 ∧ opd co = o ∧ compC P N c1 = some a ∧ compC P N c2 = some b := by
  cases c <;> simp only [compC] at h
  case cond co c1 c2 =>
    split at h
    · rename_i x y h1 h2; simp at h; obtain ⟨rfl, rfl, rfl⟩ := h; exact ⟨co, c1, c2, rfl, rfl, h1, h2⟩
    · cases h
  case region id ops d =>
    split at h
    · obtain ⟨_, _, _, _, e⟩ := compR_region h; cases e
    · cases h
  all_goals (first | (split at h <;> simp at h) | simp at h)
theorem comp_block {c : Code} {id : Nat} {a : ACode} (h : compC P N c = some (.block id a)) : ∃ c1, c = .block id c1 ∧ compC P N c1 = some a := by
  cases c <;> simp only [compC] at h
  case block id' c1 =>
    split at h
    · rename_i x h1; simp at h; obtain ⟨rfl, rfl⟩ := h; exact ⟨c1, rfl, h1⟩
    · cases h
  case region id ops d =>
    split at h
    · obtain ⟨_, _, _, _, e⟩ := compR_region h; cases e
    · cases h
  all_goals (first | (split at h <;> simp at h) | simp at h)
theorem comp_loop {c : Code} {a : ACode} (h : compC P N c = some (.loop a)) : ∃ c1, c = .loop c1 ∧ compC P N c1 = some a := by
  cases c <;> simp only [compC] at h
  case loop c1 =>
    split at h
    · rename_i x h1; simp at h; obtain rfl := h; exact ⟨c1, rfl, h1⟩
    · cases h
  case region id ops d =>
    split at h
    · obtain ⟨_, _, _, _, e⟩ := compR_region h; cases e
    · cases h
  all_goals (first | (split at h <;> simp at h) | simp at h)
theorem comp_exit {c : Code} {id : Nat} (h : compC P N c = some (.exit id)) : c = .exit id := by
  cases c <;> simp only [compC] at h
  case exit id' => simp at h; rw [h]
  case region id ops d =>
    split at h
    · obtain ⟨_, _, _, _, e⟩ := compR_region h; cases e
    · cases h
  all_goals (first | (split at h <;> simp at h) | simp at h)
theorem comp_ret {c : Code} (h : compC P N c = some .ret) : c = .ret := by
  cases c <;> simp only [compC] at h
  case ret => rfl
  case region id ops d =>
    split at h
    · obtain ⟨_, _, _, _, e⟩ := compR_region h; cases e
    · cases h
  all_goals (first | (split at h <;> simp at h) | simp at h)
theorem comp_skip {c : Code} (h : compC P N c = some .skip) : c = .skip ∨ ∃ l, c = .label l := by
  cases c <;> simp only [compC] at h
  case skip => exact .inl rfl
  case label l => exact .inr ⟨l, rfl⟩
  case region id ops d =>
    split at h
    · obtain ⟨_, _, _, _, e⟩ := compR_region h; cases e
    · cases h
  all_goals (first | (split at h <;> simp at h) | simp at h)
theorem comp_region {c : Code} {d : Bool} {l tl : List AOper} {E : List Nat} {F : List (Nat × Nat)} {lv : List Nat} {dd : Bool} {wr : List Nat} (h : compC P N c = some (.region d l E F lv dd wr tl)) : ∃ id ops, c = .region id ops d ∧ compOps P N ops = some (l ++ tl) ∧ (d = false → tl = []) ∧ (d = true → orderB ops (l ++ tl) l.length E F = true) := by
  cases c <;> simp only [compC] at h
  case region id ops d' =>
    split at h
    · rename_i aops h1
      obtain ⟨rfl, rfl, h2, h3⟩ := compR_inv h
      exact ⟨id, ops, rfl, h1, h2, h3⟩
    · cases h
  all_goals (first | (split at h <;> simp at h) | simp at h)

theorem AWpA.seq {a b : ACode} (h : AWpA P N nn a (AThen (fun x => AWpA P N nn b Q x) Q) x) : AWpA P N nn (.seq a b) Q x := by
  intro c hc
  obtain ⟨c1, c2, rfl, h1, h2⟩ := comp_seq hc
  refine AWp.seq (AWp.mono (h c1 h1) ?_)
  intro e y hq
  cases e with
  | normal => exact hq c2 h2
  | _ => exact hq
theorem AWpA.block {id : Nat} {a : ACode} (h : AWpA P N nn a (ABlock id Q) x) : AWpA P N nn (.block id a) Q x := by
  intro c hc
  obtain ⟨c1, rfl, h1⟩ := comp_block hc
  exact AWp.block (h c1 h1)
theorem AWpA.skip (h : Q .normal x) : AWpA P N nn .skip Q x := by
  intro c hc
  rcases comp_skip hc with rfl | ⟨l, rfl⟩
  · exact AWp.skip h
  · exact AWp.label h
theorem AWpA.exit {id : Nat} (h : Q (.exit id) x) : AWpA P N nn (.exit id) Q x := by
  intro c hc
  rw [comp_exit hc]
  exact AWp.exit h
theorem AWpA.ret (h : Q .ret x) : AWpA P N nn .ret Q x := by
  intro c hc
  rw [comp_ret hc]
  exact AWp.ret h
theorem AWpA.cond {o : Opd} {y z : ACode} {t : Bool} (hc : evO x.s.t o = .val (.bool t)) (ht : t = true → AWpA P N nn y Q x) (hf : t = false → AWpA P N nn z Q x) : AWpA P N nn (.cond o y z) Q x := by
  intro c hk
  obtain ⟨co, c1, c2, rfl, rfl, h1, h2⟩ := comp_cond hk
  exact AWp.cond hc (fun e => ht e c1 h1) (fun e => hf e c2 h2)
/-- A condition, its value found first. -/
def CondP (t : Bool) (A B : Prop) : Prop := match t with
  | true => A
  | false => B
theorem CondP.tt {A B : Prop} (h : A) : CondP true A B := h
theorem CondP.ff {A B : Prop} (h : B) : CondP false A B := h
theorem CondP.ht {t : Bool} {A B : Prop} (h : t = true) (k : t = true → A) : CondP t A B := by
  have := k h
  rw [h]; exact this
theorem CondP.hf {t : Bool} {A B : Prop} (h : t = false) (k : t = false → B) : CondP t A B := by
  have := k h
  rw [h]; exact this
theorem CondP.nt {t : Bool} {A B : Prop} (h : t = false) (k : (!t) = true → A) : CondP (!t) A B := CondP.ht (by simp [h]) k
theorem CondP.nf {t : Bool} {A B : Prop} (h : t = true) (k : (!t) = false → B) : CondP (!t) A B := CondP.hf (by simp [h]) k
theorem CondP.split {t : Bool} {A B : Prop} (ht : t = true → A) (hf : t = false → B) : CondP t A B := by
  cases t with
  | true => exact ht rfl
  | false => exact hf rfl
theorem AWpA.condv {o : Opd} {y z : ACode} {t : Bool} (hc : evO x.s.t o = .val (.bool t)) (h : CondP t (AWpA P N nn y Q x) (AWpA P N nn z Q x)) : AWpA P N nn (.cond o y z) Q x := by
  refine AWpA.cond hc (fun e => ?_) (fun e => ?_)
  · rw [e] at h; exact h
  · rw [e] at h; exact h
theorem AWpA.mono {ac : ACode} {Q' : Exit → St → Prop} (h : AWpA P N nn ac Q x) (hq : ∀ e x, Q e x → Q' e x) : AWpA P N nn ac Q' x :=
  fun c hc => AWp.mono (h c hc) hq
def keepS (live : List Nat) (dd : Bool) (x : St) : St := ⟨⟨fT (live.map fun k => (k, x.s.t k)) none0, x.s.h⟩, x.n⟩
theorem keepS_t (live : List Nat) (f : Nat → AV) : ∀ j, fT (live.map fun k => (k, f k)) none0 j = .any ∨ fT (live.map fun k => (k, f k)) none0 j = f j := by
  induction live with
  | nil => exact fun j => .inl rfl
  | cons k ks ih =>
    intro j
    simp only [List.map_cons, fT]
    cases h : Nat.beq k j with
    | true => have := Nat.eq_of_beq_eq_true h; subst this; exact .inr rfl
    | false => exact ih j
theorem keepS_ok (live : List Nat) (dd : Bool) {C : Ctx} {B : BM} {a : Act} {w : World} (hs : Sms C N B x a w) : Sms C N B (keepS live dd x) a w :=
  hs.forget (keepS_t live x.s.t) (fun i => .inr rfl) (Nat.le_refl _)
theorem restr_fH {hb : Nat → AObj} : ∀ {H : List (Nat × AObj)} {X : List Nat} (j : Nat), hasB X j = false → fH (restr X H) hb j = fH H hb j
  | [], X, j, _ => rfl
  | p :: l, X, j, hx => by
    simp only [restr]
    cases hp : hasB X p.1 with
    | true =>
      simp only [fH]
      cases e : Nat.beq p.1 j with
      | true => have := Nat.eq_of_beq_eq_true e; rw [this, hx] at hp; cases hp
      | false => exact restr_fH j hx
    | false =>
      simp only [fH]
      cases e : Nat.beq p.1 j with
      | true => rfl
      | false => exact restr_fH j (by simp only [hasB, e, hx, cond_false])
theorem keepS_mk0 (live : List Nat) (T : List (Nat × AV)) (b : Nat → AV) (H : List (Nat × AObj)) (hb : Nat → AObj) (n : Nat) : keepS live false (mk T b H hb n) = mk (keepT b T live) none0 H hb n := by
  have : ∀ l : List Nat, (l.map fun k => (k, fT T b k)) = keepT b T l := fun l => by
    induction l with
    | nil => rfl
    | cons k ks ih => simp only [List.map_cons, keepT, ih]
  unfold keepS Am.mk
  simp only [this]
theorem keepS_mk1 (live : List Nat) (T : List (Nat × AV)) (b : Nat → AV) (H : List (Nat × AObj)) (hb : Nat → AObj) (n : Nat) : keepS live true (mk T b H hb n) = mk (keepT b T live) none0 (restr [] H) hb n := by
  have h1 : keepS live true (mk T b H hb n) = keepS live false (mk T b H hb n) := rfl
  rw [h1, keepS_mk0]
  have : fH (restr [] H) hb = fH H hb := by funext j; exact restr_fH j rfl
  unfold Am.mk
  rw [this]
theorem AWpA.region {ops : List AOper} {E : List Nat} {F : List (Nat × Nat)} {live : List Nat} {dd : Bool} {wr : List Nat} {T : List (Nat × AV)} {b : Nat → AV} {H : List (Nat × AObj)} {hb : Nat → AObj} {n : Nat} {r : Prop × List (Nat × AV) × List (Nat × AObj) × Stop}
    (hr : runL ⟨false, n, [], [], []⟩ b hb (numberA 0 ops) T H True = r)
    (h : Runs P ⟨false, n, [], [], []⟩ b hb (fun x => Q .normal (keepS live dd x)) (n + 16 * ops.length) r) : AWpA P N nn (.region false ops E F live dd wr []) Q (mk T b H hb n) := by
  intro c hc
  obtain ⟨id, ops', rfl, h1, _⟩ := comp_region hc
  rw [List.append_nil] at h1
  refine AWp.forgetPost (f := keepS live dd) (fun C B x a w => keepS_ok live dd) ?_
  exact AWp.regionL h1 hr h
def wrX (T : List (Nat × AV)) (b : Nat → AV) : List Nat → List Nat
  | [] => []
  | k :: l => idOf (fT T b k) ++ wrX T b l
theorem AWpA.draw {ops tl : List AOper} {E : List Nat} {F : List (Nat × Nat)} {live : List Nat} {dd : Bool} {wr : List Nat} {T : List (Nat × AV)} {b : Nat → AV} {H : List (Nat × AObj)} {hb : Nat → AObj} {n : Nat} {R : List (Nat × AObj)} {r : Prop × List (Nat × AV) × List (Nat × AObj) × Stop} (X : List Nat)
    (hm : P.follows .mixedOrders = true) (hRe : restr (X ++ wrX T b wr) H = R) (hl : ltR n R)
    (hr : runL ⟨true, n, R, E, F⟩ b hb (numberA 0 ops) T H True = r)
    (h : Runs P ⟨true, n, R, E, F⟩ b hb (TailK P n ops.length tl fun x => Q .normal (keepS live dd x)) (n + 16 * (ops.length + tl.length)) r) : AWpA P N nn (.region true ops E F live dd wr tl) Q (mk T b H hb n) := by
  intro c hc
  obtain ⟨id, ops', rfl, h1, _, h2⟩ := comp_region hc
  refine AWp.forgetPost (f := keepS live dd) (fun C B x a w => keepS_ok live dd) ?_
  exact AWp.drawX (X ++ wrX T b wr) E F hm h1 (h2 rfl) hRe hl hr h
theorem AWpA.loopL {α : Type} {ac : ACode} {T : List (Nat × AV)} {b : Nat → AV} {H : List (Nat × AObj)} {hb : Nat → AObj} {n : Nat} (T0 : α → List (Nat × AV)) (H0 : α → List AObj) (μ : α → Nat) (P0 : α → Prop) (a0 : α) (ρ : List Nat) (h0 : P0 a0) (h : sameT ρ T b (T0 a0) ∧ sameR ρ H hb ρ (H0 a0) ∧ aloneB ρ (H0 a0) = true ∧ (H0 a0).length = ρ.length ∧ ancB ρ nn.n = true)
    (round : ∀ a, P0 a → AWpA P N nn ac (AThen (Back nn T0 H0 μ P0 a) Q) (mk (T0 a) none0 (zipI 0 (H0 a)) gone0 (H0 a).length)) : AWpA P N nn (.loop ac) Q (mk T b H hb n) := by
  intro c hc
  obtain ⟨c1, rfl, h1⟩ := comp_loop hc
  exact AWp.loopL T0 H0 μ P0 a0 ρ h0 h fun a ha => round a ha c1 h1
theorem AWpA.once {ac : ACode} (h : AWpA P N nn ac (AThen (fun _ => False) Q) x) : AWpA P N nn (.loop ac) Q x := by
  intro c hc
  obtain ⟨c1, rfl, h1⟩ := comp_loop hc
  exact AWp.once (h c1 h1)
/-- At most so many rounds, one by one. -/
def ARoundsA (P : Program) (N : Nat) (nn : NN) (ac : ACode) (Q : Exit → St → Prop) : Nat → St → Prop
  | 0, _ => False
  | n + 1, x => AWpA P N nn ac (AThen (ARoundsA P N nn ac Q n) Q) x
theorem ARoundsA.succ {ac : ACode} {n : Nat} (h : AWpA P N nn ac (AThen (ARoundsA P N nn ac Q n) Q) x) : ARoundsA P N nn ac Q (n + 1) x := h
theorem AWpA.rounds {ac : ACode} (n : Nat) (h : ARoundsA P N nn ac Q n x) : AWpA P N nn (.loop ac) Q x := by
  intro c hc
  obtain ⟨c1, rfl, h1⟩ := comp_loop hc
  refine AWp.rounds n ?_
  have : ∀ n x, ARoundsA P N nn ac Q n x → ARounds P N nn c1 Q n x := by
    intro n
    induction n with
    | zero => exact fun _ h => h
    | succ n ih =>
      intro x h
      refine AWp.mono (h c1 h1) ?_
      intro e y hq
      cases e with
      | normal => exact ih y hq
      | _ => exact hq
  exact this n x h
/-- Where ways meet again: what holds there. -/
def Into {α : Type} (nn : NN) (T0 : α → List (Nat × AV)) (H0 : α → List AObj) (P0 : α → Prop) (x : St) : Prop :=
  ∃ a, P0 a ∧ ∃ ρ, Emb nn ρ (head (T0 a) (H0 a)) x
theorem Into.to {α : Type} {T0 : α → List (Nat × AV)} {H0 : α → List AObj} {P0 : α → Prop} {T : List (Nat × AV)} {b : Nat → AV} {H : List (Nat × AObj)} {hb : Nat → AObj} {n : Nat} (a : α) (ρ : List Nat) (hP : P0 a) (h : sameT ρ T b (T0 a) ∧ sameR ρ H hb ρ (H0 a) ∧ aloneB ρ (H0 a) = true ∧ (H0 a).length = ρ.length ∧ ancB ρ nn.n = true) : Into nn T0 H0 P0 (Am.mk T b H hb n) :=
  ⟨a, hP, ρ, Emb.list h.1 h.2.1 h.2.2.1 h.2.2.2.1 h.2.2.2.2⟩
theorem AWpA.cut {α : Type} {a b : ACode} (T0 : α → List (Nat × AV)) (H0 : α → List AObj) (P0 : α → Prop) (h : AWpA P N nn a (AThen (Into nn T0 H0 P0) Q) x)
    (k : ∀ a, P0 a → AWpA P N nn b Q (mk (T0 a) none0 (zipI 0 (H0 a)) gone0 (H0 a).length)) : AWpA P N nn (.seq a b) Q x := by
  refine AWpA.seq (h.mono ?_)
  intro e y hq
  cases e with
  | normal =>
    obtain ⟨a, hP, ρ, he⟩ := hq
    exact fun c hc => AWp.weaken he (k a hP c hc)
  | _ => exact hq
theorem ACall.startA {g : FuncId} {fn : Func} {c : Code} {ac : ACode} {args : List AV} {H : List AObj} {R : AV → List AObj → Prop} {rs : List (Nat × Option (Bool × Nat))} {N nn : Nat} {H1 : List (Nat × AObj)} (hc : compC P N c = some (strip ac)) (hf : P.funcs[g]? = some fn) (hb : fn.body = some c) (hN0 : fn.ntmps = N) (hen : entersB P g = true)
    (hrs : fn.results.toList.mapM (resC P) = some rs) (hN : Nat.ble args.length N = true) (hnn : H.length = nn) (hz : zipI 0 H = H1)
    (h : AWpA P N (NN.plain nn) ac (RetPost (NN.plain nn) rs H R) (mk [] (args0 args) H1 gone0 nn)) : ACall P g args H R :=
  ACall.start hf hb hN0 hen hrs hN hnn hz (h c hc)
end
theorem AWpA.weakenE {P : Program} {N : Nat} {nn : NN} {Q : Exit → St → Prop} {x : St} {ac : ACode} {ρ : List Nat} {x0 : St} (e : Emb nn ρ x0 x) (h : AWpA P N nn ac Q x0) : AWpA P N nn ac Q x :=
  fun c hc => AWp.weaken e (h c hc)
theorem keepT_nil (b : Nat → AV) (T : List (Nat × AV)) : keepT b T [] = [] := rfl
theorem keepT_cons (b : Nat → AV) (T : List (Nat × AV)) (k : Nat) (ks : List Nat) : keepT b T (k :: ks) = (k, fT T b k) :: keepT b T ks := rfl
/-- An empty object that nobody has. -/
theorem AWp.dummy {P : Program} {N : Nat} {nn : NN} {Q : Exit → St → Prop} {c : Code} {T : List (Nat × AV)} {b : Nat → AV} {H : List (Nat × AObj)} {hb : Nat → AObj} {n : Nat} (h : AWp P N nn c Q (mk T b ((n, .cells false []) :: H) hb (n + 1))) : AWp P N nn c Q (mk T b H hb n) := by
  intro C B a w hn hs
  obtain ⟨⟨h1, h2, h3, h4, h5, h6, h7⟩, h8, h9⟩ := hs
  have hbn : B n = none := h8 n (Nat.le_refl _)
  have hne : ∀ i, i ≠ n → fH ((n, .cells false []) :: H) hb i = fH H hb i := fun i hi => by
    have e : Nat.beq n i = false := by
      cases e : Nat.beq n i with
      | false => rfl
      | true => exact absurd (Nat.eq_of_beq_eq_true e).symm hi
    simp only [fH, e]
  have hob : ∀ i, OR B (fH ((n, .cells false []) :: H) hb i) (B i) w := fun i => by
    by_cases hi : i = n
    · subst hi; rw [hbn]; simp only [fH, Nat.beq_refl]; exact .inl ⟨rfl, rfl⟩
    · rw [hne i hi]; exact h4.obj i
  refine h C B a w hn ⟨⟨h1, h2, h3, ⟨hob, fun i j b1 n1 m hij ho hl hbi => ?_⟩, fun i b1 n1 ho hbi => ?_, h6, h7⟩, fun k hk => h8 k (by simp only [Am.mk] at hk ⊢; omega), by simp only [Am.mk] at h9 ⊢; omega⟩
  · have hi : i ≠ n := fun e => by subst e; rw [hbn] at hbi; cases hbi
    by_cases hj : j = n
    · subst hj; rw [hbn]; simp
    · simp only [Am.mk] at ho hl
      rw [hne i hi] at ho
      rw [hne j hj] at hl
      exact h4.apart i j b1 n1 m hij ho hl hbi
  · have hi : i ≠ n := fun e => by subst e; rw [hbn] at hbi; cases hbi
    simp only [Am.mk] at ho
    rw [hne i hi] at ho
    exact h5 i b1 n1 ho hbi
/-- An empty slice: nil, or of no block that is known, or one of a block. -/
theorem AWp.nilcase {P : Program} {N : Nat} {nn : NN} {Q : Exit → St → Prop} {c : Code} {T : List (Nat × AV)} {b : Nat → AV} {H : List (Nat × AObj)} {hb : Nat → AObj} {n : Nat} (j : Nat) {i off k : Nat} (hj : fT T b j = .sl i off 0 k none)
    (h : AWp P N nn c Q (mk ((j, .val (.slice none 0 0)) :: T) b H hb n)) (h' : ∀ q, AWp P N nn c Q (mk ((j, .val (.slice (some q) 0 0)) :: T) b H hb n)) (h'' : ∀ cp, AWp P N nn c Q (mk ((j, .sl i off 0 k (some cp)) :: T) b H hb n)) : AWp P N nn c Q (mk T b H hb n) := by
  intro C B a w hn hs
  have hv := hs.sim.t j
  simp only [Am.mk] at hv
  rw [hj] at hv
  have go : ∀ x : AV, VR B x (a.tmps.getD j undef) → Sms C N B (mk ((j, x) :: T) b H hb n) a w := fun x hx => by
    obtain ⟨⟨h1, h2, h3, h4, h5, h6, h7⟩, h8, h9⟩ := hs
    refine ⟨⟨h1, h2, fun q => ?_, h4, h5, h6, h7⟩, h8, h9⟩
    simp only [Am.mk, fT]
    cases e : Nat.beq j q with
    | true => have := Nat.eq_of_beq_eq_true e; subst this; exact hx
    | false => exact h3 q
  have hv0 := hv
  simp only [VR] at hv
  rcases hv with ⟨_, _, q, hq⟩ | ⟨b1, n1, c1, o, h1, h2, h3, h4, h5, h6⟩
  · cases q with
    | none => exact h C B a w hn (go _ (by rw [vr_val]; exact hq))
    | some q => exact h' q C B a w hn (go _ (by rw [vr_val]; exact hq))
  · exact h'' c1 C B a w hn (go _ (by simp only [VR]; exact .inr ⟨b1, n1, c1, o, h1, h2, h3, h4, h5, fun m e => by cases e; rfl⟩))
theorem AWpA.dummy {P : Program} {N : Nat} {nn : NN} {Q : Exit → St → Prop} {ac : ACode} {T : List (Nat × AV)} {b : Nat → AV} {H : List (Nat × AObj)} {hb : Nat → AObj} {n : Nat} (h : AWpA P N nn ac Q (mk T b ((n, .cells false []) :: H) hb (n + 1))) : AWpA P N nn ac Q (mk T b H hb n) :=
  fun c hc => AWp.dummy (h c hc)
theorem AWpA.nilcase {P : Program} {N : Nat} {nn : NN} {Q : Exit → St → Prop} {ac : ACode} {T : List (Nat × AV)} {b : Nat → AV} {H : List (Nat × AObj)} {hb : Nat → AObj} {n : Nat} (j : Nat) {i off k : Nat} (hj : fT T b j = .sl i off 0 k none)
    (h : AWpA P N nn ac Q (mk ((j, .val (.slice none 0 0)) :: T) b H hb n)) (h' : ∀ q, AWpA P N nn ac Q (mk ((j, .val (.slice (some q) 0 0)) :: T) b H hb n)) (h'' : ∀ cp, AWpA P N nn ac Q (mk ((j, .sl i off 0 k (some cp)) :: T) b H hb n)) : AWpA P N nn ac Q (mk T b H hb n) :=
  fun c hc => AWp.nilcase j hj (h c hc) (fun q => h' q c hc) (fun cp => h'' cp c hc)
attribute [go_sem] Nat.reduceAdd Nat.reduceMul Nat.reduceSub Nat.reduceLT Nat.reduceLeDiff Nat.reduceEqDiff Int.reduceLT Int.reduceLE Int.reduceAdd Int.reduceSub Int.reduceNeg Int.reduceToNat Int.reduceEq Int.reduceBEq Int.reduceBNe Int.reduceMul reduceCtorEq
attribute [go_sem] keepS_mk0 keepS_mk1 keepT_nil keepT_cons numberA wrX
attribute [irreducible] AWpA
end Go.Am
