/- Own theory, no program in sight: a region that draws its order goes as its text does, if its effects are ordered and its reads hold in every world of a class. -/
import Derived.Orders
import Derived.Tactics
import Derived.Below
import Derived.KernelRfl
namespace Go.Proofs.Yteggjhihpjjloaa.Seq
set_option linter.unusedSimpArgs false
set_option linter.unusedVariables false
set_option maxHeartbeats 4000000
open Go Go.RowKit

/-- No way out but the ordinary one. -/
def NoExit : Exit → Act → World → Prop := fun _ _ _ => False

inductive Upd where
  | val (v : Value)
  | dfr (d : Deferred)
def Upd.app (u : Upd) (dst : Option Tmp) (a : Act) : Act :=
  match u with
  | .val v => a.put dst v
  | .dfr d => ({ a with defers := d :: a.defers } : Act).put dst undef

def OW (P : Program) (R : Upd → World → Prop) : Result Next → Prop
  | .ok (.value v) w' => R (.val v) w'
  | .ok .skip w' => R (.val undef) w'
  | .ok (.defer d) w' => R (.dfr d) w'
  | .ok (.enter f args) w' => Calls P f args w' (fun e w'' => ∃ v, e = .returned v ∧ R (.val v) w'')
  | .ok (.row row args) w' => Rows P row args w' (fun v w'' => R (.val v) w'')
  | _ => False

theorem not_letsOut : ¬ LetsOut NoExit := fun ⟨_, _, h⟩ => h

theorem ow_of_wp {P : Program} {o : Oper} {a : Act} {w : World} {K : Act → World → Prop} (h : o.wp P a w K NoExit) :
    OW P (fun u w' => K (u.app o.dst a) w') ((execOp a.eval o).run P w) := by
  unfold Oper.wp at h
  generalize (execOp a.eval o).run P w = r at *
  cases r with
  | ok n w' =>
    cases n <;> simp only [Oper.upon] at h <;> simp only [OW, Upd.app]
    case value => exact h
    case skip => exact h
    case defer => exact h
    case enter f args =>
      refine Calls.mono h fun e w'' he => ?_
      cases e with
      | returned v => exact ⟨v, rfl, he⟩
      | panicked c => exact (he : False).elim
      | outgrown => exact (not_letsOut he).elim
    case row => exact h
  | halt x w' =>
    cases x <;> simp only [Oper.upon, NoExit] at h

theorem wp_of_ow {P : Program} {o : Oper} {a : Act} {w : World} {K : Act → World → Prop} {Q : Exit → Act → World → Prop}
    (h : OW P (fun u w' => K (u.app o.dst a) w') ((execOp a.eval o).run P w)) : o.wp P a w K Q := by
  unfold Oper.wp
  generalize (execOp a.eval o).run P w = r at *
  cases r with
  | ok n w' =>
    cases n <;> simp only [OW, Upd.app] at h <;> simp only [Oper.upon]
    case value => exact h
    case skip => exact h
    case defer => exact h
    case enter f args =>
      refine Calls.mono h fun e w'' he => ?_
      obtain ⟨v, rfl, hv⟩ := he
      exact hv
    case row => exact h
  | halt x w' =>
    cases x <;> simp only [OW] at h

theorem OW.mono {P : Program} {R R' : Upd → World → Prop} {r : Result Next} (hr : ∀ u w, R u w → R' u w) (h : OW P R r) : OW P R' r := by
  cases r with
  | ok n w' =>
    cases n <;> simp only [OW] at h ⊢
    case value => exact hr _ _ h
    case skip => exact hr _ _ h
    case defer => exact hr _ _ h
    case enter f args => exact Calls.mono h fun e w'' ⟨v, hv, hk⟩ => ⟨v, hv, hr _ _ hk⟩
    case row => exact Rows.mono h fun _ _ hk => hr _ _ hk
  | halt x w' => cases x <;> simp only [OW] at h

theorem OW.some {P : Program} {R : Upd → World → Prop} {r : Result Next} (h : OW P R r) : ∃ u w, R u w := by
  cases r with
  | ok n w' =>
    cases n <;> simp only [OW] at h
    case value => exact ⟨_, _, h⟩
    case skip => exact ⟨_, _, h⟩
    case defer => exact ⟨_, _, h⟩
    case enter f args =>
      obtain ⟨e, w'', _, ⟨v, _, hk⟩, _⟩ := h []
      exact ⟨_, _, hk⟩
    case row row args =>
      obtain ⟨v, w'', hk, _⟩ := h default []
      exact ⟨_, _, hk⟩
  | halt x w' => cases x <;> simp only [OW] at h

section
variable {P : Program} {ops : Array Oper} {md : Region.Mode} {C : World → Prop} {E : List Nat}

theorem app_put (u : Upd) (a : Act) {x y : Option Tmp} (v : Value) (h : ∀ d, x = some d → y ≠ some d) :
    u.app y (a.put x v) = (u.app y a).put x v := by
  cases u with
  | val u => exact Act.put_comm a v u h
  | dfr d =>
    show ({ a.put x v with defers := d :: (a.put x v).defers } : Act).put y undef = (({ a with defers := d :: a.defers } : Act).put y undef).put x v
    rw [Act.put_defers]
    exact Act.put_comm _ v undef h

theorem app_exec (u : Upd) (a : Act) {y : Option Tmp} (o : Oper) (hs : ∀ cs b, o.op ≠ .select cs b) (h : ∀ d, y = some d → d ∉ o.looksAt ops) :
    execOp (u.app y a).eval o = execOp a.eval o := by
  cases u with
  | val u => exact execOp_put o hs a y u h
  | dfr d => exact execOp_put o hs ({ a with defers := d :: a.defers } : Act) y undef h

theorem app_wanted (u : Upd) (a : Act) {y : Option Tmp} (o : Oper) (h : ∀ d, y = some d → d ∉ o.looksAt ops) :
    Region.wanted o (yielded ops (u.app y a).tmps) = Region.wanted o (yielded ops a.tmps) := by
  cases u with
  | val u => exact wanted_put o a y u h
  | dfr d => exact wanted_put o ({ a with defers := d :: a.defers } : Act) y undef h

/-- Is k in the list? (by Nat.beq, which is cheap on numerals) -/
def hasB : List Nat → Nat → Bool
  | [], _ => false
  | i :: l, k => cond (Nat.beq i k) true (hasB l k)

def Step (P : Program) (ops : Array Oper) (C : World → Prop) (E : List Nat) (i : Nat) (o : Oper) (K : Act → World → Prop) (a : Act) (w : World) : Prop :=
  if Region.wanted o (yielded ops a.tmps) then
    if hasB E i then o.wp P a w (fun a' w' => C w' ∧ K a' w') NoExit
    else ∃ v, (∀ w, C w → (execOp a.eval o).run P w = .ok (.value v) w) ∧ K (a.put o.dst v) w
  else K (a.put o.dst undef) w

theorem Step.iff_eff {i : Nat} {o : Oper} {K : Act → World → Prop} {a : Act} {w : World} (hw : Region.wanted o (yielded ops a.tmps) = true) (hE : hasB E i = true) :
    Step P ops C E i o K a w ↔ o.wp P a w (fun a' w' => C w' ∧ K a' w') NoExit := by
  unfold Step; rw [if_pos hw, if_pos hE]
theorem Step.iff_read {i : Nat} {o : Oper} {K : Act → World → Prop} {a : Act} {w : World} (hw : Region.wanted o (yielded ops a.tmps) = true) (hE : ¬ hasB E i = true) :
    Step P ops C E i o K a w ↔ ∃ v, (∀ w, C w → (execOp a.eval o).run P w = .ok (.value v) w) ∧ K (a.put o.dst v) w := by
  unfold Step; rw [if_pos hw, if_neg hE]
theorem Step.iff_skip {i : Nat} {o : Oper} {K : Act → World → Prop} {a : Act} {w : World} (hw : ¬ Region.wanted o (yielded ops a.tmps) = true) :
    Step P ops C E i o K a w ↔ K (a.put o.dst undef) w := by
  unfold Step; rw [if_neg hw]

theorem Step.mono {i : Nat} {o : Oper} {K K' : Act → World → Prop} {a : Act} {w : World} (hC : C w) (hk : ∀ a w, C w → K a w → K' a w)
    (h : Step P ops C E i o K a w) : Step P ops C E i o K' a w := by
  unfold Step at *
  split
  · rename_i hw
    simp only [hw, if_true] at h
    split
    · rename_i hE
      simp only [hE, if_true] at h
      exact wp_of_ow (OW.mono (fun u w' h => ⟨h.1, hk _ _ h.1 h.2⟩) (ow_of_wp h))
    · rename_i hE
      simp only [hE] at h
      obtain ⟨v, h1, h2⟩ := h
      exact ⟨v, h1, hk _ _ hC h2⟩
  · rename_i hw
    simp only [hw] at h
    exact hk _ _ hC h

theorem Step.wpOp {i : Nat} {o : Oper} {K : Act → World → Prop} {a : Act} {w : World} {Q : Exit → Act → World → Prop} (hi : ops[i]? = some o) (hC : C w)
    (h : Step P ops C E i o K a w) : wpOp P ops Q i (fun a w => C w ∧ K a w) a w := by
  unfold Step at h
  unfold Go.wpOp
  simp only [hi]
  split
  · rename_i hw
    simp only [hw, if_true] at h
    refine .inl ?_
    split at h
    · exact wp_of_ow (ow_of_wp h)
    · obtain ⟨v, h1, h2⟩ := h
      unfold Oper.wp
      rw [h1 w hC]
      exact ⟨hC, h2⟩
  · rename_i hw
    simp only [hw] at h
    exact ⟨hC, h⟩

theorem Step.swap {i j : Nat} {oi oj : Oper} {K : Act → World → Prop} {a : Act} {w : World} (hC : C w) (hap : oi.apart ops oj = true)
    (hE : ¬ (hasB E i = true ∧ hasB E j = true)) (hsi : ∀ cs b, oi.op ≠ .select cs b) (hsj : ∀ cs b, oj.op ≠ .select cs b)
    (h : Step P ops C E i oi (Step P ops C E j oj K) a w) : Step P ops C E j oj (Step P ops C E i oi K) a w := by
  obtain ⟨h1, h2, h3⟩ := Oper.apart_spec hap
  have h2' : ∀ d, oj.dst = some d → oi.dst ≠ some d := fun d hd hi => h2 d hi hd

  have back : ∀ v, Step P ops C E j oj K (a.put oi.dst v) w →
      (∀ a', (Region.wanted oi (yielded ops a'.tmps) = Region.wanted oi (yielded ops a.tmps)) → execOp a'.eval oi = execOp a.eval oi → ∀ w', C w' → K (a'.put oi.dst v) w' → Step P ops C E i oi K a' w') →
      Step P ops C E j oj (Step P ops C E i oi K) a w := by
    intro v hj hk
    unfold Step at hj
    rw [wanted_put oj a oi.dst v h1] at hj
    unfold Step
    split
    · rename_i hw
      simp only [hw, if_true] at hj
      split
      · rename_i hEj
        simp only [hEj, if_true] at hj
        have := ow_of_wp hj
        rw [execOp_put oj hsj a oi.dst v h1] at this
        refine wp_of_ow (OW.mono (fun u w' hu => ?_) this)
        rw [app_put u a v h2] at hu
        exact ⟨hu.1, hk _ (app_wanted u a oi h3) (app_exec u a oi hsi h3) w' hu.1 hu.2⟩
      · rename_i hEj
        simp only [hEj] at hj
        obtain ⟨u, hu, hn⟩ := hj
        rw [execOp_put oj hsj a oi.dst v h1] at hu
        refine ⟨u, hu, hk _ (wanted_put oi a oj.dst u h3) (execOp_put oi hsi a oj.dst u h3) w hC ?_⟩
        rw [← Act.put_comm a v u h2]
        exact hn
    · rename_i hw
      simp only [hw] at hj
      refine hk _ (wanted_put oi a oj.dst undef h3) (execOp_put oi hsi a oj.dst undef h3) w hC ?_
      rw [← Act.put_comm a v undef h2]
      exact hj
  by_cases hwi : Region.wanted oi (yielded ops a.tmps) = true
  · by_cases hEi : hasB E i = true
    · -- an effect: then j is a read
      have hEj : ¬ hasB E j = true := fun hj => hE ⟨hEi, hj⟩
      have h0 : oi.wp P a w (fun a' w' => C w' ∧ Step P ops C E j oj K a' w') NoExit := by
        exact (Step.iff_eff hwi hEi).1 h
      have ho := ow_of_wp h0
      by_cases hwj : Region.wanted oj (yielded ops a.tmps) = true
      · have key : ∀ (u : Upd) (w' : World), C w' → Step P ops C E j oj K (u.app oi.dst a) w' → ∃ v, (∀ w, C w → (execOp a.eval oj).run P w = .ok (.value v) w) ∧ K ((u.app oi.dst a).put oj.dst v) w' := by
          intro u w' _ hs
          obtain ⟨v, hv, hn⟩ := (Step.iff_read (by rw [app_wanted u a oj h1]; exact hwj) hEj).1 hs
          rw [app_exec u a oj hsj h1] at hv
          exact ⟨v, hv, hn⟩
        obtain ⟨u0, w0, hc0, hs0⟩ := OW.some ho
        obtain ⟨v, hv, _⟩ := key u0 w0 hc0 hs0
        refine (Step.iff_read hwj hEj).2 ⟨v, hv, (Step.iff_eff (by rw [wanted_put oi a oj.dst v h3]; exact hwi) hEi).2 ?_⟩
        refine wp_of_ow ?_
        rw [execOp_put oi hsi a oj.dst v h3]
        refine OW.mono (fun u w' hu => ⟨hu.1, ?_⟩) ho
        obtain ⟨v', hv', hn⟩ := key u w' hu.1 hu.2
        have : v' = v := by
          have e := (hv' w hC).symm.trans (hv w hC)
          injection e with e1
          injection e1
        subst this
        rw [app_put u a v' h2']
        exact hn
      · refine (Step.iff_skip hwj).2 ((Step.iff_eff (by rw [wanted_put oi a oj.dst undef h3]; exact hwi) hEi).2 ?_)
        refine wp_of_ow ?_
        rw [execOp_put oi hsi a oj.dst undef h3]
        refine OW.mono (fun u w' hu => ⟨hu.1, ?_⟩) ho
        have hs := (Step.iff_skip (by rw [app_wanted u a oj h1]; exact hwj)).1 hu.2
        rw [app_put u a undef h2']
        exact hs
    · obtain ⟨v, hv, hj⟩ := (Step.iff_read hwi hEi).1 h
      exact back v hj fun a' hw' he' w' hc' hk => (Step.iff_read (by rw [hw']; exact hwi) hEi).2 ⟨v, by rw [he']; exact hv, hk⟩
  · exact back undef ((Step.iff_skip hwi).1 h) fun a' hw' he' w' hc' hk => (Step.iff_skip (by rw [hw']; exact hwi)).2 hk

def wpP (P : Program) (ops : Array Oper) (C : World → Prop) (E : List Nat) (Q : Act → World → Prop) : List (Nat × Oper) → Act → World → Prop
  | [], a, w => Q a w
  | (i, o) :: l, a, w => Step P ops C E i o (wpP P ops C E Q l) a w

theorem pull {Q : Act → World → Prop} {j : Nat} {oj : Oper} {l2 : List (Nat × Oper)} (hsj : ∀ cs b, oj.op ≠ .select cs b) :
    ∀ (l1 : List (Nat × Oper)) (a : Act) (w : World), C w →
      (∀ p ∈ l1, (p.2.apart ops oj = true ∧ ¬ (hasB E p.1 = true ∧ hasB E j = true)) ∧ ∀ cs b, p.2.op ≠ .select cs b) →
      wpP P ops C E Q (l1 ++ (j, oj) :: l2) a w → Step P ops C E j oj (wpP P ops C E Q (l1 ++ l2)) a w
  | [], _, _, _, _, h => h
  | (i, oi) :: l1, a, w, hC, hp, h => by
    have h' : Step P ops C E i oi (Step P ops C E j oj (wpP P ops C E Q (l1 ++ l2))) a w :=
      Step.mono hC (fun a' w' hc hk => pull hsj l1 a' w' hc (fun p hm => hp p (List.mem_cons_of_mem _ hm)) hk) h
    have hh := hp (i, oi) List.mem_cons_self
    exact Step.swap hC hh.1.1 hh.1.2 hh.2 hsj h'

/-! ### Who waits for whom, as bits -/
def maskOf (md : Region.Mode) (o : Oper) (acc : List Nat) : Nat :=
  o.after.foldl (fun m e => if Region.binds md e then m ||| (1 <<< e.on) ||| acc.getD e.on 0 else m) 0
def masks (md : Region.Mode) : List Oper → List Nat → List Nat
  | [], acc => acc
  | o :: l, acc => masks md l (acc ++ [maskOf md o acc])

def Closed (md : Region.Mode) (ops : Array Oper) (listed : Array Bool) : Prop :=
  ∀ (j : Nat) (o : Oper), ops[j]? = some o → listed.getD j false = true → ∀ e ∈ o.after, Region.binds md e = true → listed.getD e.on false = true

def Good (md : Region.Mode) (ops : Array Oper) (k : Nat) (m : Nat) : Prop :=
  ∀ (listed : Array Bool) (o : Oper), Closed md ops listed → ops[k]? = some o → (∀ e ∈ o.after, Region.binds md e = true → listed.getD e.on false = true) →
    ∀ r, m.testBit r = true → listed.getD r false = true

theorem fold_bits (md : Region.Mode) (acc : List Nat) : ∀ (l : List Edge) (m0 r : Nat),
    (l.foldl (fun m e => if Region.binds md e then m ||| (1 <<< e.on) ||| acc.getD e.on 0 else m) m0).testBit r = true →
    m0.testBit r = true ∨ ∃ e ∈ l, Region.binds md e = true ∧ (e.on = r ∨ (acc.getD e.on 0).testBit r = true)
  | [], m0, r, h => .inl h
  | e :: l, m0, r, h => by
    rw [List.foldl_cons] at h
    rcases fold_bits md acc l _ r h with h1 | ⟨e', he', hb, hr⟩
    · by_cases hb : Region.binds md e = true
      · simp only [hb, if_true, Nat.testBit_or, Bool.or_eq_true] at h1
        rcases h1 with (h1 | h1) | h1
        · exact .inl h1
        · refine .inr ⟨e, List.mem_cons_self, hb, .inl ?_⟩
          rw [Nat.one_shiftLeft, Nat.testBit_two_pow] at h1
          simpa using h1
        · exact .inr ⟨e, List.mem_cons_self, hb, .inr h1⟩
      · rw [if_neg hb] at h1
        exact .inl h1
    · exact .inr ⟨e', List.mem_cons_of_mem _ he', hb, hr⟩

theorem maskOf_good {k : Nat} {o : Oper} {acc : List Nat} (hk : ops[k]? = some o) (hacc : ∀ i m, acc[i]? = some m → (∃ oi, ops[i]? = some oi) ∧ Good md ops i m) : Good md ops k (maskOf md o acc) := by
  intro listed o' hc ho' hall r hr
  obtain rfl : o = o' := by rw [hk] at ho'; injection ho'
  unfold maskOf at hr
  rw [← Array.foldl_toList] at hr
  rcases fold_bits md acc _ _ r hr with h0 | ⟨e, he, hb, hor⟩
  · simp at h0
  · have hl := hall e (Array.mem_toList_iff.1 he) hb
    rcases hor with rfl | hbit
    · exact hl
    · cases ha : acc[e.on]? with
      | none => rw [List.getD_eq_getElem?_getD, ha] at hbit; simp at hbit
      | some m =>
        rw [List.getD_eq_getElem?_getD, ha] at hbit
        obtain ⟨⟨oe, hoe⟩, hg⟩ := hacc e.on m ha
        exact hg listed oe hc hoe (hc e.on oe hoe hl) r hbit

theorem masks_good : ∀ (l : List Oper) (acc : List Nat), (∀ i, l[i]? = ops[acc.length + i]?) →
    (∀ i m, acc[i]? = some m → (∃ oi, ops[i]? = some oi) ∧ Good md ops i m) → ∀ i m, (masks md l acc)[i]? = some m → (∃ oi, ops[i]? = some oi) ∧ Good md ops i m
  | [], acc, _, h => h
  | o :: l, acc, hl, h => by
    have h0 : ops[acc.length]? = some o := by simpa using (hl 0).symm
    refine masks_good l (acc ++ [maskOf md o acc]) (fun i => ?_) (fun i m hi => ?_)
    · have := hl (i + 1)
      simpa [Nat.add_assoc, Nat.add_comm 1 i] using this
    · rw [List.getElem?_append] at hi
      split at hi
      · exact h i m hi
      · rename_i hge
        have hi0 : i = acc.length := by
          rcases Nat.lt_or_ge acc.length i with h' | h'
          · rw [List.getElem?_eq_none (by simp; omega)] at hi; cases hi
          · omega
        subst hi0
        simp at hi
        subst hi
        exact ⟨⟨o, h0⟩, maskOf_good h0 h⟩

/-- i stands ahead of j in the text: i is no reader of what j does; and j waits for i, or they are apart and not both effects. -/
def pairB (md : Region.Mode) (ops : Array Oper) (E : List Nat) (ms : List Nat) (p q : Nat × Oper) : Bool :=
  !(p.2.after.any fun e => Region.binds md e && e.on == q.1) && ((ms.getD q.1 0).testBit p.1 || (p.2.apart ops q.2 && !(hasB E p.1 && hasB E q.1)))
def pairsB (md : Region.Mode) (ops : Array Oper) (E : List Nat) (ms : List Nat) : List (Nat × Oper) → Bool
  | [] => true
  | p :: l => l.all (pairB md ops E ms p) && !(p.2.after.any fun e => Region.binds md e && e.on == p.1) && pairsB md ops E ms l
def number : Nat → List Oper → List (Nat × Oper)
  | _, [] => []
  | k, o :: l => (k, o) :: number (k + 1) l
def seqB (ops : Array Oper) (E : List Nat) : Bool :=
  Region.noSelect ops && pairsB .any ops E (masks .any ops.toList []) (number 0 ops.toList)

structure Fits (md : Region.Mode) (ops : Array Oper) (E : List Nat) (p q : Nat × Oper) : Prop where
  ne : p.1 ≠ q.1
  no : ∀ e ∈ p.2.after, Region.binds md e = true → e.on ≠ q.1
  or : (∀ (listed : Array Bool), Closed md ops listed → q.1 ∈ Region.ready md ops listed → listed.getD p.1 false = true) ∨ (p.2.apart ops q.2 = true ∧ ¬ (hasB E p.1 = true ∧ hasB E q.1 = true))

theorem number_get : ∀ (l : List Oper) (k : Nat) (p : Nat × Oper), p ∈ number k l → k ≤ p.1 ∧ l[p.1 - k]? = some p.2
  | [], _, _, h => by cases h
  | o :: l, k, p, h => by
    rcases List.mem_cons.1 h with rfl | h
    · exact ⟨Nat.le_refl _, by simp⟩
    · obtain ⟨h1, h2⟩ := number_get l (k + 1) p h
      refine ⟨by omega, ?_⟩
      have : p.1 - k = (p.1 - (k + 1)) + 1 := by omega
      rw [this, List.getElem?_cons_succ]
      exact h2

theorem number_has : ∀ (l : List Oper) (k i : Nat) (o : Oper), l[i]? = some o → (k + i, o) ∈ number k l
  | [], _, _, _, h => by simp at h
  | o' :: l, k, 0, o, h => by simp at h; subst h; exact List.mem_cons_self
  | o' :: l, k, i + 1, o, h => by
    have := number_has l (k + 1) i o (by simpa using h)
    rw [show k + (i + 1) = k + 1 + i from by omega]
    exact List.mem_cons_of_mem _ this

theorem pairs_fit (hms : ∀ i m, (masks md ops.toList [])[i]? = some m → (∃ oi, ops[i]? = some oi) ∧ Good md ops i m) :
    ∀ (l : List Oper) (k : Nat), (∀ i, l[i]? = ops[k + i]?) → pairsB md ops E (masks md ops.toList []) (number k l) = true →
      (number k l).Pairwise (Fits md ops E) ∧ ∀ p ∈ number k l, ∀ e ∈ p.2.after, Region.binds md e = true → e.on ≠ p.1
  | [], _, _, _ => ⟨List.Pairwise.nil, fun _ h => by cases h⟩
  | o :: l, k, hl, h => by
    simp only [number, pairsB, Bool.and_eq_true, List.all_eq_true] at h
    obtain ⟨⟨h1, h2⟩, h3⟩ := h
    have ih := pairs_fit hms l (k + 1) (fun i => by have := hl (i + 1); simpa [Nat.add_assoc, Nat.add_comm 1 i] using this) h3
    refine ⟨List.Pairwise.cons (fun q hq => ?_) ih.1, fun p hp => ?_⟩
    · have hp := h1 q hq
      obtain ⟨hq1, hq2⟩ := number_get l (k + 1) q hq
      simp only [pairB, Bool.and_eq_true, Bool.or_eq_true, Bool.not_eq_true'] at hp
      obtain ⟨hno, hor⟩ := hp
      refine ⟨by show k ≠ q.1; omega, fun e he hb heq => ?_, ?_⟩
      · have : (o.after.any fun e => Region.binds md e && e.on == q.1) = true := Array.any_eq_true'.2 ⟨e, he, by simp [hb, heq]⟩
        rw [this] at hno
        cases hno
      · rcases hor with hbit | ⟨hap, hE⟩
        · refine .inl fun listed hc hr => ?_
          obtain ⟨_, oq, hoq, hall⟩ := mem_ready.1 hr
          cases hm : (masks md ops.toList [])[q.1]? with
          | none => rw [List.getD_eq_getElem?_getD, hm] at hbit; simp at hbit
          | some m =>
            rw [List.getD_eq_getElem?_getD, hm] at hbit
            exact (hms q.1 m hm).2 listed oq hc hoq hall k hbit
        · refine .inr ⟨hap, fun hh => ?_⟩
          rw [hh.1, hh.2] at hE
          cases hE
    · rcases List.mem_cons.1 hp with rfl | hp
      · intro e he hb heq
        have : (o.after.any fun e => Region.binds md e && e.on == k) = true := Array.any_eq_true'.2 ⟨e, he, by simp [hb]; exact heq⟩
        simp only [Bool.not_eq_true'] at h2
        rw [this] at h2
        cases h2
      · exact ih.2 p hp

theorem any_of_seq {Q : Act → World → Prop} {Q' : Exit → Act → World → Prop} (hQ : ∀ a w, C w → Q a w → Q' .normal a w) (hsel : ∀ (j : Nat) (o : Oper) cs b, ops[j]? = some o → o.op ≠ .select cs b) :
    ∀ (fuel : Nat) (l : List (Nat × Oper)) (listed : Array Bool) (a : Act) (w : World), l.length ≤ fuel → C w → listed.size = ops.size →
      (∀ p, p ∈ l ↔ (ops[p.1]? = some p.2 ∧ listed.getD p.1 true = false)) → Closed md ops listed → l.Pairwise (Fits md ops E) →
      (∀ p ∈ l, ∀ e ∈ p.2.after, Region.binds md e = true → e.on ≠ p.1) → (∀ p ∈ l, ∀ e ∈ p.2.after, Region.binds md e = true → e.on < ops.size) →
      wpP P ops C E Q l a w → wpAny P md ops Q' fuel listed a w := by
  intro fuel
  induction fuel with
  | zero =>
    intro l listed a w hlen hC hsz hl hc hpw hself hlt h
    have hl0 : l = [] := List.eq_nil_of_length_eq_zero (by omega)
    subst hl0
    refine ⟨?_, hQ _ _ hC h⟩
    rw [List.eq_nil_iff_forall_not_mem]
    intro j hj
    obtain ⟨h0, o, ho, _⟩ := mem_ready.1 hj
    have := (hl (j, o)).2 ⟨ho, h0⟩
    cases this
  | succ fuel ih =>
    intro l listed a w hlen hC hsz hl hc hpw hself hlt h
    refine ⟨fun hr => ?_, fun j hj => ?_⟩
    · cases l with
      | nil => exact hQ _ _ hC h
      | cons p l =>
        exfalso
        obtain ⟨hp1, hp2⟩ := (hl p).1 List.mem_cons_self
        have : p.1 ∈ Region.ready md ops listed := by
          refine mem_ready.2 ⟨hp2, p.2, hp1, fun e he hb => ?_⟩
          have hon := hlt p List.mem_cons_self e he hb
          cases hx : listed.getD e.on true with
          | true =>
            rw [← hsz] at hon
            simp [hon] at hx ⊢
            exact hx
          | false =>
            exfalso
            have hmem := (hl (e.on, ops[e.on])).2 ⟨by simp [hon], hx⟩
            rcases List.mem_cons.1 hmem with heq | hmem
            · exact hself p List.mem_cons_self e he hb (by rw [← heq])
            · exact ((List.pairwise_cons.1 hpw).1 _ hmem).no e he hb rfl
        rw [hr] at this
        cases this
    · obtain ⟨hj0, oj, hoj, hjall⟩ := mem_ready.1 hj
      have hmem := (hl (j, oj)).2 ⟨hoj, hj0⟩
      obtain ⟨l1, l2, rfl⟩ := List.append_of_mem hmem
      have hpw' := List.pairwise_append.1 hpw
      have hfit : ∀ p ∈ l1, Fits md ops E p (j, oj) := fun p hp => hpw'.2.2 p hp (j, oj) List.mem_cons_self
      have hstep := pull (P := P) (C := C) (E := E) (Q := Q) (hsel j oj · · hoj) l1 a w hC (fun p hp => by
        refine ⟨?_, fun cs b => hsel p.1 p.2 cs b ((hl p).1 (List.mem_append_left _ hp)).1⟩
        rcases (hfit p hp).or with h1 | h1
        · exfalso
          have h2 := h1 listed hc hj
          have h3 := ((hl p).1 (List.mem_append_left _ hp)).2
          rcases Nat.lt_or_ge p.1 listed.size with h' | h'
          · simp [h'] at h2 h3; rw [h2] at h3; cases h3
          · simp [Array.getElem?_eq_none h'] at h2
        · exact h1) h
      refine wpOp_mono (fun a' w' hk => ?_) (Step.wpOp hoj hC hstep)
      have hjs : j < listed.size := by rw [hsz]; exact (Array.getElem?_eq_some_iff.1 hoj).1
      refine ih (l1 ++ l2) (listed.setIfInBounds j true) a' w' (by simp at hlen ⊢; omega) hk.1 (by simpa using hsz) (fun p => ?_) ?_ ?_ ?_ ?_ hk.2
      · have hnj : ∀ p ∈ l1 ++ l2, p.1 ≠ j := by
          intro p hp
          rcases List.mem_append.1 hp with hp | hp
          · exact (hfit p hp).ne
          · exact fun e => (List.pairwise_cons.1 hpw'.2.1).1 p hp |>.ne e.symm
        constructor
        · intro hp
          have h0 := (hl p).1 (by rcases List.mem_append.1 hp with hp | hp <;> simp [hp])
          exact ⟨h0.1, by rw [getD_set_ne true (Ne.symm (hnj p hp))]; exact h0.2⟩
        · rintro ⟨h1, h2⟩
          have hne : p.1 ≠ j := by
            intro e
            rw [e] at h2
            simp [hjs] at h2
          rw [getD_set_ne true (Ne.symm hne)] at h2
          have h3 := (hl p).2 ⟨h1, h2⟩
          rcases List.mem_append.1 h3 with h4 | h4
          · exact List.mem_append_left _ h4
          · rcases List.mem_cons.1 h4 with h5 | h5
            · exact absurd (by rw [h5]) hne
            · exact List.mem_append_right _ h5
      · intro k o hk' hlk e he hb
        by_cases hkj : k = j
        · subst hkj
          obtain rfl : o = oj := by rw [hoj] at hk'; injection hk' with h; exact h.symm
          exact getD_set_true (hjall e he hb)
        · rw [getD_set_ne false (Ne.symm hkj)] at hlk
          exact getD_set_true (hc k o hk' hlk e he hb)
      · exact hpw.sublist (List.Sublist.append_left (List.sublist_cons_self _ _) _)
      · exact fun p hp => hself p (by rcases List.mem_append.1 hp with hp | hp <;> simp [hp])
      · exact fun p hp => hlt p (by rcases List.mem_append.1 hp with hp | hp <;> simp [hp])

def inB (ops : Array Oper) : Bool := ops.all fun o => o.after.all fun e => decide (e.on < ops.size)

/-- The walk of the text, as the tactics meet it. -/
def wpSeq (P : Program) (ops : Array Oper) (C : World → Prop) (E : List Nat) (Q : Act → World → Prop) (k : Nat) (l : List Oper) (a : Act) (w : World) : Prop :=
  wpP P ops C E Q (number k l) a w

theorem wp_region_seq {id : Nat} {l : List Oper} {Q : Exit → Act → World → Prop} {a : Act} {w : World} (hm : P.follows .mixedOrders = true) (C : World → Prop) (E : List Nat)
    (hB : (inB l.toArray && seqB l.toArray E) = true) (hC : C w.drew) (h' : C w.drew → wpSeq P l.toArray C E (fun a w => C w → Q .normal a w) 0 l a w.drew) : (Code.region id l.toArray true).wp P Q a w := by
  simp only [Bool.and_eq_true, seqB] at hB
  have h := h' hC
  obtain ⟨hin, hns, hpairs⟩ := hB
  refine wp_region_any hm ?_
  have hms := masks_good (md := .any) (ops := l.toArray) l [] (fun i => by simp) (fun i m hi => by simp at hi)
  have hfit := pairs_fit (md := .any) (ops := l.toArray) (E := E) hms l 0 (fun i => by simp) hpairs
  have hon : ∀ p ∈ number 0 l, ∀ e ∈ p.2.after, Region.binds .any e = true → e.on < l.toArray.size := by
    intro p hp e he _
    obtain ⟨_, h2⟩ := number_get l 0 p hp
    have h3 : p.2 ∈ l.toArray := by
      have : l[p.1]? = some p.2 := by simpa using h2
      simpa using List.mem_of_getElem? this
    have h4 := Array.all_eq_true_iff_forall_mem.1 hin p.2 h3
    have h5 := Array.all_eq_true_iff_forall_mem.1 h4 e he
    simpa using h5
  have hlen : ∀ (l : List Oper) (k : Nat), (number k l).length = l.length := by
    intro l
    induction l with
    | nil => intro k; rfl
    | cons o l ih => intro k; simp [number, ih]
  refine any_of_seq (md := .any) (C := C) (E := E) (Q := fun a w => C w → Q .normal a w) (fun a w hc h => h hc) (Region.noSelect_spec hns) _ (number 0 l) _ a _ (by simp [hlen]) hC (by simp) (fun p => ?_) ?_ hfit.1 hfit.2 hon h
  · constructor
    · intro hp
      obtain ⟨_, h2⟩ := number_get l 0 p hp
      have h3 : l[p.1]? = some p.2 := by simpa using h2
      have h4 := (List.getElem?_eq_some_iff.1 h3).1
      exact ⟨by simpa using h3, by simp [h4]⟩
    · rintro ⟨h1, _⟩
      have := number_has l 0 p.1 p.2 (by simpa using h1)
      simpa using this
  · intro j o hj hl
    rcases Nat.lt_or_ge j l.length with h' | h'
    · simp [h'] at hl
    · simp [h'] at hl

/-! ### The steps -/
theorem wpSeq_id {Q : Act → World → Prop} {k : Nat} {l : List Oper} {a : Act} {w : World} (h : wpSeq P ops C E Q k l a w) : wpSeq P ops C E Q k l a w := h
theorem wpSeq_nil {Q : Act → World → Prop} {k : Nat} {a : Act} {w : World} (h : Q a w) : wpSeq P ops C E Q k [] a w := h
theorem wpSeq_skip {Q : Act → World → Prop} {k : Nat} {o : Oper} {l : List Oper} {a : Act} {w : World} (hw : Region.wanted o (yielded ops a.tmps) = false)
    (h : wpSeq P ops C E Q (k + 1) l (a.put o.dst undef) w) : wpSeq P ops C E Q k (o :: l) a w :=
  (Step.iff_skip (by rw [hw]; exact Bool.false_ne_true)).2 h
theorem wpSeq_read {Q : Act → World → Prop} {k : Nat} {o : Oper} {l : List Oper} {a : Act} {w : World} (hw : Region.wanted o (yielded ops a.tmps) = true) (hE : hasB E k = false) {v : Value}
    (hv : ∀ w, C w → (execOp a.eval o).run P w = .ok (.value v) w) (h : wpSeq P ops C E Q (k + 1) l (a.put o.dst v) w) : wpSeq P ops C E Q k (o :: l) a w :=
  (Step.iff_read hw (by rw [hE]; exact Bool.false_ne_true)).2 ⟨v, hv, h⟩
theorem wpSeq_move {Q : Act → World → Prop} {k : Nat} {o : Oper} {l : List Oper} {a : Act} {w : World} {x : Operand} (ho : o.op = .move x) (hw : Region.wanted o (yielded ops a.tmps) = true) (hE : hasB E k = false)
    {v : Value} (hv : a.eval x = v) (h : wpSeq P ops C E Q (k + 1) l (a.put o.dst v) w) : wpSeq P ops C E Q k (o :: l) a w :=
  wpSeq_read hw hE (v := v) (fun w _ => by unfold execOp; rw [ho]; subst hv; rfl) h
theorem wpSeq_assign {Q : Act → World → Prop} {k : Nat} {o : Oper} {l : List Oper} {a : Act} {w : World} {x : Operand} (ho : o.op = .assign x) (hw : Region.wanted o (yielded ops a.tmps) = true) (hE : hasB E k = false)
    {v : Value} (hv : a.eval x = v) (h : wpSeq P ops C E Q (k + 1) l (a.put o.dst v) w) : wpSeq P ops C E Q k (o :: l) a w :=
  wpSeq_read hw hE (v := v) (fun w _ => by unfold execOp; rw [ho]; subst hv; rfl) h
theorem wpSeq_move' {Q : Act → World → Prop} {k : Nat} {o : Oper} {l : List Oper} {a : Act} {w : World} {x : Operand} (v : Value) (ho : o.op = .move x) (hw : Region.wanted o (yielded ops a.tmps) = true) (hE : hasB E k = false)
    (hv : a.eval x = v) (h : wpSeq P ops C E Q (k + 1) l (a.put o.dst v) w) : wpSeq P ops C E Q k (o :: l) a w := wpSeq_move ho hw hE hv h
theorem wpSeq_assign' {Q : Act → World → Prop} {k : Nat} {o : Oper} {l : List Oper} {a : Act} {w : World} {x : Operand} (v : Value) (ho : o.op = .assign x) (hw : Region.wanted o (yielded ops a.tmps) = true) (hE : hasB E k = false)
    (hv : a.eval x = v) (h : wpSeq P ops C E Q (k + 1) l (a.put o.dst v) w) : wpSeq P ops C E Q k (o :: l) a w := wpSeq_assign ho hw hE hv h
/-- A move whose Bool is a guard of what follows: parted at once. -/
theorem wpSeq_part {Q : Act → World → Prop} {k : Nat} {o : Oper} {l : List Oper} {a : Act} {w : World} {x : Operand} {b : Bool} (G : List Nat) (hG : hasB G k = true) (ho : o.op = .move x) (hw : Region.wanted o (yielded ops a.tmps) = true) (hE : hasB E k = false)
    (hv : a.eval x = .bool b) (ht : b = true → wpSeq P ops C E Q (k + 1) l (a.put o.dst (.bool true)) w) (hf : b = false → wpSeq P ops C E Q (k + 1) l (a.put o.dst (.bool false)) w) : wpSeq P ops C E Q k (o :: l) a w :=
  (fun _ => wpSeq_move ho hw hE hv (by cases b with
    | false => exact hf rfl
    | true => exact ht rfl)) hG
theorem wpSeq_eff {Q : Act → World → Prop} {k : Nat} {o : Oper} {l : List Oper} {a : Act} {w : World} (hw : Region.wanted o (yielded ops a.tmps) = true) (hE : hasB E k = true)
    (h : ∀ K : Act → World → Prop, (∀ a w, C w → (C w → wpSeq P ops C E Q (k + 1) l a w) → K a w) → o.wp P a w K NoExit) : wpSeq P ops C E Q k (o :: l) a w :=
  (Step.iff_eff hw hE).2 (h _ fun _ _ h1 h2 => ⟨h1, h2 h1⟩)
/-- The same as 'wpSeq_read', the value first. -/
theorem wpSeq_read' {Q : Act → World → Prop} {k : Nat} {o : Oper} {l : List Oper} {a : Act} {w : World} (v : Value) (hw : Region.wanted o (yielded ops a.tmps) = true) (hE : hasB E k = false)
    (hv : ∀ w, C w → (execOp a.eval o).run P w = .ok (.value v) w) (h : wpSeq P ops C E Q (k + 1) l (a.put o.dst v) w) : wpSeq P ops C E Q k (o :: l) a w :=
  wpSeq_read hw hE hv h
end

/-- Blocks below B, but for those of X, are as in W; nothing has been given back. -/
structure Keeps (B : Nat) (X : List Nat) (W w : World) : Prop where
  size : B ≤ w.heap.size
  block : ∀ b, b < B → X.contains b = false → w.heap[b]? = W.heap[b]?
theorem Keeps.refl {B : Nat} {X : List Nat} {W : World} (h : B ≤ W.heap.size) : Keeps B X W W := ⟨h, fun _ _ _ => rfl⟩
theorem Keeps.drew {B : Nat} {X : List Nat} {W w : World} (h : Keeps B X W w) : Keeps B X W w.drew := ⟨h.size, h.block⟩
theorem Keeps.undrew {B : Nat} {X : List Nat} {W w : World} (h : Keeps B X W w.drew) : Keeps B X W w := ⟨h.size, h.block⟩
theorem Keeps.below {B : Nat} {X : List Nat} {W w w' : World} (h : Keeps B X W w) {A : Nat} (hA : w.heap.size ≤ A) (hb : Below A w w') : Keeps B X W w' :=
  ⟨Nat.le_trans h.size hb.size, fun b hlt hx => (hb.block b (Nat.lt_of_lt_of_le hlt (Nat.le_trans h.size hA))).trans (h.block b hlt hx)⟩
theorem Keeps.alloc {B : Nat} {X : List Nat} {W w : World} (h : Keeps B X W w) (o : Obj) : Keeps B X W (w.alloc o) :=
  h.below (Nat.le_refl _) ((Below.refl _ _).alloc (Nat.le_refl _) o)
theorem Keeps.allocL {B : Nat} {X : List Nat} {W w : World} (h : Keeps B X W w) (hB : B ≤ W.heap.size) (o : Obj) : Keeps B X (W.alloc o) w :=
  ⟨h.size, fun b hlt hx => (h.block b hlt hx).trans (Below.heap_alloc W o b (by omega)).symm⟩
theorem Keeps.setCell {B : Nat} {X : List Nat} {W w : World} (h : Keeps B X W w) {p : Addr} (hp : X.contains p.block = true ∨ B ≤ p.block) (u : Value) : Keeps B X W (w.setCell p u) :=
  ⟨by simpa [World.setCell] using h.size, fun b hlt hx => (Below.heap_setCell w p u b (by
    rintro rfl
    rcases hp with hp | hp
    · rw [hp] at hx; cases hx
    · omega)).trans (h.block b hlt hx)⟩
theorem Keeps.cell {B : Nat} {X : List Nat} {W w : World} (h : Keeps B X W w) : ∀ b o, b < B → X.contains b = false → w.cell? ⟨b, o, none⟩ = W.cell? ⟨b, o, none⟩ :=
  fun b _ h1 h2 => World.cell?_of_block (w := W) (h.block b h1 h2)
theorem Keeps.frozen {B : Nat} {X : List Nat} {W w : World} (h : Keeps B X W w) : ∀ b o, b < B → X.contains b = false → w.frozen? ⟨b, o, none⟩ = W.frozen? ⟨b, o, none⟩ :=
  fun b _ h1 h2 => World.frozen?_of_block (w := W) (h.block b h1 h2)
attribute [irreducible] wpSeq
end Go.Proofs.Yteggjhihpjjloaa.Seq
