/- SortFunc of entries, as a contract: what the kit says of its run, told of objects. -/
import Derived.Test.YtbblpmkdhdnkhaaSo1
import Derived.Test.YtbblpmkdhdnkhaaWm1
import Derived.Shelf.SlSortCmp.InsertionK
namespace Go.Proofs.Ytbblpmkdhdnkhaa
set_option linter.unusedSimpArgs false
set_option linter.unusedVariables false
set_option maxHeartbeats 4000000
open Go Go.Proofs Go.Am Go.RowKit Go.Sort
set_option maxRecDepth 100000
instance : Inhabited En := ⟨⟨⟨#[]⟩, ⟨#[]⟩, false, ⟨0, 0⟩, ⟨0, 0⟩, 0, 0⟩⟩
theorem flat_get {α : Type} {f : α → List Value} {k : Nat} (hk : ∀ x, (f x).length = k) : ∀ (l : List α) (i q : Nat) (hi : i < l.length), q < k → (l.flatMap f)[i * k + q]? = (f l[i])[q]?
  | [], i, q, hi, _ => by simp at hi
  | x :: l, 0, q, hi, hq => by
    rw [List.flatMap_cons, Nat.zero_mul, Nat.zero_add, List.getElem?_append_left (by rw [hk]; exact hq)]
    rfl
  | x :: l, i + 1, q, hi, hq => by
    rw [List.flatMap_cons, List.getElem?_append_right (by rw [hk, Nat.succ_mul]; omega), hk, show (i + 1) * k + q - k = i * k + q by rw [Nat.succ_mul]; omega, flat_get hk l i q (by simpa using hi) hq]
    rfl
theorem flat_len {α : Type} {f : α → List Value} {k : Nat} (hk : ∀ x, (f x).length = k) : ∀ l : List α, (l.flatMap f).length = l.length * k
  | [] => by simp
  | x :: l => by rw [List.flatMap_cons, List.length_append, hk, flat_len hk l, List.length_cons, Nat.succ_mul]; omega
theorem enc_len (x : En) : (encE x).length = 9 := rfl
theorem enc_one (x : En) : ∀ v ∈ encE x, v.oneCell' = true := by
  intro v hv
  simp only [encE, List.mem_cons, List.not_mem_nil, or_false] at hv
  rcases hv with rfl | rfl | rfl | rfl | rfl | rfl | rfl | rfl | rfl <;> rfl
theorem flatK_eq (d : Array En) : (flatK encE 9 d).toList = d.toList.flatMap encE := by
  apply List.ext_getElem?
  intro t
  by_cases ht : t < d.size * 9
  · have h1 := get_flatK encE 9 d t ht
    have hi : t / 9 < d.toList.length := by simp; omega
    have h2 := flat_get (f := encE) enc_len d.toList (t / 9) (t % 9) hi (Nat.mod_lt _ (by decide))
    rw [show t / 9 * 9 + t % 9 = t by omega] at h2
    rw [h2, Array.getElem?_toList, Array.getElem?_eq_getElem (by simpa using ht)]
    rw [getElem!_pos _ t (by simpa using ht)] at h1
    rw [h1, getElem!_pos d (t / 9) (by simpa using hi)]
    have h3 : t % 9 < (encE d[t / 9]).length := Nat.mod_lt _ (by decide)
    rw [getElem!_pos _ (t % 9) h3]
    simp [List.getElem?_eq_getElem h3]
  · rw [List.getElem?_eq_none (by simp; omega), List.getElem?_eq_none (by rw [flat_len enc_len]; simp; omega)]
theorem re_vals (l : List En) : Re 0 l = (l.flatMap encE).map .val := by
  unfold Re rowsC
  rw [List.map_flatMap]
  rfl
theorem put_take (arr F : Array Value) (h : F.size ≤ arr.size) : (putCells id 0 F arr).toList.take F.size = F.toList := by
  apply List.ext_getElem?
  intro j
  by_cases hj : j < F.size
  · rw [List.getElem?_take_of_lt hj, Array.getElem?_toList, Array.getElem?_toList]
    simp [putCells, hj, show j < arr.size by omega]
  · rw [List.getElem?_eq_none (by simp; omega), List.getElem?_eq_none (by simp; omega)]
theorem put_mem {arr F : Array Value} {v : Value} (h : v ∈ (putCells id 0 F arr).toList) : v ∈ F.toList ∨ v ∈ arr.toList := by
  obtain ⟨j, hj, rfl⟩ := List.mem_iff_getElem.1 h
  have hj' : j < arr.size := by simpa [putCells] using hj
  by_cases h1 : j < F.size
  · left
    simp [putCells, h1]
  · right
    simp [putCells, h1]
theorem perm_list {d d' : Array En} (h : PermIn 0 d.size d d') : d'.toList.Perm d.toList := by
  obtain ⟨h1, -, h2⟩ := h
  have e1 : d'.extract 0 d.size = d' := by rw [← h1]; simp
  have e2 : d.extract 0 d.size = d := by simp
  rwa [e1, e2] at h2
theorem lt_cf (x y : En) : ltOf (fun x y : En => cmpK x.key y.key) x y = ltK x.key y.key := by
  unfold ltOf
  cases h : ltK x.key y.key with
  | true => exact decide_eq_true ((cmpK_lt _ _).2 h)
  | false => exact decide_eq_false fun e => by rw [(cmpK_lt _ _).1 e] at h; cases h
theorem sorted_list {d : Array En} (h : SortedIn (ltOf fun x y : En => cmpK x.key y.key) 0 d.size d) : d.toList.Pairwise fun x y => ltK y.key x.key = false := by
  rw [List.pairwise_iff_getElem]
  intro i j hi hj hij
  have := h i j (Nat.zero_le _) hij (by simpa using hj)
  rw [lt_cf, getElem!_pos d i (by simpa using hi), getElem!_pos d j (by simpa using hj)] at this
  simpa using this
theorem swo_key : SWO (ltOf fun x y : En => cmpK x.key y.key) where
  irrefl x := by rw [lt_cf]; exact ltK_irr _
  trans x y z h1 h2 := by rw [lt_cf] at *; exact ltK_trans h1 h2
  ntrans x y z h1 h2 := by rw [lt_cf] at *; exact ltK_neg h1 h2
theorem HR.later {B : BM} {h : Nat → AObj} {w w' : World} (hr : HR B h w) (hk : ∀ b, b < w.heap.size → w'.heap[b]? = w.heap[b]?) : HR B h w' :=
  ⟨fun i => (hr.obj i).congr fun hl b n hb => hk b (by have := hr.obj i; rw [hb] at this; exact this.block hl), hr.apart, hr.zr.keep rfl (fun b a hb => hk b (hr.zr.lt hb)) hr.zr.free⟩
theorem sort_acall (hen : entersB Try.prog 47 = true)
    (hsf : ∀ (blk cap : Nat) (d : Array En) (w : World), HoldsK encE 9 w blk 0 d → blk < w.heap.size → d.size ≤ 4096 → Calls Try.prog 47 #[.slice (some ⟨blk, 0, none⟩) d.size cap, .func (.func 48) #[] #[]] w fun e w' => e = .returned (.tuple #[]) ∧ ∃ d' n os, PermIn 0 d.size d d' ∧ SortedIn (ltOf fun x y : En => cmpK x.key y.key) 0 d.size d' ∧ w' = sortWorldK encE 9 w blk 0 n d' os)
    (hsn : ∀ (p : Option Addr) (cap : Nat) (fv : Value) (w : World), Calls Try.prog 47 #[.slice p 0 cap, fv] w fun e w' => e = .returned (.tuple #[]) ∧ w' = w)
    (out : List En) (hl : out.length ≤ 4096) (hk : (out.map (·.key)).Nodup) : ACall Try.prog 47 [.sl 0 0 out.length 9 none, .fn 48 [] []] [.cells false (Re 0 out)] (Det (.tup []) [.cells false (Re 0 (sortE out))]) := by
  refine ⟨false, fun _ => hen, fun B w ra hv hr hB => ?_⟩
  obtain ⟨l⟩ := ra
  simp only [VRs] at hv
  obtain ⟨v0, r0, rfl, h0, v1, r1, rfl, h1, rfl⟩ := hv
  simp only [VR, VRs] at h1
  obtain ⟨a1, a2, rfl, ha1, ha2⟩ := h1
  have e1 : a1 = #[] := Array.toList_inj.1 ha1
  have e2 : a2 = #[] := Array.toList_inj.1 ha2
  subst e1; subst e2
  show Calls Try.prog _ _ _ _
  by_cases ho : out = []
  · subst ho
    have hv0 : ∃ q c, v0 = .slice q 0 c := by
      simp only [VR, List.length_nil] at h0
      rcases h0 with ⟨_, _, q, rfl⟩ | ⟨b, n, c, o, _, rfl, _⟩
      · exact ⟨q, 0, rfl⟩
      · exact ⟨_, c, rfl⟩
    obtain ⟨q, c, rfl⟩ := hv0
    refine (hsn q c _ w).mono ?_
    rintro e w' ⟨rfl, rfl⟩
    have hs : sortE [] = [] := by unfold sortE; exact List.mergeSort_nil
    rw [hs]
    exact ⟨.tup [], _, .tuple #[], B, rfl, ⟨rfl, rfl⟩, Nat.le_refl _, fun i _ => rfl, by simp [VR, VRs], hr, hB, Kept.refl _ _, fun i b n hi hb => .inr ⟨i, n, hi, hb⟩, ⟨fun _ _ h => h, fun _ _ h => .inl h⟩, fun i _ _ => rfl⟩
  · have hpos : 0 < out.length := List.length_pos_iff.2 ho
    simp only [VR] at h0
    rcases h0 with ⟨h0, _⟩ | ⟨b, n, c, o, hb, rfl, hlc, hn, hoc, -⟩
    · omega
    have ho0 : o = 0 := by omega
    subst ho0
    have hobj := hr.obj 0
    rw [hb] at hobj
    obtain ⟨arr, T, fz, hh, hsz, hvs, -, hfz, hone⟩ := OR.at_own (show OR B (.cells false (Re 0 out)) (some (b, n)) w from hobj)
    have hlen := re_len 0 out
    rw [re_vals] at hvs
    have htake := VRs.vals_eq hvs
    rw [List.length_map, flat_len enc_len] at htake
    have hblk : b < w.heap.size := getElem?_lt hh
    have hH : HoldsK encE 9 w b 0 out.toArray := by
      intro j hj
      rw [size_flatK] at hj
      simp only [List.size_toArray] at hj
      rw [Nat.zero_add]
      have hj' : j < arr.size := by omega
      have e3 : arr[j]? = some (flatK encE 9 out.toArray)[j]! := by
        rw [getElem!_pos _ j (by simpa using hj)]
        have h5 : (arr.toList.take (out.length * 9))[j]? = (flatK encE 9 out.toArray).toList[j]? := by rw [htake, flatK_eq]
        rw [List.getElem?_take_of_lt hj, Array.getElem?_toList, Array.getElem?_toList] at h5
        rw [h5, Array.getElem?_eq_getElem (by simpa using hj)]
      refine ⟨?_, ?_⟩
      · simp only [World.cell?, hh, Option.isSome_none, Bool.false_eq_true, if_false]
        exact e3
      · simp only [World.frozen?, hh]
        obtain ⟨f1, f2⟩ := fz
        simp only at hfz ⊢
        rw [Bool.and_eq_false_iff]
        by_cases h7 : f1 ≤ j
        · right; exact decide_eq_false (by omega)
        · left; exact decide_eq_false h7
    have hrun := hsf b c out.toArray w hH hblk (by simpa using hl)
    simp only [List.size_toArray] at hrun
    refine hrun.mono ?_
    rintro e w' ⟨rfl, d', m, os, hp, hs, rfl⟩
    have hpl := perm_list (d := out.toArray) (by simpa using hp)
    have hd' : d'.toList = sortE out := by
      refine sort_one hk (by simpa using hpl) (sorted_list ?_)
      have : d'.size = out.length := by have := hp.1; simpa using this
      rw [this]; exact hs
    have hdl : d'.toList.length = out.length := by rw [hd', sortE_len]
    have hF : (flatK encE 9 d').toList = (sortE out).flatMap encE := by rw [flatK_eq, hd']
    have hFs : (flatK encE 9 d').size = out.length * 9 := by rw [size_flatK]; simp only [Array.length_toList] at hdl; rw [hdl]
    have hb2 : (sortWorldK encE 9 w b 0 m d' os).heap[b]? = some (.cells (putCells id 0 (flatK encE 9 d') arr) T fz) := by
      unfold sortWorldK putRowK putRow
      rw [heap_grow_old _ _ (by simpa [mapBlock, Sort.ahead] using hblk)]
      simp only [mapBlock, Sort.ahead, Array.getElem?_modify, if_true, hh, Option.map_some, onCells]
    have hx2 : ∀ x, x < w.heap.size → x ≠ b → (sortWorldK encE 9 w b 0 m d' os).heap[x]? = w.heap[x]? := fun x hx hxb => by
      unfold sortWorldK putRowK putRow
      rw [heap_grow_old _ _ (by simpa [mapBlock, Sort.ahead] using hx)]
      simp only [mapBlock, Sort.ahead, Array.getElem?_modify, if_neg (Ne.symm hxb)]
    have hgs : w.heap.size ≤ (sortWorldK encE 9 w b 0 m d' os).heap.size := by
      unfold sortWorldK putRowK putRow grow
      simp [mapBlock, Sort.ahead]
    have hor : ∀ w2 : World, w2.heap[b]? = some (.cells (putCells id 0 (flatK encE 9 d') arr) T fz) → OR B (.cells false (Re 0 (sortE out))) (some (b, n)) w2 := fun w2 hw2 => by
      have hone2 : ∀ x ∈ (putCells id 0 (flatK encE 9 d') arr).toList, x.oneCell' = true := fun x hx => by
        rcases put_mem hx with h | h
        · rw [hF] at h
          obtain ⟨e, -, he⟩ := List.mem_flatMap.1 h
          exact enc_one e x he
        · exact hone x h
      have ht2 : (putCells id 0 (flatK encE 9 d') arr).toList.take (Re 0 (sortE out)).length = (sortE out).flatMap encE := by
        rw [re_len, sortE_len, Nat.zero_add, ← hFs, put_take _ _ (by omega), hF]
      refine .inr ⟨b, n, _, T, fz, rfl, hw2, by simpa [putCells] using hsz, ?_, ?_, fun _ => ⟨hfz, hone2⟩⟩
      · rw [ht2, re_vals]; exact VRs.vals _
      · exact Ones.of fun x hx => hone2 x (List.mem_of_mem_take hx)
    have hr1 : HR B (listH [.cells false (Re 0 (sortE out))]) (sortWorldK encE 9 w b 0 m d' os) := by
      have hw1 := hr.write (i := 0) (w' := mapBlock w b (putCells id 0 (flatK encE 9 d'))) (o := .cells false (Re 0 (sortE out))) rfl hb (fun x hx => by simp [mapBlock, Array.getElem?_modify, Ne.symm hx]) (hor _ (by simp [mapBlock, Array.getElem?_modify, hh, onCells]))
      have hu : upd (listH [.cells false (Re 0 out)]) 0 (.cells false (Re 0 (sortE out))) = listH [.cells false (Re 0 (sortE out))] := by
        funext j
        cases j with
        | zero => simp [upd, listH]
        | succ j => simp [upd, listH]
      rw [hu] at hw1
      refine HR.later hw1 fun x hx => ?_
      have hx' : x < w.heap.size := by simpa [mapBlock] using hx
      by_cases hxb : x = b
      · subst hxb
        rw [hb2]
        simp [mapBlock, Array.getElem?_modify, hh, onCells]
      · rw [hx2 x hx' hxb]
        simp [mapBlock, Array.getElem?_modify, Ne.symm hxb]
    refine ⟨.tup [], _, .tuple #[], B, rfl, ⟨rfl, rfl⟩, Nat.le_refl _, fun i _ => rfl, by simp [VR, VRs], hr1, hB, ⟨rfl, rfl, rfl, hgs, fun x hx hm => hx2 x hx fun e => hm ?_⟩, fun i x y hi hx => ?_, ⟨fun _ _ h => h, fun _ _ h => .inl h⟩, fun i hl ho => ?_⟩
    · subst e; exact .inr ⟨0, n, rfl, hb⟩
    · cases i with
      | zero => rw [hb] at hx; cases hx; exact .inr ⟨0, n, rfl, hb⟩
      | succ i => simp [listH, AObj.own] at hi
    · cases i with
      | zero => simp [listH, AObj.own] at ho
      | succ i => rfl
end Go.Proofs.Ytbblpmkdhdnkhaa
