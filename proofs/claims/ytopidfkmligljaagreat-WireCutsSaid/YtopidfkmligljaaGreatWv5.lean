/- The walk of WireCuts. -/
import Derived.Test.YtopidfkmligljaaGreatWu1
import Derived.Test.YtopidfkmligljaaGreatWu2
import Derived.Test.YtopidfkmligljaaGreatWu3
import Derived.Test.YtopidfkmligljaaGreatWs3
import Derived.Test.YtopidfkmligljaaGreatAb
import Derived.Test.YtopidfkmligljaaGreatWq3
import Derived.Test.YtopidfkmligljaaGreatWt3
import Derived.Test.YtopidfkmligljaaGreatWu4
namespace Go.Proofs.YtopidfkmligljaaGreat
set_option linter.unusedSimpArgs false
set_option linter.unusedVariables false
set_option maxHeartbeats 4000000
open Go Go.Am Go.RowKit Go.ChangeShapes Go.WideShapes Go.ChangeAt
set_option maxRecDepth 100000
set_option maxHeartbeats 8000000
def St.rep (a : St) : List Value := (fun n : Int => [.int .i64 n]) a.c ++ (fun n : Int => [.int .i64 n]) a.s
structure St.ok (W : World) (a : St) : Prop where
  c : (fun n : Int => IntKind.i64.min ≤ n ∧ n ≤ IntKind.i64.max) a.c
  s : (fun n : Int => IntKind.i64.min ≤ n ∧ n ≤ IntKind.i64.max) a.s
set_option maxRecDepth 100000 in
theorem rd_St {H : Type} {enc : TypeId × Value → H} {W : World} {base : Nat} {held : Bool} : Am.Rd enc Tryz.prog W base held 37 St.rep (St.ok W) := fun n cs x h => by
  obtain ⟨xs, n1, _, _, hlen, hx, hf⟩ := DataW.trod_struct Tryz.underlying37 h
  rw [show Tryz.prog.cellsOf 37 = 2 by kernel_rfl] at hlen
  have f0 : DataW.trod enc Tryz.prog W base (fun _ => true) held n1 3 ((cs.drop 0).take (Tryz.prog.cellsOf 3)) = xs[0]? := hf 0 _ rfl
  rw [show Tryz.prog.cellsOf 3 = 1 by kernel_rfl] at f0
  obtain ⟨y0, h0⟩ := at_some2 hx (by decide) f0
  obtain ⟨g0, a0, e0, w0⟩ := (rd_int Tryz.underlying3 : Am.Rd _ _ _ _ _ _ (fun n : Int => [.int .i64 n]) (fun n : Int => IntKind.i64.min ≤ n ∧ n ≤ IntKind.i64.max)) _ _ _ h0
  have f1 : DataW.trod enc Tryz.prog W base (fun _ => true) held n1 3 ((cs.drop 1).take (Tryz.prog.cellsOf 3)) = xs[1]? := hf 1 _ rfl
  rw [show Tryz.prog.cellsOf 3 = 1 by kernel_rfl] at f1
  obtain ⟨y1, h1⟩ := at_some2 hx (by decide) f1
  obtain ⟨g1, a1, e1, w1⟩ := (rd_int Tryz.underlying3 : Am.Rd _ _ _ _ _ _ (fun n : Int => [.int .i64 n]) (fun n : Int => IntKind.i64.min ≤ n ∧ n ≤ IntKind.i64.max)) _ _ _ h1
  match cs, hlen with
  | [c0, c1], _ =>
    simp [Sl.rep, St.rep] at e0 g0
    simp [Sl.rep, St.rep] at e1 g1
    exact ⟨by simp [*, Value.oneCell'], ⟨a0, a1⟩, by simp [Sl.rep, St.rep, *], ⟨w0, w1⟩⟩
def Mk.rep (a : Mk) : List Value := (St.rep) a.act ++ (fun s : ByteArray => [.string s]) a.key
structure Mk.ok (W : World) (a : Mk) : Prop where
  act : (St.ok W) a.act
  key : (fun s : ByteArray => s.size ≤ maxLen) a.key
set_option maxRecDepth 100000 in
theorem rd_Mk {H : Type} {enc : TypeId × Value → H} {W : World} {base : Nat} {held : Bool} : Am.Rd enc Tryz.prog W base held 39 Mk.rep (Mk.ok W) := fun n cs x h => by
  obtain ⟨xs, n1, _, _, hlen, hx, hf⟩ := DataW.trod_struct Tryz.underlying39 h
  rw [show Tryz.prog.cellsOf 39 = 3 by kernel_rfl] at hlen
  have f0 : DataW.trod enc Tryz.prog W base (fun _ => true) held n1 37 ((cs.drop 0).take (Tryz.prog.cellsOf 37)) = xs[0]? := hf 0 _ rfl
  rw [show Tryz.prog.cellsOf 37 = 2 by kernel_rfl] at f0
  obtain ⟨y0, h0⟩ := at_some2 hx (by decide) f0
  obtain ⟨g0, a0, e0, w0⟩ := (rd_St : Am.Rd _ _ _ _ _ _ (St.rep) (St.ok W)) _ _ _ h0
  have f1 : DataW.trod enc Tryz.prog W base (fun _ => true) held n1 9 ((cs.drop 2).take (Tryz.prog.cellsOf 9)) = xs[1]? := hf 1 _ rfl
  rw [show Tryz.prog.cellsOf 9 = 1 by kernel_rfl] at f1
  obtain ⟨y1, h1⟩ := at_some2 hx (by decide) f1
  obtain ⟨g1, a1, e1, w1⟩ := (rd_string Tryz.underlying9 : Am.Rd _ _ _ _ _ _ (fun s : ByteArray => [.string s]) (fun s : ByteArray => s.size ≤ maxLen)) _ _ _ h1
  match cs, hlen with
  | [c0, c1, c2], _ =>
    simp [Sl.rep, St.rep, Mk.rep] at e0 g0
    simp [Sl.rep, St.rep, Mk.rep] at e1 g1
    exact ⟨by simp [*, Value.oneCell'], ⟨a0, a1⟩, by simp [Sl.rep, St.rep, Mk.rep, *], ⟨w0, w1⟩⟩
def En.rep (a : En) : List Value := (fun s : ByteArray => [.string s]) a.key ++ (fun s : ByteArray => [.string s]) a.val ++ (fun b : Bool => [.bool b]) a.dead ++ (St.rep) a.st ++ (St.rep) a.act ++ (fun n : Int => [.int .i64 n]) a.keep ++ (fun n : Int => [.int .i64 n]) a.age
structure En.ok (W : World) (a : En) : Prop where
  key : (fun s : ByteArray => s.size ≤ maxLen) a.key
  val : (fun s : ByteArray => s.size ≤ maxLen) a.val
  dead : (fun _ : Bool => True) a.dead
  st : (St.ok W) a.st
  act : (St.ok W) a.act
  keep : (fun n : Int => IntKind.i64.min ≤ n ∧ n ≤ IntKind.i64.max) a.keep
  age : (fun n : Int => IntKind.i64.min ≤ n ∧ n ≤ IntKind.i64.max) a.age
set_option maxRecDepth 100000 in
theorem rd_En {H : Type} {enc : TypeId × Value → H} {W : World} {base : Nat} {held : Bool} : Am.Rd enc Tryz.prog W base held 91 En.rep (En.ok W) := fun n cs x h => by
  obtain ⟨xs, n1, _, _, hlen, hx, hf⟩ := DataW.trod_struct Tryz.underlying91 h
  rw [show Tryz.prog.cellsOf 91 = 9 by kernel_rfl] at hlen
  have f0 : DataW.trod enc Tryz.prog W base (fun _ => true) held n1 9 ((cs.drop 0).take (Tryz.prog.cellsOf 9)) = xs[0]? := hf 0 _ rfl
  rw [show Tryz.prog.cellsOf 9 = 1 by kernel_rfl] at f0
  obtain ⟨y0, h0⟩ := at_some2 hx (by decide) f0
  obtain ⟨g0, a0, e0, w0⟩ := (rd_string Tryz.underlying9 : Am.Rd _ _ _ _ _ _ (fun s : ByteArray => [.string s]) (fun s : ByteArray => s.size ≤ maxLen)) _ _ _ h0
  have f1 : DataW.trod enc Tryz.prog W base (fun _ => true) held n1 9 ((cs.drop 1).take (Tryz.prog.cellsOf 9)) = xs[1]? := hf 1 _ rfl
  rw [show Tryz.prog.cellsOf 9 = 1 by kernel_rfl] at f1
  obtain ⟨y1, h1⟩ := at_some2 hx (by decide) f1
  obtain ⟨g1, a1, e1, w1⟩ := (rd_string Tryz.underlying9 : Am.Rd _ _ _ _ _ _ (fun s : ByteArray => [.string s]) (fun s : ByteArray => s.size ≤ maxLen)) _ _ _ h1
  have f2 : DataW.trod enc Tryz.prog W base (fun _ => true) held n1 4 ((cs.drop 2).take (Tryz.prog.cellsOf 4)) = xs[2]? := hf 2 _ rfl
  rw [show Tryz.prog.cellsOf 4 = 1 by kernel_rfl] at f2
  obtain ⟨y2, h2⟩ := at_some2 hx (by decide) f2
  obtain ⟨g2, a2, e2, w2⟩ := (rd_bool Tryz.underlying4 : Am.Rd _ _ _ _ _ _ (fun b : Bool => [.bool b]) (fun _ : Bool => True)) _ _ _ h2
  have f3 : DataW.trod enc Tryz.prog W base (fun _ => true) held n1 37 ((cs.drop 3).take (Tryz.prog.cellsOf 37)) = xs[3]? := hf 3 _ rfl
  rw [show Tryz.prog.cellsOf 37 = 2 by kernel_rfl] at f3
  obtain ⟨y3, h3⟩ := at_some2 hx (by decide) f3
  obtain ⟨g3, a3, e3, w3⟩ := (rd_St : Am.Rd _ _ _ _ _ _ (St.rep) (St.ok W)) _ _ _ h3
  have f4 : DataW.trod enc Tryz.prog W base (fun _ => true) held n1 37 ((cs.drop 5).take (Tryz.prog.cellsOf 37)) = xs[4]? := hf 4 _ rfl
  rw [show Tryz.prog.cellsOf 37 = 2 by kernel_rfl] at f4
  obtain ⟨y4, h4⟩ := at_some2 hx (by decide) f4
  obtain ⟨g4, a4, e4, w4⟩ := (rd_St : Am.Rd _ _ _ _ _ _ (St.rep) (St.ok W)) _ _ _ h4
  have f5 : DataW.trod enc Tryz.prog W base (fun _ => true) held n1 3 ((cs.drop 7).take (Tryz.prog.cellsOf 3)) = xs[5]? := hf 5 _ rfl
  rw [show Tryz.prog.cellsOf 3 = 1 by kernel_rfl] at f5
  obtain ⟨y5, h5⟩ := at_some2 hx (by decide) f5
  obtain ⟨g5, a5, e5, w5⟩ := (rd_int Tryz.underlying3 : Am.Rd _ _ _ _ _ _ (fun n : Int => [.int .i64 n]) (fun n : Int => IntKind.i64.min ≤ n ∧ n ≤ IntKind.i64.max)) _ _ _ h5
  have f6 : DataW.trod enc Tryz.prog W base (fun _ => true) held n1 3 ((cs.drop 8).take (Tryz.prog.cellsOf 3)) = xs[6]? := hf 6 _ rfl
  rw [show Tryz.prog.cellsOf 3 = 1 by kernel_rfl] at f6
  obtain ⟨y6, h6⟩ := at_some2 hx (by decide) f6
  obtain ⟨g6, a6, e6, w6⟩ := (rd_int Tryz.underlying3 : Am.Rd _ _ _ _ _ _ (fun n : Int => [.int .i64 n]) (fun n : Int => IntKind.i64.min ≤ n ∧ n ≤ IntKind.i64.max)) _ _ _ h6
  match cs, hlen with
  | [c0, c1, c2, c3, c4, c5, c6, c7, c8], _ =>
    simp [Sl.rep, St.rep, Mk.rep, En.rep] at e0 g0
    simp [Sl.rep, St.rep, Mk.rep, En.rep] at e1 g1
    simp [Sl.rep, St.rep, Mk.rep, En.rep] at e2 g2
    simp [Sl.rep, St.rep, Mk.rep, En.rep] at e3 g3
    simp [Sl.rep, St.rep, Mk.rep, En.rep] at e4 g4
    simp [Sl.rep, St.rep, Mk.rep, En.rep] at e5 g5
    simp [Sl.rep, St.rep, Mk.rep, En.rep] at e6 g6
    exact ⟨by simp [*, Value.oneCell'], ⟨a0, a1, a2, a3, a4, a5, a6⟩, by simp [Sl.rep, St.rep, Mk.rep, En.rep, *], ⟨w0, w1, w2, w3, w4, w5, w6⟩⟩
structure WmS where
  kind : Int
  peer : Int
  hops : Int
  high : Bool
  peers : Sl (Int)
  num : Int
  sum : Int
  mark : Mk
  marks : Sl (Mk)
  ents : Sl (En)
def WmS.rep (a : WmS) : List Value := (fun n : Int => [.int .i64 n]) a.kind ++ (fun n : Int => [.int .i64 n]) a.peer ++ (fun n : Int => [.int .i64 n]) a.hops ++ (fun b : Bool => [.bool b]) a.high ++ (fun s : Sl (Int) => s.rep) a.peers ++ (fun n : Int => [.int .i64 n]) a.num ++ (fun n : Int => [.int .u64 n]) a.sum ++ (Mk.rep) a.mark ++ (fun s : Sl (Mk) => s.rep) a.marks ++ (fun s : Sl (En) => s.rep) a.ents
structure WmS.ok (W : World) (a : WmS) : Prop where
  kind : (fun n : Int => IntKind.i64.min ≤ n ∧ n ≤ IntKind.i64.max) a.kind
  peer : (fun n : Int => IntKind.i64.min ≤ n ∧ n ≤ IntKind.i64.max) a.peer
  hops : (fun n : Int => IntKind.i64.min ≤ n ∧ n ≤ IntKind.i64.max) a.hops
  high : (fun _ : Bool => True) a.high
  peers : (Sl.ok W 1 (fun n : Int => [.int .i64 n]) (fun n : Int => IntKind.i64.min ≤ n ∧ n ≤ IntKind.i64.max)) a.peers
  num : (fun n : Int => IntKind.i64.min ≤ n ∧ n ≤ IntKind.i64.max) a.num
  sum : (fun n : Int => IntKind.u64.min ≤ n ∧ n ≤ IntKind.u64.max) a.sum
  mark : (Mk.ok W) a.mark
  marks : (Sl.ok W 3 (Mk.rep) (Mk.ok W)) a.marks
  ents : (Sl.ok W 9 (En.rep) (En.ok W)) a.ents
set_option maxRecDepth 100000 in
theorem rd_WmS {H : Type} {enc : TypeId × Value → H} {W : World} {base : Nat} {held : Bool} : Am.Rd enc Tryz.prog W base held 43 WmS.rep (WmS.ok W) := fun n cs x h => by
  obtain ⟨xs, n1, _, _, hlen, hx, hf⟩ := DataW.trod_struct Tryz.underlying43 h
  rw [show Tryz.prog.cellsOf 43 = 12 by kernel_rfl] at hlen
  have f0 : DataW.trod enc Tryz.prog W base (fun _ => true) held n1 3 ((cs.drop 0).take (Tryz.prog.cellsOf 3)) = xs[0]? := hf 0 _ rfl
  rw [show Tryz.prog.cellsOf 3 = 1 by kernel_rfl] at f0
  obtain ⟨y0, h0⟩ := at_some2 hx (by decide) f0
  obtain ⟨g0, a0, e0, w0⟩ := (rd_int Tryz.underlying3 : Am.Rd _ _ _ _ _ _ (fun n : Int => [.int .i64 n]) (fun n : Int => IntKind.i64.min ≤ n ∧ n ≤ IntKind.i64.max)) _ _ _ h0
  have f1 : DataW.trod enc Tryz.prog W base (fun _ => true) held n1 3 ((cs.drop 1).take (Tryz.prog.cellsOf 3)) = xs[1]? := hf 1 _ rfl
  rw [show Tryz.prog.cellsOf 3 = 1 by kernel_rfl] at f1
  obtain ⟨y1, h1⟩ := at_some2 hx (by decide) f1
  obtain ⟨g1, a1, e1, w1⟩ := (rd_int Tryz.underlying3 : Am.Rd _ _ _ _ _ _ (fun n : Int => [.int .i64 n]) (fun n : Int => IntKind.i64.min ≤ n ∧ n ≤ IntKind.i64.max)) _ _ _ h1
  have f2 : DataW.trod enc Tryz.prog W base (fun _ => true) held n1 3 ((cs.drop 2).take (Tryz.prog.cellsOf 3)) = xs[2]? := hf 2 _ rfl
  rw [show Tryz.prog.cellsOf 3 = 1 by kernel_rfl] at f2
  obtain ⟨y2, h2⟩ := at_some2 hx (by decide) f2
  obtain ⟨g2, a2, e2, w2⟩ := (rd_int Tryz.underlying3 : Am.Rd _ _ _ _ _ _ (fun n : Int => [.int .i64 n]) (fun n : Int => IntKind.i64.min ≤ n ∧ n ≤ IntKind.i64.max)) _ _ _ h2
  have f3 : DataW.trod enc Tryz.prog W base (fun _ => true) held n1 4 ((cs.drop 3).take (Tryz.prog.cellsOf 4)) = xs[3]? := hf 3 _ rfl
  rw [show Tryz.prog.cellsOf 4 = 1 by kernel_rfl] at f3
  obtain ⟨y3, h3⟩ := at_some2 hx (by decide) f3
  obtain ⟨g3, a3, e3, w3⟩ := (rd_bool Tryz.underlying4 : Am.Rd _ _ _ _ _ _ (fun b : Bool => [.bool b]) (fun _ : Bool => True)) _ _ _ h3
  have f4 : DataW.trod enc Tryz.prog W base (fun _ => true) held n1 24 ((cs.drop 4).take (Tryz.prog.cellsOf 24)) = xs[4]? := hf 4 _ rfl
  rw [show Tryz.prog.cellsOf 24 = 1 by kernel_rfl] at f4
  obtain ⟨y4, h4⟩ := at_some2 hx (by decide) f4
  obtain ⟨g4, a4, e4, w4⟩ := (rd_slice Tryz.underlying24 (show Tryz.prog.cellsOf 3 = 1 by kernel_rfl) (by decide) (rd_int Tryz.underlying3) : Am.Rd _ _ _ _ _ _ (fun s : Sl (Int) => s.rep) (Sl.ok W 1 (fun n : Int => [.int .i64 n]) (fun n : Int => IntKind.i64.min ≤ n ∧ n ≤ IntKind.i64.max))) _ _ _ h4
  have f5 : DataW.trod enc Tryz.prog W base (fun _ => true) held n1 3 ((cs.drop 5).take (Tryz.prog.cellsOf 3)) = xs[5]? := hf 5 _ rfl
  rw [show Tryz.prog.cellsOf 3 = 1 by kernel_rfl] at f5
  obtain ⟨y5, h5⟩ := at_some2 hx (by decide) f5
  obtain ⟨g5, a5, e5, w5⟩ := (rd_int Tryz.underlying3 : Am.Rd _ _ _ _ _ _ (fun n : Int => [.int .i64 n]) (fun n : Int => IntKind.i64.min ≤ n ∧ n ≤ IntKind.i64.max)) _ _ _ h5
  have f6 : DataW.trod enc Tryz.prog W base (fun _ => true) held n1 25 ((cs.drop 6).take (Tryz.prog.cellsOf 25)) = xs[6]? := hf 6 _ rfl
  rw [show Tryz.prog.cellsOf 25 = 1 by kernel_rfl] at f6
  obtain ⟨y6, h6⟩ := at_some2 hx (by decide) f6
  obtain ⟨g6, a6, e6, w6⟩ := (rd_int Tryz.underlying25 : Am.Rd _ _ _ _ _ _ (fun n : Int => [.int .u64 n]) (fun n : Int => IntKind.u64.min ≤ n ∧ n ≤ IntKind.u64.max)) _ _ _ h6
  have f7 : DataW.trod enc Tryz.prog W base (fun _ => true) held n1 39 ((cs.drop 7).take (Tryz.prog.cellsOf 39)) = xs[7]? := hf 7 _ rfl
  rw [show Tryz.prog.cellsOf 39 = 3 by kernel_rfl] at f7
  obtain ⟨y7, h7⟩ := at_some2 hx (by decide) f7
  obtain ⟨g7, a7, e7, w7⟩ := (rd_Mk : Am.Rd _ _ _ _ _ _ (Mk.rep) (Mk.ok W)) _ _ _ h7
  have f8 : DataW.trod enc Tryz.prog W base (fun _ => true) held n1 40 ((cs.drop 10).take (Tryz.prog.cellsOf 40)) = xs[8]? := hf 8 _ rfl
  rw [show Tryz.prog.cellsOf 40 = 1 by kernel_rfl] at f8
  obtain ⟨y8, h8⟩ := at_some2 hx (by decide) f8
  obtain ⟨g8, a8, e8, w8⟩ := (rd_slice Tryz.underlying40 (show Tryz.prog.cellsOf 39 = 3 by kernel_rfl) (by decide) (rd_Mk) : Am.Rd _ _ _ _ _ _ (fun s : Sl (Mk) => s.rep) (Sl.ok W 3 (Mk.rep) (Mk.ok W))) _ _ _ h8
  have f9 : DataW.trod enc Tryz.prog W base (fun _ => true) held n1 41 ((cs.drop 11).take (Tryz.prog.cellsOf 41)) = xs[9]? := hf 9 _ rfl
  rw [show Tryz.prog.cellsOf 41 = 1 by kernel_rfl] at f9
  obtain ⟨y9, h9⟩ := at_some2 hx (by decide) f9
  obtain ⟨g9, a9, e9, w9⟩ := (rd_slice Tryz.underlying41 (show Tryz.prog.cellsOf 91 = 9 by kernel_rfl) (by decide) (rd_En) : Am.Rd _ _ _ _ _ _ (fun s : Sl (En) => s.rep) (Sl.ok W 9 (En.rep) (En.ok W))) _ _ _ h9
  match cs, hlen with
  | [c0, c1, c2, c3, c4, c5, c6, c7, c8, c9, c10, c11], _ =>
    simp [Sl.rep, St.rep, Mk.rep, En.rep, WmS.rep] at e0 g0
    simp [Sl.rep, St.rep, Mk.rep, En.rep, WmS.rep] at e1 g1
    simp [Sl.rep, St.rep, Mk.rep, En.rep, WmS.rep] at e2 g2
    simp [Sl.rep, St.rep, Mk.rep, En.rep, WmS.rep] at e3 g3
    simp [Sl.rep, St.rep, Mk.rep, En.rep, WmS.rep] at e4 g4
    simp [Sl.rep, St.rep, Mk.rep, En.rep, WmS.rep] at e5 g5
    simp [Sl.rep, St.rep, Mk.rep, En.rep, WmS.rep] at e6 g6
    simp [Sl.rep, St.rep, Mk.rep, En.rep, WmS.rep] at e7 g7
    simp [Sl.rep, St.rep, Mk.rep, En.rep, WmS.rep] at e8 g8
    simp [Sl.rep, St.rep, Mk.rep, En.rep, WmS.rep] at e9 g9
    exact ⟨by simp [*, Value.oneCell'], ⟨a0, a1, a2, a3, a4, a5, a6, a7, a8, a9⟩, by simp [Sl.rep, St.rep, Mk.rep, En.rep, WmS.rep, *], ⟨w0, w1, w2, w3, w4, w5, w6, w7, w8, w9⟩⟩
def WmS.m (x : WmS) : Wm := ⟨x.kind, x.peer, x.hops, x.high, x.peers.l, x.num, x.sum, x.mark, x.marks.l, x.ents.l⟩
/- quidnunc/quidnunclaw16.WireCuts -/
noncomputable def c5_1 : ACode := .region false [⟨some 3, .box 0, [.t 0], none⟩,
  ⟨some 6, .move, [.c (.val (.bool false))], none⟩] [] [] [1, 2, 3] true [] []
noncomputable def c5_4 : ACode := .region false [⟨some 13, .call 7, [], none⟩,
  ⟨some 14, .un .not, [.t 13], none⟩,
  ⟨some 15, .move, [.t 14], none⟩,
  ⟨some 16, .load true 12, [.t 3], some (some 15, false)⟩,
  ⟨some 17, .call 14, [.t 16], some (some 15, false)⟩,
  ⟨some 18, .un .not, [.t 17], some (some 15, false)⟩,
  ⟨some 19, .pick, [.t 15, .c (.val (.bool true)), .t 18], none⟩,
  ⟨some 20, .move, [.t 19], none⟩,
  ⟨some 21, .load true 12, [.t 3], some (some 20, false)⟩,
  ⟨some 22, .call 15, [.t 21], some (some 20, false)⟩,
  ⟨some 23, .bin .neq, [.t 22, .c (.val (.int .i64 0))], some (some 20, false)⟩,
  ⟨some 24, .pick, [.t 20, .c (.val (.bool true)), .t 23], none⟩,
  ⟨some 25, .move, [.t 24], none⟩,
  ⟨some 26, .move, [.t 2], some (some 25, false)⟩,
  ⟨some 27, .len, [.t 26], some (some 25, false)⟩,
  ⟨some 28, .bin .gtr, [.t 27, .c (.val (.int .i64 40))], some (some 25, false)⟩,
  ⟨some 29, .pick, [.t 25, .c (.val (.bool true)), .t 28], none⟩] [] [] [1, 2, 3, 29] true [] []
noncomputable def c5_7 : ACode := .region false [⟨some 30, .call 7, [], none⟩,
  ⟨some 6, .move, [.t 30], none⟩] [] [] [6] true [] []
noncomputable def c5_6 : ACode := .seq c5_7 .ret
noncomputable def c5_5 : ACode := .cond (.t 29) c5_6 .skip
noncomputable def c5_3 : ACode := .seq c5_4 c5_5
noncomputable def c5_9 : ACode := .region false [⟨some 32, .load true 12, [.t 3], none⟩,
  ⟨some 33, .call 16, [.t 32], none⟩,
  ⟨some 34, .call 12, [.t 33], none⟩,
  ⟨some 31, .move, [.t 34], none⟩,
  ⟨some 35, .ext 0, [.t 31], none⟩,
  ⟨some 36, .ext 1, [.t 31], none⟩,
  ⟨some 7, .move, [.t 35], none⟩,
  ⟨some 8, .move, [.t 36], none⟩] [] [] [1, 2, 3, 7, 8] true [] []
noncomputable def c5_12 : ACode := .region false [⟨some 37, .move, [.t 8], none⟩,
  ⟨some 38, .bin .neq, [.t 37, .c (.val (.int .i64 0))], none⟩] [] [] [1, 2, 3, 7, 38] false [] []
noncomputable def c5_15 : ACode := .region false [⟨some 6, .move, [.c (.val (.bool false))], none⟩] [] [] [6] false [] []
noncomputable def c5_14 : ACode := .seq c5_15 .ret
noncomputable def c5_13 : ACode := .cond (.t 38) c5_14 .skip
noncomputable def c5_11 : ACode := .seq c5_12 c5_13
noncomputable def c5_18 : ACode := .region false [⟨some 39, .move, [.t 7], none⟩,
  ⟨some 40, .len, [.t 39], none⟩,
  ⟨some 41, .bin .gtr, [.t 40, .c (.val (.int .i64 0))], none⟩] [] [] [1, 2, 3, 7, 41] false [] []
noncomputable def c5_21 : ACode := .region true [⟨some 43, .addr 0, [.t 3], none⟩,
  ⟨some 44, .load false 1, [.t 43], none⟩,
  ⟨some 45, .move, [.t 7], none⟩,
  ⟨some 46, .move, [.t 1], none⟩,
  ⟨some 47, .conv .i64, [.t 46], none⟩,
  ⟨some 48, .move, [.t 7], none⟩,
  ⟨some 49, .len, [.t 48], none⟩,
  ⟨some 50, .bin .rem, [.t 47, .t 49], none⟩,
  ⟨some 51, .slS 1 false true false, [.t 45, .t 50], none⟩,
  ⟨some 52, .call 8, [.t 44, .t 51], none⟩,
  ⟨some 42, .move, [.t 52], none⟩,
  ⟨some 53, .ext 0, [.t 42], none⟩,
  ⟨some 54, .ext 1, [.t 42], none⟩,
  ⟨some 9, .alloc [(.int .i64 0), (.int .i64 0), (.int .i64 0), (.bool false), (.slice none 0 0), (.int .i64 0), (.int .u64 0), (.int .i64 0), (.int .i64 0), (.string ⟨#[]⟩), (.slice none 0 0), (.slice none 0 0)], [], none⟩,
  ⟨none, .store 12, [.t 9, .t 53], none⟩,
  ⟨some 10, .move, [.t 54], none⟩] [] [(9, 13)] [2, 3, 7, 9, 10] true [] []
noncomputable def c5_23 : ACode := .region false [⟨some 55, .move, [.t 10], none⟩,
  ⟨some 56, .bin .neq, [.t 55, .c (.val (.int .i64 6))], none⟩,
  ⟨some 57, .move, [.t 56], none⟩,
  ⟨some 58, .load true 12, [.t 9], some (some 57, false)⟩,
  ⟨some 59, .call 11, [.t 58], some (some 57, false)⟩,
  ⟨some 60, .build [(.int .i64 0), (.int .i64 0), (.int .i64 0), (.bool false), (.slice none 0 0), (.int .i64 0), (.int .u64 0), (.int .i64 0), (.int .i64 0), (.string ⟨#[]⟩), (.slice none 0 0), (.slice none 0 0)] [], [], some (some 57, false)⟩,
  ⟨some 61, .call 10, [.t 59, .t 60], some (some 57, false)⟩,
  ⟨some 62, .un .not, [.t 61], some (some 57, false)⟩,
  ⟨some 63, .pick, [.t 57, .c (.val (.bool true)), .t 62], none⟩] [] [] [2, 3, 7, 63] true [] []
noncomputable def c5_26 : ACode := .region false [⟨some 6, .move, [.c (.val (.bool false))], none⟩] [] [] [6] false [] []
noncomputable def c5_25 : ACode := .seq c5_26 .ret
noncomputable def c5_24 : ACode := .cond (.t 63) c5_25 .skip
noncomputable def c5_22 : ACode := .seq c5_23 c5_24
noncomputable def c5_20 : ACode := .seq c5_21 c5_22
noncomputable def c5_19 : ACode := .cond (.t 41) c5_20 .skip
noncomputable def c5_17 : ACode := .seq c5_18 c5_19
noncomputable def c5_28 : ACode := .region true [⟨some 65, .addr 0, [.t 3], none⟩,
  ⟨some 66, .load false 1, [.t 65], none⟩,
  ⟨some 67, .buildSl 1 0 [(.int .u8 0)] [], [], none⟩,
  ⟨some 68, .move, [.t 7], none⟩,
  ⟨some 69, .append 1 1 false, [.t 67, .t 68], none⟩,
  ⟨some 70, .move, [.t 2], none⟩,
  ⟨some 71, .append 1 1 false, [.t 69, .t 70], none⟩,
  ⟨some 72, .call 8, [.t 66, .t 71], none⟩,
  ⟨some 64, .move, [.t 72], none⟩,
  ⟨some 73, .ext 0, [.t 64], none⟩,
  ⟨some 74, .ext 1, [.t 64], none⟩,
  ⟨some 11, .alloc [(.int .i64 0), (.int .i64 0), (.int .i64 0), (.bool false), (.slice none 0 0), (.int .i64 0), (.int .u64 0), (.int .i64 0), (.int .i64 0), (.string ⟨#[]⟩), (.slice none 0 0), (.slice none 0 0)], [], none⟩,
  ⟨none, .store 12, [.t 11, .t 73], none⟩,
  ⟨some 12, .move, [.t 74], none⟩] [] [(4, 11), (6, 11), (7, 11)] [2, 3, 11, 12] true [] []
noncomputable def c5_31 : ACode := .region false [⟨some 75, .move, [.t 2], none⟩,
  ⟨some 76, .len, [.t 75], none⟩,
  ⟨some 77, .bin .eql, [.t 76, .c (.val (.int .i64 0))], none⟩] [] [] [3, 11, 12, 77] false [] []
noncomputable def c5_34 : ACode := .region true [⟨some 78, .move, [.t 12], none⟩,
  ⟨some 79, .bin .eql, [.t 78, .c (.val (.int .i64 0))], none⟩,
  ⟨some 80, .move, [.t 79], none⟩,
  ⟨some 81, .load true 12, [.t 11], some (some 80, true)⟩,
  ⟨some 82, .call 11, [.t 81], some (some 80, true)⟩,
  ⟨some 83, .load true 12, [.t 3], some (some 80, true)⟩,
  ⟨some 84, .call 10, [.t 82, .t 83], some (some 80, true)⟩,
  ⟨some 85, .pick, [.t 80, .t 84, .c (.val (.bool false))], none⟩,
  ⟨some 6, .move, [.t 85], none⟩] [] [] [6] true [] []
noncomputable def c5_33 : ACode := .seq c5_34 .ret
noncomputable def c5_32 : ACode := .cond (.t 77) c5_33 .skip
noncomputable def c5_30 : ACode := .seq c5_31 c5_32
noncomputable def c5_36 : ACode := .region false [⟨some 86, .move, [.t 12], none⟩,
  ⟨some 87, .bin .eql, [.t 86, .c (.val (.int .i64 4))], none⟩,
  ⟨some 88, .move, [.t 87], none⟩,
  ⟨some 89, .load true 12, [.t 11], some (some 88, true)⟩,
  ⟨some 90, .call 11, [.t 89], some (some 88, true)⟩,
  ⟨some 91, .build [(.int .i64 0), (.int .i64 0), (.int .i64 0), (.bool false), (.slice none 0 0), (.int .i64 0), (.int .u64 0), (.int .i64 0), (.int .i64 0), (.string ⟨#[]⟩), (.slice none 0 0), (.slice none 0 0)] [], [], some (some 88, true)⟩,
  ⟨some 92, .call 10, [.t 90, .t 91], some (some 88, true)⟩,
  ⟨some 93, .pick, [.t 88, .t 92, .c (.val (.bool false))], none⟩,
  ⟨some 6, .move, [.t 93], none⟩] [] [] [6] true [] []
noncomputable def c5_35 : ACode := .seq c5_36 .ret
noncomputable def c5_29 : ACode := .seq c5_30 c5_35
noncomputable def c5_27 : ACode := .seq c5_28 c5_29
noncomputable def c5_16 : ACode := .seq c5_17 c5_27
noncomputable def c5_10 : ACode := .seq c5_11 c5_16
noncomputable def c5_8 : ACode := .seq c5_9 c5_10
noncomputable def c5_2 : ACode := .seq c5_3 c5_8
noncomputable def c5_0 : ACode := .seq c5_1 c5_2
noncomputable def code5 : Code := (Tryz.f5.body).getD .skip
theorem c5_ok : compC Tryz.prog 94 code5 = some (strip c5_0) := by kernel_rfl
theorem res5_ok : Tryz.f5.results.toList.mapM (resC Tryz.prog) = some [(6, none)] := by kernel_rfl
theorem wcuts_main (W : World) (m : Wm) (ad1 ad2 ad3 ad : Option Addr) (of1 ca1 of2 ca2 of3 ca3 off cap : Nat) (R : List Int) (at1 : Int) (hsum : sumR m)
    (hl : m.peers.length ≤ 9223372036854775807 ∧ m.marks.length ≤ 9223372036854775807 ∧ m.ents.length ≤ 9223372036854775807)
    (hz1 : Fz W ad1 m.peers.length ca1 1 of1 (m.peers.flatMap fun n : Int => [.int .i64 n])) (hz2 : Fz W ad2 m.marks.length ca2 3 of2 (m.marks.flatMap Mk.rep)) (hz3 : Fz W ad3 m.ents.length ca3 9 of3 (m.ents.flatMap En.rep))
    (hz : Fz W ad R.length cap 1 off (R.flatMap fun n : Int => [.int .u8 n])) (hb : bytesB R) (hu1 : 0 ≤ at1) (hu2 : at1 ≤ 65535) :
    Calls Tryz.prog 5 #[.agg #[.int .i64 m.kind, .int .i64 m.peer, .int .i64 m.hops, .bool m.high, .slice ad1 m.peers.length ca1, .int .i64 m.num, .int .u64 m.sum, .int .i64 m.mark.act.c, .int .i64 m.mark.act.s, .string m.mark.key, .slice ad2 m.marks.length ca2, .slice ad3 m.ents.length ca3], .int .u16 at1, .slice ad R.length cap] W fun e W' => e = .returned (.bool true) ∧ Below W.heap.size W W' := by
  have sp := speaks16
  have hi := ri_ren
  have hm := rm_ren
  have he := re_ren
  have f1 := few16_any m of1 of2 of3 hl
  refine top_call c5_ok Tryz.func5 rfl Tryz.ntmps5 res5_ok [ .agg [I m.kind, I m.peer, I m.hops, Bo m.high, .val (.slice ad1 m.peers.length ca1), I m.num, U64 m.sum, I m.mark.act.c, I m.mark.act.s, Str m.mark.key, .val (.slice ad2 m.marks.length ca2), .val (.slice ad3 m.ents.length ca3)], .val (.int .u16 at1), .val (.slice ad R.length cap)] (by simp) (by (repeat' (first | exact VRs_nil' _ | exact VR_val' _ _ | (refine VRs_cons' ?_ ?_) | (refine VR_agg' (by first | rfl | assumption) ?_; first | assumption | simp [Value.oneCell', St.rep, Mk.rep, En.rep, WmS.rep])))) ?_; try simp (maxSteps := 9999999) (disch := omega) only [go_sem]
  refine AWpA.thawA 0 4 (fun n : Int => [I n]) hz1 (fun _ => rfl) rfl rfl ?_
  simp only [List.set]
  refine AWpA.thawA 0 10 MkL hz2 (fun _ => rfl) rfl rfl ?_
  simp only [List.set]
  refine AWpA.thawA 0 11 EnL hz3 (fun _ => rfl) rfl rfl ?_
  simp only [List.set]
  refine AWpA.thawT 2 (fun n : Int => [.val (.int .u8 n)]) hz (fun _ => rfl) rfl ?_
  generalize hP : rowsC off (fun n : Int => [.val (.int .u8 n)]) R = P at *
  cases hf : fewB m with
  | false =>
    rw [hf] at f1
    (try simp (maxSteps := 9999999) (disch := omega) only [go_sem])
    (have k9 := And.intro @hi (And.intro @hm (And.intro @he (k0))); (repeat' (first | refine AWpA.seq ?_ | refine AWpA.block ?_ | (with_reducible refine CondP.tt ?_) | (with_reducible refine CondP.ff ?_) | refine AWpA.cg ?_ | ((first | refine AWpA.rg ?_ | refine AWpA.dg [] [] follows ?_ | refine TailK.tg ?_ | refine AWpA.skip ?_ | refine AWpA.exit ?_ | refine AWpA.ret ?_ | (with_reducible refine ARoundsA.succ ?_) | ((first | refine Runs.gkt (fun h9 => ?_) | refine Runs.gkf (fun h9 => ?_) | refine Runs.gnt (fun h9 => ?_) | refine Runs.gnf (fun h9 => ?_) | refine CondP.gt (fun h9 => ?_) | refine CondP.gf (fun h9 => ?_) | refine CondP.gnt (fun h9 => ?_) | refine CondP.gnf (fun h9 => ?_)); (try simp only [h9]); clear h9) | refine CallG.pg [] (sp) ?_ | refine CallG.pg [0, 1, 2] (f1) ?_ | refine CallG.dg [] (sp) ?_ | refine CallG.dg [0, 1, 2] (f1) ?_); (try simp (maxSteps := 9999999) (disch := omega) only [go_sem, k9]); (try refine cnd ?_)) | ((first | refine CondP.split (fun hif => ?_) (fun hif => ?_) | refine Runs.part (fun hif => ?_) (fun hif => ?_)) <;> ((try simp only [hif]); (try simp only [BL] at hif); (try (have h9 : _ = true := hif; simp only [h9])); (try (have h9 : _ = false := hif; simp only [h9])); (try simp (maxSteps := 9999999) (disch := omega) only [go_sem, k9]); (try refine cnd ?_); (try (exfalso; omega; done)))))); (all_goals (try clear k9)))
    all_goals (refine TopPost.of (by first | exact .inl rfl | exact .inr rfl) (by (try simp (maxSteps := 9999999) (disch := omega) only [go_sem]); rfl) ?_; (try simp (maxSteps := 9999999) (disch := omega) only [go_sem]); (try (first | trivial | decide | (simp; done))))
  | true =>
    rw [hf] at f1
    obtain ⟨l1, l2, l3⟩ := fewB_len hf
    have g1 := rgood16_any m of1 of2 of3 (by omega)
    by_cases hg : goodW m = 0
    case neg =>
      have k1 : (goodW m != 0) = true := by simpa using hg
      generalize goodW m = q at *
      (try simp (maxSteps := 9999999) (disch := omega) only [go_sem])
      (have k9 := And.intro @hi (And.intro @hm (And.intro @he (And.intro @k1 (k0)))); (repeat' (first | refine AWpA.seq ?_ | refine AWpA.block ?_ | (with_reducible refine CondP.tt ?_) | (with_reducible refine CondP.ff ?_) | refine AWpA.cg ?_ | ((first | refine AWpA.rg ?_ | refine AWpA.dg [] [] follows ?_ | refine TailK.tg ?_ | refine AWpA.skip ?_ | refine AWpA.exit ?_ | refine AWpA.ret ?_ | (with_reducible refine ARoundsA.succ ?_) | ((first | refine Runs.gkt (fun h9 => ?_) | refine Runs.gkf (fun h9 => ?_) | refine Runs.gnt (fun h9 => ?_) | refine Runs.gnf (fun h9 => ?_) | refine CondP.gt (fun h9 => ?_) | refine CondP.gf (fun h9 => ?_) | refine CondP.gnt (fun h9 => ?_) | refine CondP.gnf (fun h9 => ?_)); (try simp only [h9]); clear h9) | refine CallG.pg [] (sp) ?_ | refine CallG.pg [0, 1, 2] (f1) ?_ | refine CallG.pg [0, 1, 2] (g1) ?_ | refine CallG.dg [] (sp) ?_ | refine CallG.dg [0, 1, 2] (f1) ?_ | refine CallG.dg [0, 1, 2] (g1) ?_); (try simp (maxSteps := 9999999) (disch := omega) only [go_sem, k9]); (try refine cnd ?_)) | ((first | refine CondP.split (fun hif => ?_) (fun hif => ?_) | refine Runs.part (fun hif => ?_) (fun hif => ?_)) <;> ((try simp only [hif]); (try simp only [BL] at hif); (try (have h9 : _ = true := hif; simp only [h9])); (try (have h9 : _ = false := hif; simp only [h9])); (try simp (maxSteps := 9999999) (disch := omega) only [go_sem, k9]); (try refine cnd ?_); (try (exfalso; omega; done)))))); (all_goals (try clear k9)))
      all_goals (refine TopPost.of (by first | exact .inl rfl | exact .inr rfl) (by (try simp (maxSteps := 9999999) (disch := omega) only [go_sem]); rfl) ?_; (try simp (maxSteps := 9999999) (disch := omega) only [go_sem]); (try (first | trivial | decide | (simp; done))))
    rw [hg] at g1
    by_cases hR : 40 < R.length
    · have k2 : ((40 : Int) < (R.length : Int)) = True := eq_true (by omega)
      (try simp (maxSteps := 9999999) (disch := omega) only [go_sem])
      (have k9 := And.intro @hi (And.intro @hm (And.intro @he (And.intro @k2 (k0)))); (repeat' (first | refine AWpA.seq ?_ | refine AWpA.block ?_ | (with_reducible refine CondP.tt ?_) | (with_reducible refine CondP.ff ?_) | refine AWpA.cg ?_ | ((first | refine AWpA.rg ?_ | refine AWpA.dg [] [] follows ?_ | refine TailK.tg ?_ | refine AWpA.skip ?_ | refine AWpA.exit ?_ | refine AWpA.ret ?_ | (with_reducible refine ARoundsA.succ ?_) | ((first | refine Runs.gkt (fun h9 => ?_) | refine Runs.gkf (fun h9 => ?_) | refine Runs.gnt (fun h9 => ?_) | refine Runs.gnf (fun h9 => ?_) | refine CondP.gt (fun h9 => ?_) | refine CondP.gf (fun h9 => ?_) | refine CondP.gnt (fun h9 => ?_) | refine CondP.gnf (fun h9 => ?_)); (try simp only [h9]); clear h9) | refine CallG.pg [] (sp) ?_ | refine CallG.pg [0, 1, 2] (f1) ?_ | refine CallG.pg [0, 1, 2] (g1) ?_ | refine CallG.dg [] (sp) ?_ | refine CallG.dg [0, 1, 2] (f1) ?_ | refine CallG.dg [0, 1, 2] (g1) ?_); (try simp (maxSteps := 9999999) (disch := omega) only [go_sem, k9]); (try refine cnd ?_)) | ((first | refine CondP.split (fun hif => ?_) (fun hif => ?_) | refine Runs.part (fun hif => ?_) (fun hif => ?_)) <;> ((try simp only [hif]); (try simp only [BL] at hif); (try (have h9 : _ = true := hif; simp only [h9])); (try (have h9 : _ = false := hif; simp only [h9])); (try simp (maxSteps := 9999999) (disch := omega) only [go_sem, k9]); (try refine cnd ?_); (try (exfalso; omega; done)))))); (all_goals (try clear k9)))
      all_goals (refine TopPost.of (by first | exact .inl rfl | exact .inr rfl) (by (try simp (maxSteps := 9999999) (disch := omega) only [go_sem]); rfl) ?_; (try simp (maxSteps := 9999999) (disch := omega) only [go_sem]); (try (first | trivial | decide | (simp; done))))
    have k2 : ((40 : Int) < (R.length : Int)) = False := eq_false (by omega)
    have s := Seg.rows (off := off) (l := R) (by omega)
    rw [hP] at s
    have hPr := s.ren
    have hPs := s.seg
    have hPl := s.le
    have t0 := of16_any m of1 of2 of3 (by omega)
    have e1 := wencode_any m of1 0 0 (by omega) hsum
    have hL : encW m = wB m := by unfold encW; rw [hg]; rfl
    rw [hL, hg] at e1
    have hbL := wB_bytes (good_w hg) hsum
    have hlL := wB_len (good_w hg) hsum
    have w0 := fin_wB hg hsum
    have wm := fun r (hr : r ≠ []) => fin_more hg hsum (r := r) hr
    have wc := fun n (hn : n < (wB m).length) => fin_cut hg hsum (n := n) hn
    generalize wB m = L at *
    have sL := Seg.all L (by omega)
    have hrL := bA_len L
    by_cases h0 : L.length = 0
    case neg =>
      have hpos : 0 < L.length := Nat.pos_of_ne_zero h0
      obtain ⟨n, hn, ht⟩ : ∃ n : Nat, n < L.length ∧ at1.tmod (L.length : Int) = (n : Int) := by
        refine ⟨at1.toNat % L.length, Nat.mod_lt _ hpos, ?_⟩
        obtain ⟨a, rfl⟩ := Int.eq_ofNat_of_zero_le hu1
        rfl
      have p1 : (L.length ≤ 0) = False := eq_false (by omega)
      have p2 : ((0 : Int) < (L.length : Int)) = True := eq_true (by omega)
      have p3 : ((L.length : Int) = 0) = False := eq_false (by omega)
      have c1 := wdecode_any (sL.takeS n (by omega)) (fun x hx => hbL x (List.mem_of_mem_take hx)) m.kind
      have c6 := wc n hn
      have cW : finW (L.take n) m.kind = noW := by unfold finW; rw [c6]; rfl
      rw [c6, cW, List.length_take_of_le (by omega)] at c1
      have t1 := to16_any noW 0 0 0 (by decide)
      have r1 := rsame16_any noW noW 0 0 0 0 0 0 (by decide) (by decide)
      rw [sameW_self] at r1
      simp only [show noW.peers = [] from rfl, show noW.marks = [] from rfl, show noW.ents = [] from rfl, List.length_nil, ri_nil, rm_nil, re_nil] at t1 r1 c1
      have sA := Seg.all (L ++ R) (by rw [List.length_append]; omega)
      have hbA : bytesB (L ++ R) := fun x hx => (List.mem_append.1 hx).elim (hbL x) (hb x)
      have c2 := wdecode_any sA hbA m.kind
      by_cases hRn : R = []
      · subst hRn
        rw [List.append_nil] at c2
        have q1 : ((([] : List Int).length : Int) == 0) = true := rfl
        rw [w0.1, w0.2] at c2
        have t2 := to16_any m 0 0 0 (by omega)
        have r2 := rsame16_any m m 0 0 0 of1 of2 of3 (by omega) (by omega)
        rw [sameW_self] at r2
        (try simp (maxSteps := 9999999) (disch := omega) only [go_sem])
        refine AWpA.dummy ?_
        refine AWpA.dummy ?_
        refine AWpA.dummy ?_
        (have k9 := And.intro @hi (And.intro @hm (And.intro @he (And.intro @hPr (And.intro @hPs (And.intro @hPl (And.intro @k2 (And.intro @bA_ren (And.intro @p1 (And.intro @p2 (And.intro @p3 (And.intro @ht (And.intro @hn (And.intro @hrL (k0)))))))))))))); (repeat' (first | refine AWpA.seq ?_ | refine AWpA.block ?_ | (with_reducible refine CondP.tt ?_) | (with_reducible refine CondP.ff ?_) | refine AWpA.cg ?_ | ((first | refine AWpA.rg ?_ | refine AWpA.dg [] [] follows ?_ | refine TailK.tg ?_ | refine AWpA.skip ?_ | refine AWpA.exit ?_ | refine AWpA.ret ?_ | (with_reducible refine ARoundsA.succ ?_) | ((first | refine Runs.gkt (fun h9 => ?_) | refine Runs.gkf (fun h9 => ?_) | refine Runs.gnt (fun h9 => ?_) | refine Runs.gnf (fun h9 => ?_) | refine CondP.gt (fun h9 => ?_) | refine CondP.gf (fun h9 => ?_) | refine CondP.gnt (fun h9 => ?_) | refine CondP.gnf (fun h9 => ?_)); (try simp only [h9]); clear h9) | refine CallG.pg [] (sp) ?_ | refine CallG.pg [0, 1, 2] (f1) ?_ | refine CallG.pg [0, 1, 2] (g1) ?_ | refine CallG.pg [0, 1, 2] (t0) ?_ | refine CallG.pg [0, 327, 328] (e1) ?_ | refine CallG.pg [343] (c1) ?_ | refine CallG.pg [663, 664, 665] (t1) ?_ | refine CallG.pg [663, 839, 840, 4, 5, 6] (r1) ?_ | refine CallG.pg [1015] (c2) ?_ | refine CallG.pg [1031, 1032, 1033] (t2) ?_ | refine CallG.pg [1031, 1255, 1256, 0, 1, 2] (r2) ?_ | refine CallG.dg [] (sp) ?_ | refine CallG.dg [0, 1, 2] (f1) ?_ | refine CallG.dg [0, 1, 2] (g1) ?_ | refine CallG.dg [0, 1, 2] (t0) ?_ | refine CallG.dg [0, 327, 328] (e1) ?_ | refine CallG.dg [343] (c1) ?_ | refine CallG.dg [663, 664, 665] (t1) ?_ | refine CallG.dg [663, 839, 840, 4, 5, 6] (r1) ?_ | refine CallG.dg [1015] (c2) ?_ | refine CallG.dg [1031, 1032, 1033] (t2) ?_ | refine CallG.dg [1031, 1255, 1256, 0, 1, 2] (r2) ?_); (try simp (maxSteps := 9999999) (disch := omega) only [go_sem, k9]); (try refine cnd ?_)) | ((first | refine CondP.split (fun hif => ?_) (fun hif => ?_) | refine Runs.part (fun hif => ?_) (fun hif => ?_)) <;> ((try simp only [hif]); (try simp only [BL] at hif); (try (have h9 : _ = true := hif; simp only [h9])); (try (have h9 : _ = false := hif; simp only [h9])); (try simp (maxSteps := 9999999) (disch := omega) only [go_sem, k9]); (try refine cnd ?_); (try (exfalso; omega; done)))))); (all_goals (try clear k9)))
        all_goals (refine TopPost.of (by first | exact .inl rfl | exact .inr rfl) (by (try simp (maxSteps := 9999999) (disch := omega) only [go_sem]); rfl) ?_; (try simp (maxSteps := 9999999) (disch := omega) only [go_sem]); (try (first | trivial | decide | (simp; done))))
      have q1 : ((R.length : Int) == 0) = false := by
        rw [beq_eq_false_iff_ne]
        have := List.length_pos_iff.2 hRn
        omega
      have c7 := wm R hRn
      have cW7 : finW (L ++ R) m.kind = noW := by unfold finW; rw [c7]; rfl
      rw [c7, cW7, List.length_append] at c2
      simp only [show noW.peers = [] from rfl, show noW.marks = [] from rfl, show noW.ents = [] from rfl, List.length_nil, ri_nil, rm_nil, re_nil] at c2
      (try simp (maxSteps := 9999999) (disch := omega) only [go_sem])
      refine AWpA.dummy ?_
      refine AWpA.dummy ?_
      refine AWpA.dummy ?_
      (have k9 := And.intro @hi (And.intro @hm (And.intro @he (And.intro @hPr (And.intro @hPs (And.intro @hPl (And.intro @k2 (And.intro @bA_ren (And.intro @bA_app (And.intro @p1 (And.intro @p2 (And.intro @p3 (And.intro @ht (And.intro @hn (And.intro @hrL (And.intro @q1 (k0)))))))))))))))); (repeat' (first | refine AWpA.seq ?_ | refine AWpA.block ?_ | (with_reducible refine CondP.tt ?_) | (with_reducible refine CondP.ff ?_) | refine AWpA.cg ?_ | ((first | refine AWpA.rg ?_ | refine AWpA.dg [] [] follows ?_ | refine TailK.tg ?_ | refine AWpA.skip ?_ | refine AWpA.exit ?_ | refine AWpA.ret ?_ | (with_reducible refine ARoundsA.succ ?_) | ((first | refine Runs.gkt (fun h9 => ?_) | refine Runs.gkf (fun h9 => ?_) | refine Runs.gnt (fun h9 => ?_) | refine Runs.gnf (fun h9 => ?_) | refine CondP.gt (fun h9 => ?_) | refine CondP.gf (fun h9 => ?_) | refine CondP.gnt (fun h9 => ?_) | refine CondP.gnf (fun h9 => ?_)); (try simp only [h9]); clear h9) | refine CallG.pg [] (sp) ?_ | refine CallG.pg [0, 1, 2] (f1) ?_ | refine CallG.pg [0, 1, 2] (g1) ?_ | refine CallG.pg [0, 1, 2] (t0) ?_ | refine CallG.pg [0, 327, 328] (e1) ?_ | refine CallG.pg [343] (c1) ?_ | refine CallG.pg [663, 664, 665] (t1) ?_ | refine CallG.pg [663, 839, 840, 4, 5, 6] (r1) ?_ | refine CallG.pg [1015] (c2) ?_ | refine CallG.pg [1031, 1032, 1033] (t1) ?_ | refine CallG.pg [1031, 1255, 1256, 4, 5, 6] (r1) ?_ | refine CallG.dg [] (sp) ?_ | refine CallG.dg [0, 1, 2] (f1) ?_ | refine CallG.dg [0, 1, 2] (g1) ?_ | refine CallG.dg [0, 1, 2] (t0) ?_ | refine CallG.dg [0, 327, 328] (e1) ?_ | refine CallG.dg [343] (c1) ?_ | refine CallG.dg [663, 664, 665] (t1) ?_ | refine CallG.dg [663, 839, 840, 4, 5, 6] (r1) ?_ | refine CallG.dg [1015] (c2) ?_ | refine CallG.dg [1031, 1032, 1033] (t1) ?_ | refine CallG.dg [1031, 1255, 1256, 4, 5, 6] (r1) ?_); (try simp (maxSteps := 9999999) (disch := omega) only [go_sem, k9]); (try refine cnd ?_)) | ((first | refine CondP.split (fun hif => ?_) (fun hif => ?_) | refine Runs.part (fun hif => ?_) (fun hif => ?_)) <;> ((try simp only [hif]); (try simp only [BL] at hif); (try (have h9 : _ = true := hif; simp only [h9])); (try (have h9 : _ = false := hif; simp only [h9])); (try simp (maxSteps := 9999999) (disch := omega) only [go_sem, k9]); (try refine cnd ?_); (try (exfalso; omega; done)))))); (all_goals (try clear k9)))
      all_goals (refine TopPost.of (by first | exact .inl rfl | exact .inr rfl) (by (try simp (maxSteps := 9999999) (disch := omega) only [go_sem]); rfl) ?_; (try simp (maxSteps := 9999999) (disch := omega) only [go_sem]); (try (first | trivial | decide | (simp; done))))
    have hLn : L = [] := List.length_eq_zero_iff.1 h0
    subst hLn
    have c2 := wdecode_any (Seg.all R (by omega)) hb m.kind
    by_cases hRn : R = []
    · subst hRn
      rw [w0.1, w0.2] at c2
      have t2 := to16_any m 0 0 0 (by omega)
      have r2 := rsame16_any m m 0 0 0 of1 of2 of3 (by omega) (by omega)
      rw [sameW_self] at r2
      clear wc wm w0
      (try simp (maxSteps := 9999999) (disch := omega) only [go_sem])
      refine AWpA.dummy ?_
      refine AWpA.dummy ?_
      refine AWpA.dummy ?_
      (have k9 := And.intro @hi (And.intro @hm (And.intro @he (And.intro @hPr (And.intro @hPs (And.intro @hPl (And.intro @k2 (And.intro @bA_ren (And.intro @bA_nil (k0))))))))); (repeat' (first | refine AWpA.seq ?_ | refine AWpA.block ?_ | (with_reducible refine CondP.tt ?_) | (with_reducible refine CondP.ff ?_) | refine AWpA.cg ?_ | ((first | refine AWpA.rg ?_ | refine AWpA.dg [] [] follows ?_ | refine TailK.tg ?_ | refine AWpA.skip ?_ | refine AWpA.exit ?_ | refine AWpA.ret ?_ | (with_reducible refine ARoundsA.succ ?_) | ((first | refine Runs.gkt (fun h9 => ?_) | refine Runs.gkf (fun h9 => ?_) | refine Runs.gnt (fun h9 => ?_) | refine Runs.gnf (fun h9 => ?_) | refine CondP.gt (fun h9 => ?_) | refine CondP.gf (fun h9 => ?_) | refine CondP.gnt (fun h9 => ?_) | refine CondP.gnf (fun h9 => ?_)); (try simp only [h9]); clear h9) | refine CallG.pg [] (sp) ?_ | refine CallG.pg [0, 1, 2] (f1) ?_ | refine CallG.pg [0, 1, 2] (g1) ?_ | refine CallG.pg [0, 1, 2] (t0) ?_ | refine CallG.pg [0, 327, 328] (e1) ?_ | refine CallG.pg [551] (c2) ?_ | refine CallG.pg [631, 632, 633] (t2) ?_ | refine CallG.pg [631, 855, 856, 0, 1, 2] (r2) ?_ | refine CallG.dg [] (sp) ?_ | refine CallG.dg [0, 1, 2] (f1) ?_ | refine CallG.dg [0, 1, 2] (g1) ?_ | refine CallG.dg [0, 1, 2] (t0) ?_ | refine CallG.dg [0, 327, 328] (e1) ?_ | refine CallG.dg [551] (c2) ?_ | refine CallG.dg [631, 632, 633] (t2) ?_ | refine CallG.dg [631, 855, 856, 0, 1, 2] (r2) ?_); (try simp (maxSteps := 9999999) (disch := omega) only [go_sem, k9]); (try refine cnd ?_)) | ((first | refine CondP.split (fun hif => ?_) (fun hif => ?_) | refine Runs.part (fun hif => ?_) (fun hif => ?_)) <;> ((try simp only [hif]); (try simp only [BL] at hif); (try (have h9 : _ = true := hif; simp only [h9])); (try (have h9 : _ = false := hif; simp only [h9])); (try simp (maxSteps := 9999999) (disch := omega) only [go_sem, k9]); (try refine cnd ?_); (try (exfalso; omega; done)))))); (all_goals (try clear k9)))
      all_goals (refine TopPost.of (by first | exact .inl rfl | exact .inr rfl) (by (try simp (maxSteps := 9999999) (disch := omega) only [go_sem]); rfl) ?_; (try simp (maxSteps := 9999999) (disch := omega) only [go_sem]); (try (first | trivial | decide | (simp; done))))
    have q1 : ((R.length : Int) == 0) = false := by
      rw [beq_eq_false_iff_ne]
      have := List.length_pos_iff.2 hRn
      omega
    have q2 : (R.length ≤ 0) = False := eq_false (by have := List.length_pos_iff.2 hRn; omega)
    have c7 := wm R hRn
    have cW7 : finW ([] ++ R) m.kind = noW := by unfold finW; rw [c7]; rfl
    rw [List.nil_append] at c7 cW7
    rw [c7, cW7] at c2
    have t1 := to16_any noW 0 0 0 (by decide)
    have r1 := rsame16_any noW noW 0 0 0 0 0 0 (by decide) (by decide)
    rw [sameW_self] at r1
    simp only [show noW.peers = [] from rfl, show noW.marks = [] from rfl, show noW.ents = [] from rfl, List.length_nil, ri_nil, rm_nil, re_nil] at t1 r1 c2
    clear wc wm w0
    (try simp (maxSteps := 9999999) (disch := omega) only [go_sem])
    refine AWpA.dummy ?_
    refine AWpA.dummy ?_
    refine AWpA.dummy ?_
    (have k9 := And.intro @hi (And.intro @hm (And.intro @he (And.intro @hPr (And.intro @hPs (And.intro @hPl (And.intro @k2 (And.intro @bA_ren (And.intro @bA_nil (And.intro @q1 (And.intro @q2 (k0))))))))))); (repeat' (first | refine AWpA.seq ?_ | refine AWpA.block ?_ | (with_reducible refine CondP.tt ?_) | (with_reducible refine CondP.ff ?_) | refine AWpA.cg ?_ | ((first | refine AWpA.rg ?_ | refine AWpA.dg [] [] follows ?_ | refine TailK.tg ?_ | refine AWpA.skip ?_ | refine AWpA.exit ?_ | refine AWpA.ret ?_ | (with_reducible refine ARoundsA.succ ?_) | ((first | refine Runs.gkt (fun h9 => ?_) | refine Runs.gkf (fun h9 => ?_) | refine Runs.gnt (fun h9 => ?_) | refine Runs.gnf (fun h9 => ?_) | refine CondP.gt (fun h9 => ?_) | refine CondP.gf (fun h9 => ?_) | refine CondP.gnt (fun h9 => ?_) | refine CondP.gnf (fun h9 => ?_)); (try simp only [h9]); clear h9) | refine CallG.pg [] (sp) ?_ | refine CallG.pg [0, 1, 2] (f1) ?_ | refine CallG.pg [0, 1, 2] (g1) ?_ | refine CallG.pg [0, 1, 2] (t0) ?_ | refine CallG.pg [0, 327, 328] (e1) ?_ | refine CallG.pg [615] (c2) ?_ | refine CallG.pg [631, 632, 633] (t1) ?_ | refine CallG.pg [631, 855, 856, 4, 5, 6] (r1) ?_ | refine CallG.dg [] (sp) ?_ | refine CallG.dg [0, 1, 2] (f1) ?_ | refine CallG.dg [0, 1, 2] (g1) ?_ | refine CallG.dg [0, 1, 2] (t0) ?_ | refine CallG.dg [0, 327, 328] (e1) ?_ | refine CallG.dg [615] (c2) ?_ | refine CallG.dg [631, 632, 633] (t1) ?_ | refine CallG.dg [631, 855, 856, 4, 5, 6] (r1) ?_); (try simp (maxSteps := 9999999) (disch := omega) only [go_sem, k9]); (try refine cnd ?_)) | ((first | refine CondP.split (fun hif => ?_) (fun hif => ?_) | refine Runs.part (fun hif => ?_) (fun hif => ?_)) <;> ((try simp only [hif]); (try simp only [BL] at hif); (try (have h9 : _ = true := hif; simp only [h9])); (try (have h9 : _ = false := hif; simp only [h9])); (try simp (maxSteps := 9999999) (disch := omega) only [go_sem, k9]); (try refine cnd ?_); (try (exfalso; omega; done)))))); (all_goals (try clear k9)))
    all_goals (refine TopPost.of (by first | exact .inl rfl | exact .inr rfl) (by (try simp (maxSteps := 9999999) (disch := omega) only [go_sem]); rfl) ?_; (try simp (maxSteps := 9999999) (disch := omega) only [go_sem]); (try (first | trivial | decide | (simp; done))))
theorem wcuts_walk (W : World) (x : WmS) (at1 : Int) (mo : Sl Int) (hx : x.ok W) (hat : IntKind.u16.min ≤ at1 ∧ at1 ≤ IntKind.u16.max) (hm0 : mo.ok W 1 (fun n : Int => [.int .u8 n]) (fun n : Int => IntKind.u8.min ≤ n ∧ n ≤ IntKind.u8.max)) :
    Calls Tryz.prog 5 #[.agg (x.rep).toArray, .int .u16 at1, .slice mo.ad mo.l.length mo.cap] W fun e W' => e = .returned (.bool true) ∧ Below W.heap.size W W' := by
  obtain ⟨kind, peer, hops, high, ⟨ad1, of1, ca1, peers⟩, num, sum, mark, ⟨ad2, of2, ca2, marks⟩, ⟨ad3, of3, ca3, ents⟩⟩ := x
  obtain ⟨ad, off, cap, R⟩ := mo
  obtain ⟨x1, x2, x3, -, x5, x6, x7, x8, x9, x10⟩ := hx
  have l1 := x5.len
  have l2 := x9.len
  have l3 := x10.len
  have hu1 := hat.1
  have hu2 := hat.2
  simp only [show IntKind.u16.min = 0 from rfl, show IntKind.u16.max = 65535 from rfl] at hu1 hu2
  have hs1 := x7.1
  have hs2 := x7.2
  simp only [show IntKind.u64.min = 0 from rfl, show IntKind.u64.max = 18446744073709551615 from rfl] at hs1 hs2
  simp only [maxLen] at l1 l2 l3
  exact wcuts_main W ⟨kind, peer, hops, high, peers, num, sum, mark, marks, ents⟩ ad1 ad2 ad3 ad of1 ca1 of2 ca2 of3 ca3 off cap R at1 ⟨hs1, Int.lt_add_one_of_le hs2⟩ ⟨by omega, by omega, by omega⟩ x5.fz x9.fz x10.fz hm0.fz hm0.all hu1 hu2
end Go.Proofs.YtopidfkmligljaaGreat
