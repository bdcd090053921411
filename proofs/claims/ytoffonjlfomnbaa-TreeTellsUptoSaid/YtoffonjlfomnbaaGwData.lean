/- The data of the program, as plain Lean, and as abstract values: stamps, operations, nodes, what an operation changed, entries, logs. No condition. -/
import Derived.Test.YtoffonjlfomnbaaAvDone
import Derived.Test.YtoffonjlfomnbaaAvMixEval
namespace Go.Aw
open Go
attribute [go_sem] aopsK aopsG aopsPK aopsPG aopsMK aopsMG aopsN TypeDesc.isAgg Option.isSome_some Option.isSome_none Bool.false_eq_true Bool.true_eq_false not_true_eq_false not_false_eq_true true_and and_true and_self List.getElem?_toArray List.getElem?_cons_zero List.getElem?_cons_succ List.getElem?_nil List.length_map List.append_eq List.range_zero List.cons_append List.nil_append Nat.one_ne_zero implies_true
end Go.Aw
namespace Go.Gw
open Go Go.Aw

abbrev Txt := List UInt8

structure Stm where
  c : Int
  r : Int
deriving DecidableEq, Inhabited

structure Opn where
  at_ : Stm
  kind : Int
  node : Int
  parent : Int
  name : Txt
  data : Txt
deriving DecidableEq, Inhabited

structure Nd where
  id : Int
  parent : Int
  name : Txt
  moved : Stm
  data : Txt
  wrote : Stm
deriving DecidableEq, Inhabited

structure Und where
  did : Bool
  had : Bool
  was : Nd
deriving DecidableEq, Inhabited

structure Ent where
  op : Opn
  undo : Und
deriving DecidableEq, Inhabited

structure Lg where
  entries : List Ent
  nodes : List Nd
deriving DecidableEq, Inhabited

def st0 : Stm := ⟨0, 0⟩
def nd0 : Nd := ⟨0, 0, [], st0, [], st0⟩
def und0 : Und := ⟨false, false, nd0⟩
def op0 : Opn := ⟨st0, 0, 0, 0, [], []⟩

def stA (s : Stm) : AV := .agg [.int .i64 s.c, .int .i64 s.r]
def opA (o : Opn) : AV := .agg [.int .i64 o.at_.c, .int .i64 o.at_.r, .int .i64 o.kind, .int .i64 o.node, .int .i64 o.parent, .str o.name, .str o.data]
def ndA (n : Nd) : AV := .agg [.int .i64 n.id, .int .i64 n.parent, .str n.name, .int .i64 n.moved.c, .int .i64 n.moved.r, .str n.data, .int .i64 n.wrote.c, .int .i64 n.wrote.r]
def unA (u : Und) : AV := .agg [.bool u.did, .bool u.had, .int .i64 u.was.id, .int .i64 u.was.parent, .str u.was.name, .int .i64 u.was.moved.c, .int .i64 u.was.moved.r, .str u.was.data, .int .i64 u.was.wrote.c, .int .i64 u.was.wrote.r]
def enA (e : Ent) : AV := .agg [.int .i64 e.op.at_.c, .int .i64 e.op.at_.r, .int .i64 e.op.kind, .int .i64 e.op.node, .int .i64 e.op.parent, .str e.op.name, .str e.op.data,
  .bool e.undo.did, .bool e.undo.had, .int .i64 e.undo.was.id, .int .i64 e.undo.was.parent, .str e.undo.was.name, .int .i64 e.undo.was.moved.c, .int .i64 e.undo.was.moved.r, .str e.undo.was.data, .int .i64 e.undo.was.wrote.c, .int .i64 e.undo.was.wrote.r]
def inA (n : Int) : AV := .int .i64 n
def lgF (f1 f2 : Bool) (g : Lg) : AV := .agg [.sl f1 (g.entries.map enA), .sl f2 (g.nodes.map ndA)]
def lgA (g : Lg) : AV := lgF false false g

theorem getD_map {α : Type} (g : α → AV) {l : List α} {i : Nat} (h : i < l.length) : (l.map g).getD i .top = g l[i] := by
  rw [List.getD_eq_getElem?_getD, List.getElem?_map, List.getElem?_eq_getElem h]; rfl

theorem stm_eq (a b : Stm) : (decide (a.c = b.c) && decide (a.r = b.r)) = decide (a = b) := by
  cases a; cases b; rw [Bool.eq_iff_iff]; simp
end Go.Gw
