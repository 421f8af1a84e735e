/- Part 1 of the proof of one statement about the given program: what the program's code computes is carried out over abstract values, and that is proved to hold of the program in every world. -/
import Derived.WalkKit
import Derived.ChangeKeysEq
set_option maxRecDepth 100000
/- The abstract machine: pure values, owned memory without addresses, resolved operations, and what each operation does. -/
namespace Go.Proofs.Ytnmnijgoggombaa.X
open Go.RowKit
/-- Pure values: what a Go value is when nobody writes its memory any more. -/
inductive PVal where
  | int (k : IntKind) (n : Int)
  | bool (b : Bool)
  | str (s : ByteArray)
  | nilptr | nilslice | nilmap | nilfn
  | fn (f : Nat) (fst caps : List PVal)
  | agg (cs : List PVal)
  | tup (vs : List PVal)
  | sl (rows : List (List PVal))
  | pt (rows : List (List PVal)) (i j : Nat)
  | mp (es : List (PVal × PVal))
  /-- the 'yield' of a loop that runs -/
  | yl (l : Nat)
  deriving Inhabited
def PVal.scalar : PVal → Bool
  | .agg _ | .tup _ => false
  | _ => true
/-- A cell that owns memory: the site (a slot's number), the root's cell, the way down. -/
structure Place where
  s : Nat
  k : Nat
  path : List (Nat × Nat)
def Place.ext (pl : Place) (i j : Nat) : Place := { pl with path := pl.path ++ [(i, j)] }
inductive AVal where
  | p (v : PVal)
  | agg (cs : List AVal)
  | tup (vs : List AVal)
  /-- an owned slice (or box, if 'ptr'), written out -/
  | own (ptr : Bool) (z : Nat) (rows : List (List AVal))
  | omap (es : List (PVal × PVal))
  /-- a slice of the owned one at a place; a pointer into it; the owned map at a place -/
  | rsl (pl : Place) (off len : Nat)
  | rpt (pl : Place) (i j : Nat)
  | rmp (pl : Place)
  | dead
  /-- nothing is known -/
  | unk
  /-- an iterator over a string; over a map (its block, its size, what has come); a slot's way to the latter -/
  | siter (s : ByteArray) (pos : Nat)
  | miter (mb n : Nat) (dn : List Nat)
  | rit (pl mp : Place) (mb : Nat)
  /-- a map of so many entries, whichever -/
  | smap (n : Nat)
  deriving Inhabited
def AVal.scalar : AVal → Bool
  | .p v => v.scalar
  | .agg _ | .tup _ => false
  | _ => true
abbrev Mem := List (Nat × List AVal)
abbrev Env := List (Nat × AVal)
def lk {α : Type} : List (Nat × α) → Nat → Option α
  | [], _ => none
  | x :: r, n => if n = x.1 then some x.2 else lk r n
def cellAt (rows : List (List AVal)) (i j : Nat) : Option AVal := (rows[i]?).bind (·[j]?)
def sub : List (Nat × Nat) → AVal → Option AVal
  | [], a => some a
  | (i, j) :: r, .own _ _ rows => (cellAt rows i j).bind (sub r)
  | _, _ => none
def setCellAt (rows : List (List AVal)) (i j : Nat) (a : AVal) : List (List AVal) := rows.modify i (·.set j a)
def putSub : List (Nat × Nat) → AVal → AVal → AVal
  | [], a, _ => a
  | (i, j) :: r, a, .own p z rows => .own p z (rows.modify i (·.modify j (putSub r a)))
  | _, _, x => x
def getAt (m : Mem) (pl : Place) : Option AVal := (lk m pl.s).bind fun cs => (cs[pl.k]?).bind (sub pl.path)
def setAt (m : Mem) (pl : Place) (a : AVal) : Mem :=
  match lk m pl.s with
  | some cs => (pl.s, cs.modify pl.k (putSub pl.path a)) :: m
  | none => m
/-- Where an owned thing lies: block, offset, capacity, cells of an element. -/
structure Loc where
  b : Nat
  o : Nat
  cap : Nat
  z : Nat
structure Frz where
  cell : Nat → Nat → Option Value
  map : Nat → Option (Array MapEntry)
/-- A pure value and the machine's. -/
inductive PV (F : Frz) : PVal → Value → Prop
  | int (k : IntKind) (n : Int) : PV F (.int k n) (.int k n)
  | bool (b : Bool) : PV F (.bool b) (.bool b)
  | str (s : ByteArray) : PV F (.str s) (.string s)
  | nilptr : PV F .nilptr (.pointer none)
  | nilslice : PV F .nilslice (.slice none 0 0)
  | nilmap : PV F .nilmap (.map none)
  | nilfn : PV F .nilfn .nilFunc
  | yl (l : Nat) : PV F (.yl l) (.func (.yield l) #[] #[])
  | fn (f : Nat) (fst caps : List PVal) (fv cv : Array Value) (hs0 : fv.size = fst.length) (hs : cv.size = caps.length)
      (h0 : ∀ (i : Nat) (p : PVal) (v : Value), fst[i]? = some p → fv[i]? = some v → PV F p v)
      (h : ∀ (i : Nat) (p : PVal) (v : Value), caps[i]? = some p → cv[i]? = some v → PV F p v) : PV F (.fn f fst caps) (.func (.func f) fv cv)
  | agg (cs : List PVal) (cv : Array Value) (hs : cv.size = cs.length) (hc : ∀ p ∈ cs, p.scalar = true)
      (h : ∀ (i : Nat) (p : PVal) (v : Value), cs[i]? = some p → cv[i]? = some v → PV F p v) : PV F (.agg cs) (.agg cv)
  | tup (cs : List PVal) (cv : Array Value) (hs : cv.size = cs.length)
      (h : ∀ (i : Nat) (p : PVal) (v : Value), cs[i]? = some p → cv[i]? = some v → PV F p v) : PV F (.tup cs) (.tuple cv)
  | sl (rows : List (List PVal)) (b o cap z : Nat) (f : Nat → Nat → Value) (hcap : rows.length ≤ cap)
      (hz : ∀ row ∈ rows, row.length = z)
      (hc : ∀ (i j : Nat) (row : List PVal) (p : PVal), rows[i]? = some row → row[j]? = some p → p.scalar = true ∧ F.cell b (o + i * z + j) = some (f i j))
      (h : ∀ (i j : Nat) (row : List PVal) (p : PVal), rows[i]? = some row → row[j]? = some p → PV F p (f i j)) :
      PV F (.sl rows) (.slice (some ⟨b, o, none⟩) rows.length cap)
  /-- an empty slice without room, wherever it points -/
  | sl0 (ad : Addr) : PV F (.sl []) (.slice (some ad) 0 0)
  | pt (rows : List (List PVal)) (i0 j0 b o z : Nat) (f : Nat → Nat → Value)
      (hz : ∀ row ∈ rows, row.length = z)
      (hc : ∀ (i j : Nat) (row : List PVal) (p : PVal), rows[i]? = some row → row[j]? = some p → p.scalar = true ∧ F.cell b (o + i * z + j) = some (f i j))
      (h : ∀ (i j : Nat) (row : List PVal) (p : PVal), rows[i]? = some row → row[j]? = some p → PV F p (f i j)) :
      PV F (.pt rows i0 j0) (.pointer (some ⟨b, o + i0 * z + j0, none⟩))
  | mp (es : List (PVal × PVal)) (r : Nat) (ev : Array MapEntry) (hr : F.map r = some ev) (hs : ev.size = es.length)
      (hk : ∀ (i : Nat) (e : PVal × PVal) (v : MapEntry), es[i]? = some e → ev[i]? = some v → PV F e.1 v.key)
      (hv : ∀ (i : Nat) (e : PVal × PVal) (v : MapEntry), es[i]? = some e → ev[i]? = some v → PV F e.2 v.val) :
      PV F (.mp es) (.map (some r))
structure Gh where
  F : Frz
  loc : Place → Option Loc
  /-- what the machine has in the cell of a place -/
  cv : Place → Value
/-- A value in a slot and the machine's. -/
inductive VR (G : Gh) : AVal → Value → Prop
  | p {x : PVal} {c : Value} (h : PV G.F x c) : VR G (.p x) c
  /-- a value of which nothing is known -/
  | unk (c : Value) (h : c.oneCell' = true) : VR G .unk c
  | agg (cs : List AVal) (cv : Array Value) (hs : cv.size = cs.length) (hc : ∀ a ∈ cs, a.scalar = true)
      (h : ∀ (i : Nat) (a : AVal) (v : Value), cs[i]? = some a → cv[i]? = some v → VR G a v) : VR G (.agg cs) (.agg cv)
  | tup (cs : List AVal) (cv : Array Value) (hs : cv.size = cs.length)
      (h : ∀ (i : Nat) (a : AVal) (v : Value), cs[i]? = some a → cv[i]? = some v → VR G a v) : VR G (.tup cs) (.tuple cv)
  | rsl (pl : Place) (off len : Nat) (ad : Addr) (k : Nat)
      (h : ∀ b o cap z, G.loc pl = some ⟨b, o, cap, z⟩ → off + len ≤ cap ∧ k = cap - off ∧ (off < cap ∨ off = 0 → ad = ⟨b, o + off * z, none⟩)) :
      VR G (.rsl pl off len) (.slice (some ad) len k)
  | rpt (pl : Place) (i j : Nat) (ad : Addr)
      (h : ∀ b o cap z, G.loc pl = some ⟨b, o, cap, z⟩ → ad = ⟨b, o + i * z + j, none⟩) : VR G (.rpt pl i j) (.pointer (some ad))
  | rmp (pl : Place) (r : Nat)
      (h : ∀ b o cap z, G.loc pl = some ⟨b, o, cap, z⟩ → r = b) : VR G (.rmp pl) (.map (some r))
  | rit (pl mp : Place) (mb : Nat) (ad : Addr)
      (h : ∀ b o cap z, G.loc pl = some ⟨b, o, cap, z⟩ → ad = ⟨b, o, none⟩)
      (h' : ∀ b o cap z, G.loc mp = some ⟨b, o, cap, z⟩ → mb = b) : VR G (.rit pl mp mb) (.pointer (some ad))
/-- A box has room for itself alone. -/
def capMax : Bool → Nat
  | true => 1
  | false => maxLen
theorem capMax_le (ptr : Bool) : capMax ptr ≤ maxLen := by cases ptr <;> simp [capMax, maxLen]
/-- What holds of the cell of a place. -/
def HR (G : Gh) (w : World) (pl : Place) : AVal → Prop
  | .p x => PV G.F x (G.cv pl)
  | .own ptr z rows => ∃ b o cap cs ty, G.loc pl = some ⟨b, o, cap, z⟩ ∧
      G.cv pl = (if ptr then .pointer (some ⟨b, o, none⟩) else .slice (some ⟨b, o, none⟩) rows.length cap) ∧
      w.heap[b]? = some (.cells cs ty (0, 0)) ∧ o + cap * z ≤ cs.size ∧ rows.length ≤ cap ∧ cap ≤ capMax ptr ∧
      (∀ row ∈ rows, row.length = z) ∧
      (∀ i j a, cellAt rows i j = some a → a.scalar = true ∧ cs[o + i * z + j]? = some (G.cv (pl.ext i j)))
  | .omap es => ∃ r ev clock, G.loc pl = some ⟨r, 0, 0, 0⟩ ∧ G.cv pl = .map (some r) ∧ w.heap[r]? = some (.map ev clock) ∧
      ev.size = es.length ∧
      (∀ (i : Nat) (e : PVal × PVal) (v : MapEntry), es[i]? = some e → ev[i]? = some v → PV G.F e.1 v.key ∧ PV G.F e.2 v.val ∧ v.born = i) ∧ clock = ev.size
  | .siter s pos => ∃ r, G.loc pl = some ⟨r, 0, 0, 0⟩ ∧ G.cv pl = .pointer (some ⟨r, 0, none⟩) ∧ w.heap[r]? = some (.stringIter s pos)
  | .miter mb n dn => ∃ r, G.loc pl = some ⟨r, 0, 0, 0⟩ ∧ G.cv pl = .pointer (some ⟨r, 0, none⟩) ∧ w.heap[r]? = some (.mapIter (some mb) n dn.toArray n)
  | .smap n => ∃ r ev clock, G.loc pl = some ⟨r, 0, 0, 0⟩ ∧ G.cv pl = .map (some r) ∧ w.heap[r]? = some (.map ev clock) ∧ ev.size = n
  | .dead => True
  | _ => False
/-- Where a call began: the world, what was frozen, which blocks the arguments own. -/
structure Ctx where
  w0 : World
  F0 : Frz
  mine : Nat → Prop
  /-- the values of the frames that wait; the round that runs -/
  hid : Array Value := #[]
  ro : Option Nat := none
structure Good (C : Ctx) (G : Gh) (w : World) : Prop where
  fz : ∀ b o v, G.F.cell b o = some v → w.cell? ⟨b, o, none⟩ = some v
  fzl : ∀ b o v, G.F.cell b o = some v → ∀ pl L, G.loc pl = some L → L.b ≠ b
  fm : ∀ r es, G.F.map r = some es → ∃ clock, w.heap[r]? = some (.map es clock)
  fml : ∀ r es, G.F.map r = some es → ∀ pl L, G.loc pl = some L → L.b ≠ r
  inj : ∀ pl pl' L L', G.loc pl = some L → G.loc pl' = some L' → L.b = L'.b → pl = pl'
  bnd : ∀ pl L, G.loc pl = some L → L.b < w.heap.size
  size : C.w0.heap.size ≤ w.heap.size
  keep : ∀ b, b < C.w0.heap.size → ¬ C.mine b → w.heap[b]? = C.w0.heap[b]?
  own : ∀ pl L, G.loc pl = some L → C.w0.heap.size ≤ L.b ∨ C.mine L.b
  fz0 : ∀ b o v, C.F0.cell b o = some v → G.F.cell b o = some v
  fm0 : ∀ r es, C.F0.map r = some es → G.F.map r = some es
  fzn : ∀ b o v, G.F.cell b o = some v → C.F0.cell b o = some v ∨ C.w0.heap.size ≤ b ∨ C.mine b
  fmn : ∀ r es, G.F.map r = some es → C.F0.map r = some es ∨ C.w0.heap.size ≤ r ∨ C.mine r
  os : w.os = C.w0.os
  tape : w.tape = C.w0.tape
  output : w.output = C.w0.output
def MR (G : Gh) (w : World) (m : Mem) : Prop := ∀ pl a, getAt m pl = some a → HR G w pl a
/-- Slots from 1000000 on are those of the frames that wait. -/
def slotOf (tmps hid : Array Value) (t : Nat) : Option Value := if t < 1000000 then tmps[t]? else hid[t - 1000000]?
theorem slotOf_lt {tmps hid : Array Value} {t : Nat} (h : t < 1000000) : slotOf tmps hid t = tmps[t]? := if_pos h
def ER (C : Ctx) (G : Gh) (e : Env) (tmps : Array Value) : Prop := ∀ t v, lk e t = some v → ∃ c, slotOf tmps C.hid t = some c ∧ VR G v c
end Go.Proofs.Ytnmnijgoggombaa.X
/- The resolved operations and what each does to the abstract state. -/
namespace Go.Proofs.Ytnmnijgoggombaa.X
open Go.RowKit
inductive Arg where
  | s (t : Nat)
  | c (v : PVal)
inductive LenK where
  | arr (n : Nat) | str | sl | mp
/-- What a cell holds that Go compares by value. -/
inductive Leaf where
  | i | b | s
  deriving DecidableEq
inductive EqK where
  | b | sl | ptr | fn
  | agg (ls : List Leaf)
inductive ROp where
  | mv (x : Arg)
  | alloc (cells : List PVal)
  | box (x : Arg)
  | load (n : Nat) (ag : Bool) (x : Arg)
  | store (n : Nat) (x v : Arg)
  | faddr (off : Nat) (x : Arg)
  | iaddr (z : Nat) (arr : Option Nat) (x i : Arg)
  | field (off n : Nat) (ag : Bool) (x : Arg)
  | aindex (len z : Nat) (ag : Bool) (x i : Arg)
  | sindex (x i : Arg)
  | bin (op : BinOp) (x y : Arg)
  | eq (k : EqK) (neg : Bool) (x y : Arg)
  | un (op : UnOp) (x : Arg)
  | build (zero : List PVal) (parts : List (Nat × Nat × Arg))
  | bslice (z n : Nat) (zero : List PVal) (parts : List (Nat × Arg))
  | fslice (z n : Nat) (zero : List PVal) (parts : List (Nat × Arg))
  | mkslice (z bytes : Nat) (zero : List PVal) (len cap : Arg)
  | mkmap
  | srange (x : Arg)
  | snext (x : Arg)
  | mentry (ls : List Leaf) (zero : PVal) (m k : Arg)
  | mestore (m s v : Arg)
  | appin (z : Nat) (s x : Arg)
  /-- an append whose result is read only at once -/
  | appendF (z bytes : Nat) (zero : List PVal) (s x : Arg)
  /-- an append of so many zeros to nothing -/
  | appz (z bytes : Nat) (zero : List PVal) (s n : Arg)
  | cap (x : Arg)
  | slc3 (x lo hi mx : Arg)
  /-- a range over a map: its rules are their own -/
  | mrg (x : Arg)
  | mnx (x : Arg)
  | ment (x : Arg)
  | lookup (ls : List Leaf) (zero : PVal) (ok : Bool) (m k : Arg)
  | mapset (ls : List Leaf) (m k v : Arg)
  | extract (i : Nat) (x : Arg)
  | len (k : LenK) (x : Arg)
  | append (z bytes : Nat) (zero : List PVal) (s x : Arg)
  | copy (z : Nat) (d s : Arg)
  | clear (z : Nat) (zero : List PVal) (x : Arg)
  | slc (z : Nat) (x : Arg) (lo hi : Option Arg)
  | ssl (x : Arg) (lo hi : Option Arg)
  | fn (f : Nat) (fst caps : List Arg)
  | pick (c a b : Arg)
  | conv (k : Option IntKind) (x : Arg)
  | nilchk (x : Arg)
  | minmax (mx : Bool) (xs : List Arg)
def PVal.cells : PVal → List PVal
  | .agg cs => cs
  | v => [v]
def AVal.cells : AVal → List AVal
  | .p v => v.cells.map .p
  | .agg cs => cs
  | v => [v]
/-- 'some' the pure ones, if all are pure. -/
def allP : List AVal → Option (List PVal)
  | [] => some []
  | .p x :: r => (allP r).map (x :: ·)
  | _ :: _ => none
def mkAgg (cs : List AVal) : AVal := match allP cs with | some ps => .p (.agg ps) | none => .agg cs
def mkTup (cs : List AVal) : AVal := match allP cs with | some ps => .p (.tup ps) | none => .tup cs
/-- What a slot gets that reads a cell: pure, or a way to what is owned there. -/
def refOf (pl : Place) : AVal → Option AVal
  | .p x => some (.p x)
  | .own false _ rows => some (.rsl pl 0 rows.length)
  | .own true _ _ => some (.rpt pl 0 0)
  | .omap _ => some (.rmp pl)
  | _ => none
def refsOf (pl : Place) (i : Nat) : Nat → List AVal → Option (List AVal)
  | _, [] => some []
  | j, a :: r => (refOf (pl.ext i j) a).bind fun x => (refsOf pl i (j + 1) r).map (x :: ·)
def ofCells (ag : Bool) (n : Nat) (cs : List AVal) : Option AVal :=
  if cs.length = n then (if ag then some (mkAgg cs) else match cs with | [x] => some x | _ => none) else none
def intBin (op : BinOp) (k : IntKind) (a b : Int) : Option PVal :=
  match op with
  | .add => some (.int k (k.wrap (a + b)))
  | .sub => some (.int k (k.wrap (a - b)))
  | .mul => some (.int k (k.wrap (a * b)))
  | .quo => if b = 0 then none else some (.int k (k.wrap (a.tdiv b)))
  | .rem => if b = 0 then none else some (.int k (a.tmod b))
  | .eql => some (.bool (a == b))
  | .neq => some (.bool (a != b))
  | .lss => some (.bool (decide (a < b)))
  | .leq => some (.bool (decide (a ≤ b)))
  | .gtr => some (.bool (decide (a > b)))
  | .geq => some (.bool (decide (a ≥ b)))
  | _ => none
def strBin (op : BinOp) (a b : ByteArray) : Option PVal :=
  match op with
  | .add => if a.size + b.size ≤ 9223372036854775807 then some (.str (a ++ b)) else none
  | .eql => some (.bool (a.toList == b.toList))
  | .neq => some (.bool (!(a.toList == b.toList)))
  | .lss => some (.bool (Op.bytesLess a.toList b.toList))
  | .leq => some (.bool (Op.bytesLess a.toList b.toList || a.toList == b.toList))
  | .gtr => some (.bool (!(Op.bytesLess a.toList b.toList || a.toList == b.toList)))
  | .geq => some (.bool (!(Op.bytesLess a.toList b.toList)))
  | _ => none
def binVal (op : BinOp) : AVal → AVal → Option PVal
  | .p (.int k a), .p (.int k' b) => if k = k' then intBin op k a b else none
  | .p (.str a), .p (.str b) => strBin op a b
  | _, _ => none
/-- Equality of two cells that Go compares by value. -/
def cellEq : Leaf → PVal → PVal → Option Bool
  | .i, .int k a, .int k' b => if k = k' then some (a == b) else none
  | .b, .bool a, .bool b => some (a == b)
  | .s, .str a, .str b => some (a.toList == b.toList)
  | _, _, _ => none
def cellsEq : List Leaf → List PVal → List PVal → Option Bool
  | [], [], [] => some true
  | l :: ls, a :: r, b :: q => (cellEq l a b).bind fun x => (cellsEq ls r q).map (x && ·)
  | _, _, _ => none
def eqVal : EqK → AVal → AVal → Option Bool
  | .b, .p (.bool a), .p (.bool b) => some (a == b)
  | .agg ls, .p (.agg a), .p (.agg b) => cellsEq ls a b
  | .sl, .p .nilslice, .p .nilslice => some true
  | .sl, .p (.sl _), .p .nilslice => some false
  | .sl, .p .nilslice, .p (.sl _) => some false
  | .sl, .rsl _ _ _, .p .nilslice => some false
  | .ptr, .rpt _ _ _, .p .nilptr => some false
  | .ptr, .p .nilptr, .p .nilptr => some true
  | .ptr, .p (.pt _ _ _), .p .nilptr => some false
  | .fn, .p .nilfn, .p .nilfn => some true
  | .fn, .p (.fn _ _ _), .p .nilfn => some false
  | _, _, _ => none
def keyEq : List Leaf → PVal → PVal → Option Bool
  | [l], a, b => cellEq l a b
  | ls, .agg a, .agg b => cellsEq ls a b
  | _, _, _ => none
def mapGet (ls : List Leaf) : List (PVal × PVal) → PVal → Option (Option PVal)
  | [], _ => some none
  | e :: r, k => (keyEq ls k e.1).bind fun b => (mapGet ls r k).map fun v => if b = true then some e.2 else v
def mapPut (ls : List Leaf) : List (PVal × PVal) → PVal → PVal → Option (List (PVal × PVal))
  | [], k, v => some [(k, v)]
  | e :: r, k, v => (keyEq ls k e.1).bind fun b => (mapPut ls r k v).map fun q => if b = true then (k, v) :: r else e :: q
def mapIdx (ls : List Leaf) : List (PVal × PVal) → PVal → Option Nat
  | [], _ => some 0
  | e :: r, k => (keyEq ls k e.1).bind fun b => if b = true then some 0 else (mapIdx ls r k).map (· + 1)
/-- The rows that a slice shows, pure ones. -/
def fillCells (cells : List AVal) : List (Nat × Nat × AVal) → Option (List AVal)
  | [] => some cells
  | (off, n, v) :: r =>
    let cs := v.cells
    if cs.length = n ∧ off + n ≤ cells.length then fillCells (cells.take off ++ cs ++ cells.drop (off + n)) r else none
/-- What a reference to the whole of an owned thing leads to. -/
def moveable (m : Mem) : AVal → Option (Place × AVal)
  | .rsl q 0 len => match getAt m q with
    | some (.own false z rows) => if rows.length = len then some (q, .own false z rows) else none
    | _ => none
  | .rpt q 0 0 => match getAt m q with
    | some (.own true z rows) => some (q, .own true z rows)
    | _ => none
  | .rmp q => match getAt m q with
    | some (.omap es) => some (q, .omap es)
    | _ => none
  | _ => none
/-- What is stored into a cell: a pure value as it is; what is owned elsewhere moves. -/
def putCell (m : Mem) (pl : Place) : AVal → Option Mem
  | .p x => if x.scalar then some (setAt m pl (.p x)) else none
  | v => (moveable m v).bind fun qa => if qa.1.s = pl.s then none else some (setAt (setAt m qa.1 .dead) pl qa.2)
def putCells (m : Mem) (pl : Place) (i : Nat) : Nat → List AVal → Option Mem
  | _, [] => some m
  | j, a :: r => (putCell m (pl.ext i j) a).bind fun m' => putCells m' pl i (j + 1) r
def AVal.isP : AVal → Bool
  | .p _ => true
  | _ => false
end Go.Proofs.Ytnmnijgoggombaa.X
/- Reading and writing at places. -/
namespace Go.Proofs.Ytnmnijgoggombaa.X
def Place.app (pl : Place) (r : List (Nat × Nat)) : Place := { pl with path := pl.path ++ r }
def Place.under (pl q : Place) : Prop := ∃ r, q = pl.app r
theorem Place.app_nil (pl : Place) : pl.app [] = pl := by simp [Place.app]
theorem Place.app_app (pl : Place) (r r' : List (Nat × Nat)) : (pl.app r).app r' = pl.app (r ++ r') := by simp [Place.app]
theorem Place.ext_eq (pl : Place) (i j : Nat) : pl.ext i j = pl.app [(i, j)] := rfl
theorem Place.under_refl (pl : Place) : pl.under pl := ⟨[], (Place.app_nil pl).symm⟩
theorem Place.under_app (pl : Place) (r : List (Nat × Nat)) : pl.under (pl.app r) := ⟨r, rfl⟩
theorem Place.app_inj {pl : Place} {r r' : List (Nat × Nat)} (h : pl.app r = pl.app r') : r = r' := by
  simp [Place.app] at h; exact h
theorem cellAt_some {rows : List (List AVal)} {i j : Nat} {a : AVal} : cellAt rows i j = some a ↔ ∃ row, rows[i]? = some row ∧ row[j]? = some a := by
  unfold cellAt
  cases rows[i]? <;> simp
theorem cellAt_modify (rows : List (List AVal)) (i j i' j' : Nat) (f : AVal → AVal) :
    cellAt (rows.modify i (·.modify j f)) i' j' = if i = i' ∧ j = j' then (cellAt rows i' j').map f else cellAt rows i' j' := by
  unfold cellAt
  rw [List.getElem?_modify]
  by_cases hi : i = i'
  · subst hi
    cases h : rows[i]? with
    | none => simp
    | some row =>
      simp only [Option.map_eq_map, Option.map_some, if_true, Option.bind_some, List.getElem?_modify, true_and]
      by_cases hj : j = j'
      · subst hj; simp
      · simp [hj]
  · cases h : rows[i']? <;> simp [hi]
theorem sub_append (r r' : List (Nat × Nat)) (a : AVal) : sub (r ++ r') a = (sub r a).bind (sub r') := by
  induction r generalizing a with
  | nil => simp [sub]
  | cons x r ih =>
    obtain ⟨i, j⟩ := x
    cases a <;> simp [sub]
    rename_i p z rows
    cases cellAt rows i j <;> simp [ih]
theorem sub_put_under (path : List (Nat × Nat)) (r : List (Nat × Nat)) (a x old : AVal) (h : sub path x = some old) :
    sub (path ++ r) (putSub path a x) = sub r a := by
  induction path generalizing x with
  | nil => simp [putSub]
  | cons q path ih =>
    obtain ⟨i, j⟩ := q
    cases x <;> simp [sub] at h
    rename_i p z rows
    cases hc : cellAt rows i j with
    | none => simp [hc] at h
    | some y =>
      simp only [hc, Option.bind_some] at h
      simp only [List.cons_append, putSub, sub, cellAt_modify, and_self, if_true, hc, Option.map_some, Option.bind_some]
      exact ih y h
/-- Two owned things of one shape. -/
inductive SameShape : AVal → AVal → Prop
  | same (x : AVal) : SameShape x x
  | own (p : Bool) (z : Nat) (rows rows' : List (List AVal)) (hl : rows'.length = rows.length)
      (hr : ∀ n : Nat, (∀ row ∈ rows, row.length = n) → ∀ row ∈ rows', row.length = n)
      (hc : ∀ i j a', cellAt rows' i j = some a' → ∃ a, cellAt rows i j = some a ∧ (a.scalar = true → a'.scalar = true)) : SameShape (.own p z rows) (.own p z rows')
theorem SameShape.refl (x : AVal) : SameShape x x := .same x
theorem SameShape.of_own {p : Bool} {z : Nat} {rows : List (List AVal)} {x' : AVal} (h : SameShape (.own p z rows) x') :
    ∃ rows', x' = .own p z rows' ∧ rows'.length = rows.length ∧ (∀ n : Nat, (∀ row ∈ rows, row.length = n) → ∀ row ∈ rows', row.length = n) ∧
      ∀ i j a', cellAt rows' i j = some a' → ∃ a, cellAt rows i j = some a ∧ (a.scalar = true → a'.scalar = true) := by
  cases h with
  | same => exact ⟨rows, rfl, rfl, fun _ h => h, fun i j a h => ⟨a, h, id⟩⟩
  | own _ _ _ rows' h1 h2 h3 => exact ⟨rows', rfl, h1, h2, h3⟩
theorem SameShape.of_else {x x' : AVal} (h : SameShape x x') (hx : ∀ p z rows, x ≠ .own p z rows) : x' = x := by
  cases h with
  | same => rfl
  | own p z rows rows' _ _ _ => exact absurd rfl (hx p z rows)
theorem SameShape.trans {a b c : AVal} (h : SameShape a b) (k : SameShape b c) : SameShape a c := by
  cases h with
  | same => exact k
  | own p z rows rows' h1 h2 h3 =>
    obtain ⟨rows'', rfl, k1, k2, k3⟩ := k.of_own
    refine .own p z rows rows'' (by omega) (fun n hn => k2 n (h2 n hn)) fun i j a' ha' => ?_
    obtain ⟨b, hb, hb'⟩ := k3 i j a' ha'
    obtain ⟨a, ha, ha''⟩ := h3 i j b hb
    exact ⟨a, ha, fun hs => hb' (ha'' hs)⟩
theorem scalar_putSub (path : List (Nat × Nat)) (a x : AVal) (ha : a.scalar = true) (hx : x.scalar = true) : (putSub path a x).scalar = true := by
  cases path with
  | nil => simpa [putSub] using ha
  | cons q path =>
    obtain ⟨i, j⟩ := q
    cases x <;> first | exact hx | rfl
theorem sub_put_else (path : List (Nat × Nat)) (q : List (Nat × Nat)) (a x x' old : AVal) (ha : a.scalar = true) (hp : sub path x = some old) (hq : ¬ ∃ r, q = path ++ r)
    (h : sub q (putSub path a x) = some x') : ∃ y, sub q x = some y ∧ SameShape y x' := by
  induction path generalizing x q with
  | nil => exact absurd ⟨q, rfl⟩ hq
  | cons c path ih =>
    obtain ⟨i, j⟩ := c
    cases x <;> simp [sub] at hp
    rename_i p z rows
    cases hc : cellAt rows i j with
    | none => simp [hc] at hp
    | some y =>
      simp only [hc, Option.bind_some] at hp
      cases q with
      | nil =>
        simp only [putSub, sub, Option.some.injEq] at h ⊢
        subst h
        refine ⟨_, rfl, .own _ _ _ _ (by simp) ?_ ?_⟩
        · intro n hn row hr
          rw [List.mem_iff_getElem?] at hr
          obtain ⟨k, hk⟩ := hr
          rw [List.getElem?_modify] at hk
          cases h0 : rows[k]? with
          | none => simp [h0] at hk
          | some row0 =>
            have := hn row0 (List.mem_of_getElem? h0)
            simp only [h0, Option.map_eq_map, Option.map_some, Option.some.injEq] at hk
            subst hk
            split <;> simp [this]
        · intro i' j' a' ha'
          rw [cellAt_modify] at ha'
          split at ha'
          · rename_i hij
            obtain ⟨rfl, rfl⟩ := hij
            rw [hc] at ha' ⊢
            simp only [Option.map_some, Option.some.injEq] at ha'
            subst ha'
            exact ⟨y, rfl, fun hy => scalar_putSub _ _ _ ha hy⟩
          · exact ⟨a', ha', id⟩
      | cons d q =>
        obtain ⟨i', j'⟩ := d
        simp only [putSub, sub, cellAt_modify] at h
        simp only [sub]
        split at h
        · rename_i hij
          obtain ⟨rfl, rfl⟩ := hij
          rw [hc] at h ⊢
          simp only [Option.map_some, Option.bind_some] at h ⊢
          exact ih q y hp (fun ⟨r, hr⟩ => hq ⟨r, by simp [hr]⟩) h
        · exact ⟨x', h, SameShape.refl _⟩
theorem getAt_eq (m : Mem) (pl : Place) : getAt m pl = (lk m pl.s).bind fun cs => (cs[pl.k]?).bind (sub pl.path) := rfl
theorem getAt_app (m : Mem) (pl : Place) (r : List (Nat × Nat)) : getAt m (pl.app r) = (getAt m pl).bind (sub r) := by
  simp only [getAt, Place.app]
  cases lk m pl.s with
  | none => rfl
  | some cs =>
    simp only [Option.bind_some]
    cases cs[pl.k]? with
    | none => rfl
    | some a => simp [sub_append]
theorem getAt_ext {m : Mem} {pl : Place} {p : Bool} {z : Nat} {rows : List (List AVal)} (h : getAt m pl = some (.own p z rows)) (i j : Nat) :
    getAt m (pl.ext i j) = cellAt rows i j := by
  rw [Place.ext_eq, getAt_app, h]
  simp only [Option.bind_some, sub]
  cases cellAt rows i j <;> rfl
theorem getAt_set_under {m : Mem} {pl : Place} {old : AVal} (h : getAt m pl = some old) (a : AVal) (r : List (Nat × Nat)) :
    getAt (setAt m pl a) (pl.app r) = sub r a := by
  simp only [getAt, setAt, Place.app] at *
  cases hl : lk m pl.s with
  | none => simp [hl] at h
  | some cs =>
    simp only [hl, Option.bind_some] at h
    cases hk : cs[pl.k]? with
    | none => simp [hk] at h
    | some x =>
      simp only [hk, Option.bind_some] at h
      simp only [lk, if_true, Option.bind_some, List.getElem?_modify, hk, Option.map_eq_map, Option.map_some]
      exact sub_put_under _ _ _ _ _ h
theorem getAt_set_self {m : Mem} {pl : Place} {old : AVal} (h : getAt m pl = some old) (a : AVal) : getAt (setAt m pl a) pl = some a := by
  have := getAt_set_under h a []
  simpa [Place.app_nil, sub] using this
theorem getAt_set_else {m : Mem} {pl q : Place} {old a x' : AVal} (ha : a.scalar = true) (hp : getAt m pl = some old) (hq : ¬ pl.under q)
    (h : getAt (setAt m pl a) q = some x') : ∃ y, getAt m q = some y ∧ SameShape y x' := by
  simp only [getAt, setAt] at *
  cases hl : lk m pl.s with
  | none => simp [hl] at hp
  | some cs =>
    simp only [hl, Option.bind_some] at hp
    cases hk : cs[pl.k]? with
    | none => simp [hk] at hp
    | some x =>
      simp only [hk, Option.bind_some] at hp
      simp only [hl, lk] at h
      split at h
      · rename_i hs
        simp only [Option.bind_some, List.getElem?_modify, Option.map_eq_map] at h
        rw [hs, hl]
        simp only [Option.bind_some]
        by_cases hkk : pl.k = q.k
        · rw [← hkk] at h ⊢
          simp only [hk, Option.map_some, if_true, Option.bind_some] at h ⊢
          refine sub_put_else _ _ _ _ _ _ ha hp ?_ h
          rintro ⟨r, hr⟩
          refine hq ⟨r, ?_⟩
          cases q; cases pl
          simp only [Place.app] at *
          simp_all
        · simp only [if_neg hkk] at h
          cases h0 : cs[q.k]? with
          | none => simp [h0] at h
          | some y => simp only [h0, Option.map_some, Option.bind_some] at h; exact ⟨x', by simpa using h, SameShape.refl _⟩
      · exact ⟨x', h, SameShape.refl _⟩
/-- What is read elsewhere and owns nothing on the way is as it was. -/
theorem getAt_set_other {m : Mem} {pl q : Place} (hs : q.s ≠ pl.s) (a : AVal) : getAt (setAt m pl a) q = getAt m q := by
  simp only [getAt, setAt]
  split
  · simp [lk, hs]
  · rfl
theorem modify_modify_congr {rows : List (List AVal)} {i j : Nat} {y : AVal} (h : cellAt rows i j = some y) {f g : AVal → AVal} (hfg : f y = g y) :
    rows.modify i (·.modify j f) = rows.modify i (·.modify j g) := by
  obtain ⟨row, h1, h2⟩ := cellAt_some.1 h
  apply List.ext_getElem?
  intro n
  simp only [List.getElem?_modify]
  by_cases hi : i = n
  · subst hi
    simp only [h1, if_true, Option.map_eq_map, Option.map_some, Option.some.injEq]
    apply List.ext_getElem?
    intro k
    simp only [List.getElem?_modify]
    by_cases hj : j = k
    · subst hj; simp [h2, hfg]
    · simp [hj]
  · simp [hi]
theorem putSub_snoc (path : List (Nat × Nat)) (i j : Nat) (a x : AVal) {p : Bool} {z : Nat} {rows : List (List AVal)} (h : sub path x = some (.own p z rows)) :
    putSub (path ++ [(i, j)]) a x = putSub path (.own p z (rows.modify i (·.modify j fun _ => a))) x := by
  induction path generalizing x with
  | nil => simp [sub] at h; subst h; simp [putSub]
  | cons c path ih =>
    obtain ⟨i0, j0⟩ := c
    cases x <;> simp [sub] at h
    rename_i p0 z0 rows0
    cases hc : cellAt rows0 i0 j0 with
    | none => simp [hc] at h
    | some y =>
      simp only [hc, Option.bind_some] at h
      simp only [List.cons_append, putSub]
      rw [modify_modify_congr hc (ih y h)]
theorem getAt_set_parent {m : Mem} {par : Place} {p : Bool} {z : Nat} {rows : List (List AVal)} (hp : getAt m par = some (.own p z rows)) (i j : Nat) (a : AVal) :
    getAt (setAt m (par.ext i j) a) par = some (.own p z (rows.modify i (·.modify j fun _ => a))) := by
  have hp' := hp
  simp only [getAt] at hp' ⊢
  cases hl : lk m par.s with
  | none => simp [hl] at hp'
  | some cs =>
    simp only [hl, Option.bind_some] at hp'
    cases hk : cs[par.k]? with
    | none => simp [hk] at hp'
    | some x =>
      simp only [hk, Option.bind_some] at hp'
      simp only [setAt, Place.ext, hl, lk, if_true, Option.bind_some, List.getElem?_modify, hk, Option.map_eq_map, Option.map_some]
      rw [putSub_snoc _ _ _ _ _ hp']
      have := sub_put_under par.path [] (.own p z (rows.modify i (·.modify j fun _ => a))) x _ hp'
      simpa [sub] using this
theorem sub_put_indep (p q : List (Nat × Nat)) (a x : AVal) (h1 : ¬ ∃ r, q = p ++ r) (h2 : ¬ ∃ r, p = q ++ r) : sub q (putSub p a x) = sub q x := by
  induction p generalizing q x with
  | nil => exact absurd ⟨q, rfl⟩ h1
  | cons c p ih =>
    cases q with
    | nil => exact absurd ⟨c :: p, rfl⟩ h2
    | cons e q =>
      obtain ⟨i, j⟩ := c
      obtain ⟨i', j'⟩ := e
      cases x <;> simp only [putSub, sub]
      rename_i pt z rows
      rw [cellAt_modify]
      by_cases hij : i = i' ∧ j = j'
      · obtain ⟨rfl, rfl⟩ := hij
        rw [if_pos ⟨rfl, rfl⟩]
        cases cellAt rows i j with
        | none => rfl
        | some y =>
          simp only [Option.map_some, Option.bind_some]
          exact ih q y (fun ⟨r, hr⟩ => h1 ⟨r, by simp [hr]⟩) (fun ⟨r, hr⟩ => h2 ⟨r, by simp [hr]⟩)
      · rw [if_neg hij]
theorem getAt_set_indep {m : Mem} {pl q : Place} (a : AVal) (h1 : ¬ pl.under q) (h2 : ¬ q.under pl) : getAt (setAt m pl a) q = getAt m q := by
  by_cases hs : q.s = pl.s
  · simp only [getAt, setAt]
    rw [hs]
    cases hl : lk m pl.s with
    | none => simp [hl]
    | some cs =>
      simp only [lk, if_true, Option.bind_some, List.getElem?_modify, Option.map_eq_map]
      by_cases hk : pl.k = q.k
      · rw [hk]
        cases hx : cs[q.k]? with
        | none => simp
        | some x =>
          simp only [Option.map_some, if_true, Option.bind_some]
          refine sub_put_indep _ _ _ _ (fun ⟨r, hr⟩ => h1 ⟨r, ?_⟩) (fun ⟨r, hr⟩ => h2 ⟨r, ?_⟩)
          · cases q; cases pl; simp_all [Place.app]
          · cases q; cases pl; simp_all [Place.app]
      · cases hx : cs[q.k]? with
        | none => simp
        | some x => simp [hk]
  · exact getAt_set_other hs a
theorem Place.ext_indep {pl : Place} {i j i' j' : Nat} (h : ¬ (i = i' ∧ j = j')) : ¬ (pl.ext i j).under (pl.ext i' j') := by
  rintro ⟨r, hr⟩
  have hl := congrArg (fun p => p.path) hr
  simp only [Place.app, Place.ext, List.append_assoc, List.append_cancel_left_eq] at hl
  simp at hl
  exact h ⟨hl.1.1.symm, hl.1.2.symm⟩
theorem Place.not_ext_under (par : Place) (i j : Nat) : ¬ (par.ext i j).under par := by
  rintro ⟨r, hr⟩
  have := congrArg (fun p => p.path.length) hr
  simp [Place.app, Place.ext] at this
end Go.Proofs.Ytnmnijgoggombaa.X
/- The relation under the four acts: a write, a move, a new block, a freeze. -/
namespace Go.Proofs.Ytnmnijgoggombaa.X
open Go.RowKit
structure Frz.le (F F' : Frz) : Prop where
  cell : ∀ b o v, F.cell b o = some v → F'.cell b o = some v
  map : ∀ r e, F.map r = some e → F'.map r = some e
theorem Frz.le_refl (F : Frz) : F.le F := ⟨fun _ _ _ h => h, fun _ _ h => h⟩
theorem PV.mono {F F' : Frz} (h : F.le F') {x : PVal} {c : Value} (hx : PV F x c) : PV F' x c := by
  induction hx with
  | int k n => exact .int k n
  | bool b => exact .bool b
  | str s => exact .str s
  | nilptr => exact .nilptr
  | nilslice => exact .nilslice
  | nilmap => exact .nilmap
  | nilfn => exact .nilfn
  | yl l => exact .yl l
  | fn f fst caps fv cv hs0 hs _ _ ih0 ih => exact .fn f fst caps fv cv hs0 hs ih0 ih
  | agg cs cv hs hc _ ih => exact .agg cs cv hs hc ih
  | tup cs cv hs _ ih => exact .tup cs cv hs ih
  | sl rows b o cap z f hcap hz hc _ ih => exact .sl rows b o cap z f hcap hz (fun i j row p h1 h2 => ⟨(hc i j row p h1 h2).1, h.cell _ _ _ (hc i j row p h1 h2).2⟩) ih
  | sl0 ad => exact .sl0 ad
  | pt rows i0 j0 b o z f hz hc _ ih => exact .pt rows i0 j0 b o z f hz (fun i j row p h1 h2 => ⟨(hc i j row p h1 h2).1, h.cell _ _ _ (hc i j row p h1 h2).2⟩) ih
  | mp es r ev hr hs _ _ ihk ihv => exact .mp es r ev (h.map _ _ hr) hs ihk ihv
mutual
/-- The places that a value leads to. -/
def AVal.ment (P : Place → Bool) : AVal → Bool
  | .agg cs => AVal.mentL P cs
  | .tup cs => AVal.mentL P cs
  | .rsl pl _ _ => P pl
  | .rpt pl _ _ => P pl
  | .rmp pl => P pl
  | .rit pl mp _ => P pl || P mp
  | _ => false
def AVal.mentL (P : Place → Bool) : List AVal → Bool
  | [] => false
  | a :: r => a.ment P || AVal.mentL P r
end
theorem mentL_mem {P : Place → Bool} {l : List AVal} (h : AVal.mentL P l = false) {i : Nat} {a : AVal} (ha : l[i]? = some a) : a.ment P = false := by
  induction l generalizing i with
  | nil => simp at ha
  | cons x l ih =>
    simp only [AVal.mentL, Bool.or_eq_false_iff] at h
    cases i with
    | zero => simp at ha; exact ha ▸ h.1
    | succ i => exact ih h.2 (by simpa using ha)
/-- A slot's value stays related where no place that it leads to has come to lie elsewhere. -/
theorem VR.mono {G G' : Gh} (hF : G.F.le G'.F) (P : Place → Bool) (hl : ∀ pl, P pl = false → ∀ L, G'.loc pl = some L → G.loc pl = some L)
    {x : AVal} {c : Value} (hx : VR G x c) (hm : x.ment P = false) : VR G' x c := by
  induction hx with
  | p h => exact .p (h.mono hF)
  | unk c h => exact .unk c h
  | agg cs cv hs hc _ ih => exact .agg cs cv hs hc fun i a v h1 h2 => ih i a v h1 h2 (mentL_mem hm h1)
  | tup cs cv hs _ ih => exact .tup cs cv hs fun i a v h1 h2 => ih i a v h1 h2 (mentL_mem hm h1)
  | rsl pl off len ad k h => exact .rsl pl off len ad k fun b o cap z hL => h b o cap z (hl pl hm _ hL)
  | rpt pl i j ad h => exact .rpt pl i j ad fun b o cap z hL => h b o cap z (hl pl hm _ hL)
  | rmp pl r h => exact .rmp pl r fun b o cap z hL => h b o cap z (hl pl hm _ hL)
  | rit pl mp mb ad h h' =>
    simp only [AVal.ment, Bool.or_eq_false_iff] at hm
    exact .rit pl mp mb ad (fun b o cap z hL => h b o cap z (hl pl hm.1 _ hL)) (fun b o cap z hL => h' b o cap z (hl mp hm.2 _ hL))
mutual
theorem AVal.ment_false : (x : AVal) → x.ment (fun _ => false) = false
  | .agg cs => by simp only [AVal.ment]; exact AVal.mentL_false cs
  | .tup cs => by simp only [AVal.ment]; exact AVal.mentL_false cs
  | .rsl _ _ _ => rfl
  | .rpt _ _ _ => rfl
  | .rmp _ => rfl
  | .p _ => rfl
  | .own _ _ _ => rfl
  | .omap _ => rfl
  | .dead => rfl
  | .unk => rfl
  | .siter _ _ => rfl
  | .smap _ => rfl
  | .miter _ _ _ => rfl
  | .rit _ _ _ => rfl
theorem AVal.mentL_false : (l : List AVal) → AVal.mentL (fun _ => false) l = false
  | [] => rfl
  | a :: r => by simp only [AVal.mentL, AVal.ment_false a, AVal.mentL_false r, Bool.or_self]
end
theorem VR.mono' {G G' : Gh} (hF : G.F.le G'.F) (hl : ∀ pl L, G'.loc pl = some L → G.loc pl = some L)
    {x : AVal} {c : Value} (hx : VR G x c) : VR G' x c :=
  hx.mono hF (fun _ => false) (fun pl _ L h => hl pl L h) (AVal.ment_false x)
/-- What holds of a cell holds of it at another place, in another world, where all that it leans on came along. -/
theorem HR.move {G G' : Gh} {w w' : World} {q q' : Place} {y x' : AVal} (h : HR G w q y) (hsh : SameShape y x') (hF : G.F.le G'.F)
    (hloc : ∀ L, G.loc q = some L → G'.loc q' = some L ∧ w'.heap[L.b]? = w.heap[L.b]?) (hcv : G'.cv q' = G.cv q)
    (hch : ∀ i j, G'.cv (q'.ext i j) = G.cv (q.ext i j)) : HR G' w' q' x' := by
  cases y with
  | p x =>
    obtain rfl := hsh.of_else (by simp)
    simp only [HR] at h ⊢
    rw [hcv]; exact h.mono hF
  | own ptr z rows =>
    obtain ⟨rows', rfl, hlen, hrow, hcell⟩ := hsh.of_own
    obtain ⟨b, o, cap, cs, ty, h1, h2, h3, h4, h5, h6, h7, h8⟩ := h
    obtain ⟨h1', hh⟩ := hloc _ h1
    refine ⟨b, o, cap, cs, ty, h1', by rw [hcv, hlen]; exact h2, by rw [hh]; exact h3, h4, by omega, h6, hrow z h7, ?_⟩
    intro i j a' ha'
    obtain ⟨a, ha, hs⟩ := hcell i j a' ha'
    exact ⟨hs (h8 i j a ha).1, by rw [hch]; exact (h8 i j a ha).2⟩
  | omap es =>
    obtain rfl := hsh.of_else (by simp)
    obtain ⟨r, ev, clock, h1, h2, h3, h4, h5, h6⟩ := h
    obtain ⟨h1', hh⟩ := hloc _ h1
    exact ⟨r, ev, clock, h1', by rw [hcv]; exact h2, by rw [hh]; exact h3, h4, fun i e v a b => ⟨(h5 i e v a b).1.mono hF, (h5 i e v a b).2.1.mono hF, (h5 i e v a b).2.2⟩, h6⟩
  | dead =>
    obtain rfl := hsh.of_else (by simp)
    trivial
  | agg _ => exact h.elim
  | tup _ => exact h.elim
  | rsl _ _ _ => exact h.elim
  | rpt _ _ _ => exact h.elim
  | rmp _ => exact h.elim
  | unk => exact h.elim
  | rit _ _ _ => exact h.elim
  | siter s pos =>
    obtain rfl := hsh.of_else (by simp)
    obtain ⟨r, h1, h2, h3⟩ := h
    obtain ⟨h1', hh⟩ := hloc _ h1
    exact ⟨r, h1', by rw [hcv]; exact h2, by rw [hh]; exact h3⟩
  | smap n =>
    obtain rfl := hsh.of_else (by simp)
    obtain ⟨r, ev, clock, h1, h2, h3, h4⟩ := h
    obtain ⟨h1', hh⟩ := hloc _ h1
    exact ⟨r, ev, clock, h1', by rw [hcv]; exact h2, by rw [hh]; exact h3, h4⟩
  | miter mb n dn =>
    obtain rfl := hsh.of_else (by simp)
    obtain ⟨r, h1, h2, h3⟩ := h
    obtain ⟨h1', hh⟩ := hloc _ h1
    exact ⟨r, h1', by rw [hcv]; exact h2, by rw [hh]; exact h3⟩
theorem Place.ext_inj {q q' : Place} {i j i' j' : Nat} (h : q.ext i j = q'.ext i' j') : q = q' ∧ i = i' ∧ j = j' := by
  cases q; cases q'
  simp [Place.ext] at h
  obtain ⟨rfl, rfl, rfl, rfl, rfl⟩ := h
  exact ⟨rfl, rfl, rfl⟩
theorem idx_inj {z i j i' j' : Nat} (hj : j < z) (hj' : j' < z) (h : i * z + j = i' * z + j') : i = i' ∧ j = j' := by
  have hz : 0 < z := by omega
  have h1 : (i * z + j) / z = i := by rw [Nat.mul_comm, Nat.mul_add_div hz, Nat.div_eq_of_lt hj]; rfl
  have h2 : (i' * z + j') / z = i' := by rw [Nat.mul_comm, Nat.mul_add_div hz, Nat.div_eq_of_lt hj']; rfl
  have e : i = i' := by rw [← h1, ← h2, h]
  subst e
  exact ⟨rfl, by omega⟩
theorem cellAt_lt {rows : List (List AVal)} {i j : Nat} {a : AVal} {z : Nat} (hz : ∀ row ∈ rows, row.length = z) (h : cellAt rows i j = some a) :
    i < rows.length ∧ j < z := by
  obtain ⟨row, h1, h2⟩ := cellAt_some.1 h
  have := hz row (List.mem_of_getElem? h1)
  obtain ⟨h3, _⟩ := List.getElem?_eq_some_iff.1 h1
  obtain ⟨h4, _⟩ := List.getElem?_eq_some_iff.1 h2
  omega
open Classical in
/-- The ghosts behind a write into a cell. -/
noncomputable def Gh.wrote (G : Gh) (pl : Place) (c : Value) : Gh :=
  { F := G.F, loc := fun q => if pl.under q then none else G.loc q, cv := fun q => if q = pl then c else G.cv q }
theorem Gh.wrote_loc {G : Gh} {pl : Place} {c : Value} {q : Place} {L : Loc} (h : (G.wrote pl c).loc q = some L) : G.loc q = some L := by
  simp only [Gh.wrote] at h
  split at h
  · cases h
  · exact h
theorem getAt_dead {m : Mem} {pl q : Place} {old x' : AVal} (h : getAt m pl = some old) (hq : pl.under q) (hx : getAt (setAt m pl .dead) q = some x') :
    x' = .dead := by
  obtain ⟨r, rfl⟩ := hq
  rw [getAt_set_under h] at hx
  cases r with
  | nil => simp [sub] at hx; exact hx.symm
  | cons a r => simp [sub] at hx
/-- A WRITE of one cell's value into a cell that is owned. -/
theorem write_ok {C : Ctx} {G : Gh} {w : World} {m : Mem} (hm : MR G w m) (hg : Good C G w) {par : Place} {ptr : Bool} {z : Nat} {rows : List (List AVal)}
    (hp : getAt m par = some (.own ptr z rows)) {i j : Nat} {old : AVal} (hc : cellAt rows i j = some old) (c : Value) {b o cap : Nat} (hL : G.loc par = some ⟨b, o, cap, z⟩) :
    w.cell? ⟨b, o + i * z + j, none⟩ = some (G.cv (par.ext i j)) ∧ w.frozen? ⟨b, o + i * z + j, none⟩ = false ∧
    MR (G.wrote (par.ext i j) c) (w.setCell ⟨b, o + i * z + j, none⟩ c) (setAt m (par.ext i j) .dead) ∧
    Good C (G.wrote (par.ext i j) c) (w.setCell ⟨b, o + i * z + j, none⟩ c) ∧ G.F.le (G.wrote (par.ext i j) c).F := by
  have hH := hm par _ hp
  obtain ⟨b', o', cap', cs, ty, h1, h2, h3, h4, h5, h6, h7, h8⟩ := hH
  rw [hL] at h1
  simp only [Option.some.injEq, Loc.mk.injEq, and_true] at h1
  obtain ⟨rfl, rfl, rfl⟩ := h1
  have hcell := (h8 i j old hc).2
  have hget : getAt m (par.ext i j) = some old := by rw [getAt_ext hp]; exact hc
  have hlt := cellAt_lt h7 hc
  refine ⟨by simp [World.cell?, h3, hcell], by simp [World.frozen?, h3], ?_, ?_, Frz.le_refl _⟩
  · intro q x' hx
    by_cases hq : (par.ext i j).under q
    · rw [getAt_dead hget hq hx]; trivial
    · obtain ⟨y, hy, hsh⟩ := getAt_set_else rfl hget hq hx
      have hne : q ≠ par.ext i j := fun e => hq (e ▸ Place.under_refl _)
      have hHy := hm q y hy
      have hloc : (G.wrote (par.ext i j) c).loc q = G.loc q := by simp [Gh.wrote, hq]
      have hcv : (G.wrote (par.ext i j) c).cv q = G.cv q := by simp [Gh.wrote, hne]
      by_cases hqp : q = par
      · subst hqp
        rw [hp] at hy
        cases hy
        obtain ⟨rows', rfl, g1, g2, g3⟩ := hsh.of_own
        refine ⟨b, o, cap, cs.setIfInBounds (o + i * z + j) c, ty, by rw [hloc, hL], by rw [hcv, g1]; exact h2, ?_, by simp; exact h4, by omega, h6, g2 z h7, ?_⟩
        · exact heap_setCell_same w b _ cs ty c h3
        · intro i' j' a' ha'
          obtain ⟨a, ha, hs⟩ := g3 i' j' a' ha'
          refine ⟨hs (h8 i' j' a ha).1, ?_⟩
          have hlt' := cellAt_lt h7 ha
          by_cases hij : i' = i ∧ j' = j
          · obtain ⟨rfl, rfl⟩ := hij
            have : o + i' * z + j' < cs.size := (Array.getElem?_eq_some_iff.1 hcell).1
            simp [Gh.wrote, this]
          · have hne2 : o + i * z + j ≠ o + i' * z + j' := fun e => hij (by
              have := idx_inj hlt.2 hlt'.2 (show i * z + j = i' * z + j' by omega)
              exact ⟨this.1.symm, this.2.symm⟩)
            have hne3 : q.ext i' j' ≠ q.ext i j := fun e => hij (by have := Place.ext_inj e; exact this.2)
            rw [Array.getElem?_setIfInBounds_ne hne2]
            simp only [Gh.wrote, if_neg hne3]
            exact (h8 i' j' a ha).2
      · refine hHy.move hsh (Frz.le_refl _) ?_ hcv ?_
        · intro L hLq
          refine ⟨by rw [hloc]; exact hLq, heap_setCell_other w _ _ _ ?_⟩
          intro e
          exact hqp (hg.inj q par L _ hLq hL e)
        · intro i' j'
          have : q.ext i' j' ≠ par.ext i j := fun e => hqp (Place.ext_inj e).1
          simp [Gh.wrote, this]
  · have hbl : ∀ k, k ≠ b → (w.setCell ⟨b, o + i * z + j, none⟩ c).heap[k]? = w.heap[k]? := fun k hk => heap_setCell_other w _ _ _ hk
    refine ⟨?_, ?_, ?_, ?_, ?_, ?_, by simpa using hg.size, ?_, ?_, hg.fz0, hg.fm0, hg.fzn, hg.fmn, hg.os, hg.tape, hg.output⟩
    · intro b1 o1 v hv
      have hne := hg.fzl b1 o1 v hv par _ hL
      rw [World.cell?_of_block (hbl b1 (fun e => hne e.symm))]
      exact hg.fz b1 o1 v hv
    · exact fun b1 o1 v hv pl L hL' => hg.fzl b1 o1 v hv pl L (Gh.wrote_loc hL')
    · intro r es hr
      rw [hbl r (fun e => hg.fml r es hr par _ hL e.symm)]
      exact hg.fm r es hr
    · exact fun r es hr pl L hL' => hg.fml r es hr pl L (Gh.wrote_loc hL')
    · exact fun pl pl' L L' h h' e => hg.inj pl pl' L L' (Gh.wrote_loc h) (Gh.wrote_loc h') e
    · exact fun pl L h => by simpa using hg.bnd pl L (Gh.wrote_loc h)
    · intro k hk hmine
      have hne : k ≠ b := by
        intro e
        subst e
        rcases hg.own par _ hL with h | h
        · simp at h; omega
        · exact hmine h
      rw [hbl k hne]
      exact hg.keep k hk hmine
    · exact fun pl L h => hg.own pl L (Gh.wrote_loc h)
end Go.Proofs.Ytnmnijgoggombaa.X
/- Vacate, attach, assemble: what is owned goes from place to place; new blocks. -/
namespace Go.Proofs.Ytnmnijgoggombaa.X
open Go.RowKit
/-- A content that is held in hand, under the name of a place. -/
def Held (G : Gh) (w : World) (pl : Place) (a : AVal) : Prop := ∀ r x, sub r a = some x → HR G w (pl.app r) x
def Gone (m : Mem) (pl : Place) : Prop := ∀ q x, pl.under q → getAt m q = some x → x = .dead
theorem MR.held {G : Gh} {w : World} {m : Mem} (h : MR G w m) {pl : Place} {a : AVal} (ha : getAt m pl = some a) : Held G w pl a := by
  intro r x hx
  exact h _ _ (by rw [getAt_app, ha]; exact hx)
theorem Held.sub {G : Gh} {w : World} {pl : Place} {p : Bool} {z : Nat} {rows : List (List AVal)} (h : Held G w pl (.own p z rows)) {i j : Nat} {a : AVal}
    (ha : cellAt rows i j = some a) : Held G w (pl.ext i j) a := by
  intro r x hx
  have := h ((i, j) :: r) x (by simp [X.sub, ha, hx])
  simpa [Place.ext_eq, Place.app_app] using this
theorem Held.here {G : Gh} {w : World} {pl : Place} {a : AVal} (h : Held G w pl a) : HR G w pl a := by
  have := h [] a rfl
  rwa [Place.app_nil] at this
theorem vacate {G : Gh} {w : World} {m : Mem} (h : MR G w m) {pl : Place} {old : AVal} (ho : getAt m pl = some old) :
    MR G w (setAt m pl .dead) ∧ Gone (setAt m pl .dead) pl := by
  refine ⟨?_, fun q x hq hx => getAt_dead ho hq hx⟩
  intro q x' hx
  by_cases hq : pl.under q
  · rw [getAt_dead ho hq hx]; trivial
  · obtain ⟨y, hy, hsh⟩ := getAt_set_else rfl ho hq hx
    exact (h q y hy).move hsh (Frz.le_refl _) (fun L hL => ⟨hL, rfl⟩) rfl fun _ _ => rfl
theorem Gone.set {m : Mem} {pl : Place} (h : Gone m pl) {q : Place} (hs : q.s ≠ pl.s) (a : AVal) : Gone (setAt m q a) pl := by
  intro q' x hq hx
  have : q'.s = pl.s := by obtain ⟨r, rfl⟩ := hq; rfl
  rw [getAt_set_other (by rw [this]; exact fun e => hs e.symm)] at hx
  exact h q' x hq hx
theorem Place.under_s {pl q : Place} (h : pl.under q) : q.s = pl.s := by obtain ⟨r, rfl⟩ := h; rfl
theorem Place.rem {pl : Place} (r : List (Nat × Nat)) : (pl.app r).path.drop pl.path.length = r := by simp [Place.app]
open Classical in
noncomputable def Gh.attached (G : Gh) (src dst : Place) : Gh :=
  { F := G.F
    loc := fun q => if dst.under q then G.loc (src.app (q.path.drop dst.path.length)) else if src.under q then none else G.loc q
    cv := fun q => if dst.under q then G.cv (src.app (q.path.drop dst.path.length)) else G.cv q }
theorem Gh.attached_under (G : Gh) (src dst : Place) (r : List (Nat × Nat)) :
    (G.attached src dst).loc (dst.app r) = G.loc (src.app r) ∧ (G.attached src dst).cv (dst.app r) = G.cv (src.app r) := by
  simp [Gh.attached, Place.under_app, Place.rem]
theorem Gh.attached_loc {G : Gh} {src dst q : Place} {L : Loc} (hq : ¬ dst.under q) (h : (G.attached src dst).loc q = some L) : G.loc q = some L ∧ ¬ src.under q := by
  simp only [Gh.attached, hq, if_false] at h
  split at h
  · cases h
  · exact ⟨h, by assumption⟩
/-- ATTACH: what is held comes into a dead cell that holds the very value. -/
theorem attach_ok {C : Ctx} {G : Gh} {w : World} {m : Mem} (hm : MR G w m) (hg : Good C G w) {src dst : Place} {a : AVal} (ha : a.scalar = true)
    (hd : getAt m dst = some .dead) (hh : Held G w src a) (hgone : Gone m src) (hne : src.s ≠ dst.s) (hcv : G.cv dst = G.cv src) :
    MR (G.attached src dst) w (setAt m dst a) ∧ Good C (G.attached src dst) w := by
  have hsd : ∀ q, dst.under q → ¬ src.under q := fun q h h' => hne (by rw [← Place.under_s h, ← Place.under_s h'])
  refine ⟨?_, ?_⟩
  · intro q x' hx
    by_cases hq : dst.under q
    · obtain ⟨r, rfl⟩ := hq
      rw [getAt_set_under hd] at hx
      have hH := hh r x' hx
      refine hH.move (SameShape.refl _) (Frz.le_refl _) (fun L hL => ⟨by rw [(Gh.attached_under G src dst r).1]; exact hL, rfl⟩) (Gh.attached_under G src dst r).2 ?_
      intro i j
      rw [Place.ext_eq, Place.ext_eq, Place.app_app, Place.app_app]
      exact (Gh.attached_under G src dst _).2
    · obtain ⟨y, hy, hsh⟩ := getAt_set_else ha hd hq hx
      by_cases hsq : src.under q
      · have := hgone q y hsq hy
        subst this
        rw [hsh.of_else (by simp)]
        trivial
      · refine (hm q y hy).move hsh (Frz.le_refl _) (fun L hL => ⟨by simp [Gh.attached, hq, hsq, hL], rfl⟩) (by simp [Gh.attached, hq]) ?_
        intro i j
        by_cases hu : dst.under (q.ext i j)
        · obtain ⟨r, hr⟩ := hu
          rw [hr, (Gh.attached_under G src dst r).2]
          have : r = [] := by
            rcases List.eq_nil_or_concat r with h | ⟨r', ⟨i', j'⟩, h⟩
            · exact h
            · exfalso
              subst h
              refine hq ⟨r', ?_⟩
              have e : q.ext i j = (dst.app r').ext i' j' := by rw [hr, Place.ext_eq (dst.app r'), Place.app_app]; simp
              exact (Place.ext_inj e).1
          subst this
          rw [Place.app_nil, Place.app_nil, hcv]
        · simp [Gh.attached, hu]
  · have hl : ∀ q L, (G.attached src dst).loc q = some L → ∃ q', G.loc q' = some L := by
      intro q L h
      by_cases hq : dst.under q
      · obtain ⟨r, rfl⟩ := hq
        rw [(Gh.attached_under G src dst r).1] at h
        exact ⟨_, h⟩
      · exact ⟨_, (Gh.attached_loc hq h).1⟩
    refine ⟨hg.fz, ?_, hg.fm, ?_, ?_, ?_, hg.size, hg.keep, ?_, hg.fz0, hg.fm0, hg.fzn, hg.fmn, hg.os, hg.tape, hg.output⟩
    · intro b o v hv pl L hL
      obtain ⟨q, hq⟩ := hl pl L hL
      exact hg.fzl b o v hv q L hq
    · intro r es hr pl L hL
      obtain ⟨q, hq⟩ := hl pl L hL
      exact hg.fml r es hr q L hq
    · intro q q' L L' h h' e
      by_cases hq : dst.under q <;> by_cases hq' : dst.under q'
      · obtain ⟨r, rfl⟩ := hq
        obtain ⟨r', rfl⟩ := hq'
        rw [(Gh.attached_under G src dst r).1] at h
        rw [(Gh.attached_under G src dst r').1] at h'
        rw [Place.app_inj (hg.inj _ _ _ _ h h' e)]
      · obtain ⟨r, rfl⟩ := hq
        rw [(Gh.attached_under G src dst r).1] at h
        obtain ⟨h1, h2⟩ := Gh.attached_loc hq' h'
        have := hg.inj _ _ _ _ h h1 e
        exact absurd ⟨r, this.symm⟩ h2
      · obtain ⟨r, rfl⟩ := hq'
        rw [(Gh.attached_under G src dst r).1] at h'
        obtain ⟨h1, h2⟩ := Gh.attached_loc hq h
        have := hg.inj _ _ _ _ h' h1 e.symm
        exact absurd ⟨r, this.symm⟩ h2
      · exact hg.inj _ _ _ _ (Gh.attached_loc hq h).1 (Gh.attached_loc hq' h').1 e
    · intro q L h
      obtain ⟨q', hq'⟩ := hl q L h
      exact hg.bnd q' L hq'
    · intro q L h
      obtain ⟨q', hq'⟩ := hl q L h
      exact hg.own q' L hq'
/-- A pure value in a dead cell that holds it. -/
theorem fill_ok {G : Gh} {w : World} {m : Mem} (hm : MR G w m) {dst : Place} {x : PVal} (hx : x.scalar = true)
    (hd : getAt m dst = some .dead) (hp : PV G.F x (G.cv dst)) : MR G w (setAt m dst (.p x)) := by
  intro q x' hq
  by_cases hu : dst.under q
  · obtain ⟨r, rfl⟩ := hu
    rw [getAt_set_under hd] at hq
    cases r with
    | nil => simp [sub] at hq; subst hq; rw [Place.app_nil]; exact hp
    | cons c r => simp [sub] at hq
  · obtain ⟨y, hy, hsh⟩ := getAt_set_else (a := .p x) hx hd hu hq
    exact (hm q y hy).move hsh (Frz.le_refl _) (fun L hL => ⟨hL, rfl⟩) rfl fun _ _ => rfl
open Classical in
noncomputable def Gh.assembled (G : Gh) (s : Nat) (root : Value) (L : Loc) (cs : Array Value) (src : Nat → Nat → Option Place) (vs : List Place) : Gh :=
  { F := G.F
    loc := fun q =>
      if q.s = s then (if q.k = 0 then (match q.path with
        | [] => some L
        | (i, j) :: r => (src i j).bind fun sp => G.loc (sp.app r)) else none)
      else if ∃ v ∈ vs, v.under q then none else G.loc q
    cv := fun q =>
      if q.s = s then (match q.path with
        | [] => root
        | (i, j) :: r => if r = [] then (cs[L.o + i * L.z + j]?).getD undef else match src i j with
          | some sp => G.cv (sp.app r)
          | none => undef)
      else G.cv q }
/-- ASSEMBLE: a new root at a site, in a new block or in the block of what was vacated; its cells are pure, dead, or held. -/
theorem assemble_ok {C : Ctx} {G : Gh} {w w' : World} {m : Mem} (hm : MR G w m) (hg : Good C G w) (s : Nat) (vs : List Place) (hgone : ∀ v ∈ vs, Gone m v) (hvs : ∀ v ∈ vs, v.s ≠ s)
    (b o cap z : Nat) (cs : Array Value) (ty : TypeId) (ptr : Bool) (rows : List (List AVal)) (src : Nat → Nat → Option Place)
    (hheap : w'.heap[b]? = some (.cells cs ty (0, 0))) (hother : ∀ k, k < w.heap.size → k ≠ b → w'.heap[k]? = w.heap[k]?) (hsize : w.heap.size ≤ w'.heap.size)
    (hos : w'.os = w.os) (htape : w'.tape = w.tape) (hout : w'.output = w.output)
    (hb : w.heap.size ≤ b ∨ ∃ v ∈ vs, ∃ L, G.loc v = some L ∧ L.b = b)
    (hcs : o + cap * z ≤ cs.size) (hcap : rows.length ≤ cap) (hmax : cap ≤ capMax ptr) (hz : ∀ row ∈ rows, row.length = z)
    (hcell : ∀ i j a, cellAt rows i j = some a → a.scalar = true ∧ ∃ c, cs[o + i * z + j]? = some c ∧
      ((∃ x, a = .p x ∧ PV G.F x c) ∨ a = .dead ∨ ∃ sp, src i j = some sp ∧ Held G w sp a ∧ G.cv sp = c))
    (hsrc : ∀ i j sp, src i j = some sp → (∃ v ∈ vs, v.under sp) ∧ ∀ v ∈ vs, ¬ sp.under v)
    (hinj : ∀ i j i' j' sp sp' r r', src i j = some sp → src i' j' = some sp' → sp.app r = sp'.app r' → i = i' ∧ j = j') :
    let G' := G.assembled s (if ptr then .pointer (some ⟨b, o, none⟩) else .slice (some ⟨b, o, none⟩) rows.length cap) ⟨b, o, cap, z⟩ cs src vs
    MR G' w' ((s, [.own ptr z rows]) :: m) ∧ Good C G' w' ∧ G'.F = G.F ∧ G'.loc ⟨s, 0, []⟩ = some ⟨b, o, cap, z⟩ ∧
      (∀ pl, pl.s ≠ s → ∀ L, G'.loc pl = some L → G.loc pl = some L) ∧ (∀ pl, pl.s ≠ s → G'.cv pl = G.cv pl) ∧
      (∀ i j c, cs[o + i * z + j]? = some c → G'.cv ((⟨s, 0, []⟩ : Place).ext i j) = c) ∧
      G'.cv ⟨s, 0, []⟩ = (if ptr then .pointer (some ⟨b, o, none⟩) else .slice (some ⟨b, o, none⟩) rows.length cap) := by
  intro G'
  have hblk : ∀ q L, G.loc q = some L → (∀ v ∈ vs, q ≠ v) → L.b ≠ b := by
    intro q L hL hq
    rcases hb with h | ⟨v, hv, Lv, hLv, e⟩
    · have := hg.bnd q L hL; omega
    · intro e'
      exact hq v hv (hg.inj q v L Lv hL hLv (e'.trans e.symm))
  have hkeep : ∀ q L, G.loc q = some L → (∀ v ∈ vs, q ≠ v) → w'.heap[L.b]? = w.heap[L.b]? := fun q L hL hq =>
    hother _ (hg.bnd q L hL) (hblk q L hL hq)
  have hlo : ∀ q, q.s ≠ s → (∀ v ∈ vs, ¬ v.under q) → G'.loc q = G.loc q := by
    intro q hq hv
    have : ¬ ∃ v ∈ vs, v.under q := fun ⟨v, h1, h2⟩ => hv v h1 h2
    simp [G', Gh.assembled, hq, this]
  have hlo' : ∀ q L, q.s ≠ s → G'.loc q = some L → G.loc q = some L ∧ ∀ v ∈ vs, ¬ v.under q := by
    intro q L hq h
    simp only [G', Gh.assembled, hq, if_false] at h
    split at h
    · cases h
    · rename_i hn
      exact ⟨h, fun v hv hu => hn ⟨v, hv, hu⟩⟩
  have hcvo : ∀ q, q.s ≠ s → G'.cv q = G.cv q := by
    intro q hq
    simp [G', Gh.assembled, hq]
  have hroot : G'.loc ⟨s, 0, []⟩ = some ⟨b, o, cap, z⟩ := by simp [G', Gh.assembled]
  have hcvr : G'.cv ⟨s, 0, []⟩ = (if ptr then .pointer (some ⟨b, o, none⟩) else .slice (some ⟨b, o, none⟩) rows.length cap) := by simp [G', Gh.assembled]
  have hcvc : ∀ i j c, cs[o + i * z + j]? = some c → G'.cv ((⟨s, 0, []⟩ : Place).ext i j) = c := by
    intro i j c hc
    simp [G', Gh.assembled, Place.ext, hc]
  refine ⟨?_, ?_, rfl, hroot, fun pl hpl L hL => (hlo' pl L hpl hL).1, hcvo, hcvc, hcvr⟩
  · intro q x' hx
    by_cases hq : q.s = s
    · obtain ⟨s', k, path⟩ := q
      simp only at hq
      subst hq
      simp only [getAt, lk, if_true, Option.bind_some] at hx
      cases k with
      | succ k => simp at hx
      | zero =>
        simp only [List.getElem?_cons_zero, Option.bind_some] at hx
        cases path with
        | nil =>
          simp only [sub, Option.some.injEq] at hx
          subst hx
          refine ⟨b, o, cap, cs, ty, hroot, hcvr, hheap, hcs, hcap, hmax, hz, ?_⟩
          intro i j a ha
          obtain ⟨h1, c, hc, _⟩ := hcell i j a ha
          exact ⟨h1, by rw [hcvc i j c hc]; exact hc⟩
        | cons ij r =>
          obtain ⟨i, j⟩ := ij
          simp only [sub] at hx
          cases ha : cellAt rows i j with
          | none => simp [ha] at hx
          | some a =>
            simp only [ha, Option.bind_some] at hx
            obtain ⟨_, c, hc, hk⟩ := hcell i j a ha
            rcases hk with ⟨x, rfl, hpx⟩ | rfl | ⟨sp, hsp, hheld, hcvs⟩
            · cases r with
              | nil =>
                simp only [sub, Option.some.injEq] at hx
                subst hx
                show PV G'.F x (G'.cv _)
                have := hcvc i j c hc
                simp only [Place.ext, List.nil_append] at this
                rw [this]; exact hpx
              | cons y r => simp [sub] at hx
            · cases r with
              | nil => simp only [sub, Option.some.injEq] at hx; subst hx; trivial
              | cons y r => simp [sub] at hx
            · have hH := hheld r x' hx
              obtain ⟨⟨v0, hv0, hvu⟩, hnu⟩ := hsrc i j sp hsp
              refine hH.move (SameShape.refl _) (Frz.le_refl _) ?_ ?_ ?_
              · intro L hL
                refine ⟨by simp [G', Gh.assembled, hsp, hL], hkeep _ _ hL ?_⟩
                intro v hv e
                exact hnu v hv ⟨r, e.symm⟩
              · cases r with
                | nil =>
                  rw [Place.app_nil, hcvs]
                  have := hcvc i j c hc
                  simpa only [Place.ext, List.nil_append] using this
                | cons y r => simp [G', Gh.assembled, hsp]
              · intro i' j'
                simp [G', Gh.assembled, hsp, Place.ext, Place.app]
    · have hx0 : getAt m q = some x' := by simpa [getAt, lk, hq] using hx
      by_cases hv : ∃ v ∈ vs, v.under q
      · obtain ⟨v, hv, hu⟩ := hv
        rw [hgone v hv q x' hu hx0]; trivial
      · have hv' : ∀ v ∈ vs, ¬ v.under q := fun v h1 h2 => hv ⟨v, h1, h2⟩
        refine (hm q x' hx0).move (SameShape.refl _) (Frz.le_refl _) (fun L hL => ⟨by rw [hlo q hq hv']; exact hL, hkeep q L hL fun v h1 e => hv' v h1 (e ▸ Place.under_refl _)⟩) (hcvo q hq) ?_
        intro i j
        exact hcvo _ hq
  · have hl : ∀ q L, G'.loc q = some L → (q = ⟨s, 0, []⟩ ∧ L = ⟨b, o, cap, z⟩) ∨ (∃ q', G.loc q' = some L ∧ L.b ≠ b ∧
        ((q.s ≠ s ∧ q' = q ∧ ∀ v ∈ vs, ¬ v.under q) ∨ ∃ i j r sp, q = ⟨s, 0, (i, j) :: r⟩ ∧ src i j = some sp ∧ q' = sp.app r)) := by
      intro q L h
      by_cases hq : q.s = s
      · obtain ⟨s', k, path⟩ := q
        simp only at hq
        subst hq
        simp only [G', Gh.assembled, if_true] at h
        split at h
        · rename_i hk
          subst hk
          cases path with
          | nil => simp at h; exact .inl ⟨rfl, h.symm⟩
          | cons ij r =>
            obtain ⟨i, j⟩ := ij
            simp only at h
            cases hsp : src i j with
            | none => simp [hsp] at h
            | some sp =>
              simp only [hsp, Option.bind_some] at h
              obtain ⟨_, hnu⟩ := hsrc i j sp hsp
              exact .inr ⟨_, h, hblk _ _ h (fun v hv e => hnu v hv ⟨r, e.symm⟩), .inr ⟨i, j, r, sp, rfl, hsp, rfl⟩⟩
        · cases h
      · obtain ⟨h1, h2⟩ := hlo' q L hq h
        exact .inr ⟨q, h1, hblk q L h1 (fun v hv e => h2 v hv (e ▸ Place.under_refl _)), .inl ⟨hq, rfl, h2⟩⟩
    have hfresh : ∀ b1 o1 v, G.F.cell b1 o1 = some v → b1 ≠ b := by
      intro b1 o1 v hv e
      rcases hb with h | ⟨v1, _, L, hL, e'⟩
      · have := World.block_lt_of_cell? w _ (hg.fz b1 o1 v hv)
        simp at this; omega
      · exact hg.fzl b1 o1 v hv v1 L hL (e'.trans e.symm)
    have hfreshm : ∀ r es, G.F.map r = some es → r ≠ b := by
      intro r es hr e
      rcases hb with h | ⟨v1, _, L, hL, e'⟩
      · obtain ⟨cl, hc⟩ := hg.fm r es hr
        have := (Array.getElem?_eq_some_iff.1 hc).1
        omega
      · exact hg.fml r es hr v1 L hL (e'.trans e.symm)
    have hb' : C.w0.heap.size ≤ b ∨ C.mine b := by
      rcases hb with h | ⟨v1, _, L, hL, e'⟩
      · exact .inl (Nat.le_trans hg.size h)
      · exact e' ▸ hg.own v1 L hL
    refine ⟨?_, ?_, ?_, ?_, ?_, ?_, Nat.le_trans hg.size hsize, ?_, ?_, hg.fz0, hg.fm0, hg.fzn, hg.fmn, hos.trans hg.os, htape.trans hg.tape, hout.trans hg.output⟩
    · intro b1 o1 v hv
      have h1 := hg.fz b1 o1 v hv
      have h2 := World.block_lt_of_cell? w _ h1
      rw [World.cell?_of_block (hother b1 h2 (hfresh b1 o1 v hv))]
      exact h1
    · intro b1 o1 v hv pl L hL
      rcases hl pl L hL with ⟨_, rfl⟩ | ⟨q', h1, _⟩
      · exact fun e => hfresh b1 o1 v hv e.symm
      · exact hg.fzl b1 o1 v hv q' L h1
    · intro r es hr
      obtain ⟨cl, hc⟩ := hg.fm r es hr
      exact ⟨cl, by rw [hother r (Array.getElem?_eq_some_iff.1 hc).1 (hfreshm r es hr)]; exact hc⟩
    · intro r es hr pl L hL
      rcases hl pl L hL with ⟨_, rfl⟩ | ⟨q', h1, _⟩
      · exact fun e => hfreshm r es hr e.symm
      · exact hg.fml r es hr q' L h1
    · intro q q' L L' h h' e
      rcases hl q L h with ⟨rfl, rfl⟩ | ⟨p, h1, h2, h3⟩ <;> rcases hl q' L' h' with ⟨rfl, rfl⟩ | ⟨p', h1', h2', h3'⟩
      · rfl
      · exact absurd e.symm h2'
      · exact absurd e h2
      · have hpp := hg.inj p p' L L' h1 h1' e
        rcases h3 with ⟨hs, rfl, hv⟩ | ⟨i, j, r, sp, rfl, hsp, rfl⟩ <;> rcases h3' with ⟨hs', rfl, hv'⟩ | ⟨i', j', r', sp', rfl, hsp', rfl⟩
        · exact hpp
        · obtain ⟨⟨v, hvm, hvu⟩, _⟩ := hsrc i' j' sp' hsp'
          obtain ⟨t, rfl⟩ := hvu
          exact absurd ⟨t ++ r', by rw [hpp, Place.app_app]⟩ (hv v hvm)
        · obtain ⟨⟨v, hvm, hvu⟩, _⟩ := hsrc i j sp hsp
          obtain ⟨t, rfl⟩ := hvu
          exact absurd ⟨t ++ r, by rw [← hpp, Place.app_app]⟩ (hv' v hvm)
        · obtain ⟨rfl, rfl⟩ := hinj i j i' j' sp sp' r r' hsp hsp' hpp
          rw [hsp] at hsp'
          cases hsp'
          rw [Place.app_inj hpp]
    · intro pl L hL
      rcases hl pl L hL with ⟨_, rfl⟩ | ⟨q', h1, _⟩
      · exact (Array.getElem?_eq_some_iff.1 hheap).1
      · exact Nat.lt_of_lt_of_le (hg.bnd q' L h1) hsize
    · intro k hk hmine
      have hkb : k ≠ b := by
        intro e
        subst e
        rcases hb' with h | h
        · omega
        · exact hmine h
      rw [hother k (Nat.lt_of_lt_of_le hk hg.size) hkb]
      exact hg.keep k hk hmine
    · intro pl L hL
      rcases hl pl L hL with ⟨_, rfl⟩ | ⟨q', h1, _⟩
      · exact hb'
      · exact hg.own q' L h1
end Go.Proofs.Ytnmnijgoggombaa.X
/- Freeze: what is owned at a place becomes a pure value. -/
namespace Go.Proofs.Ytnmnijgoggombaa.X
open Go.RowKit
mutual
def toP : AVal → Option PVal
  | .p x => some x
  | .own false _ rows => (toPss rows).map .sl
  | .own true _ rows => (toPss rows).map fun r => .pt r 0 0
  | .omap es => some (.mp es)
  | _ => none
def toPs : List AVal → Option (List PVal)
  | [] => some []
  | a :: r => (toP a).bind fun x => (toPs r).map (x :: ·)
def toPss : List (List AVal) → Option (List (List PVal))
  | [] => some []
  | a :: r => (toPs a).bind fun x => (toPss r).map (x :: ·)
end
theorem toPs_get {l : List AVal} {ps : List PVal} (h : toPs l = some ps) : ps.length = l.length ∧ ∀ (j : Nat) (p : PVal), ps[j]? = some p → ∃ a, l[j]? = some a ∧ toP a = some p := by
  induction l generalizing ps with
  | nil => simp [toPs] at h; subst h; simp
  | cons a l ih =>
    simp only [toPs] at h
    cases ha : toP a with
    | none => simp [ha] at h
    | some x =>
      cases hl : toPs l with
      | none => simp [ha, hl] at h
      | some xs =>
        simp [ha, hl] at h
        subst h
        obtain ⟨h1, h2⟩ := ih hl
        refine ⟨by simp [h1], fun j p hp => ?_⟩
        cases j with
        | zero => simp at hp; exact ⟨a, by simp, by rw [ha, hp]⟩
        | succ j => simpa using h2 j p (by simpa using hp)
theorem toPss_get {l : List (List AVal)} {ps : List (List PVal)} (h : toPss l = some ps) :
    ps.length = l.length ∧ ∀ (i : Nat) (prow : List PVal), ps[i]? = some prow → ∃ row, l[i]? = some row ∧ toPs row = some prow := by
  induction l generalizing ps with
  | nil => simp [toPss] at h; subst h; simp
  | cons a l ih =>
    simp only [toPss] at h
    cases ha : toPs a with
    | none => simp [ha] at h
    | some x =>
      cases hl : toPss l with
      | none => simp [ha, hl] at h
      | some xs =>
        simp [ha, hl] at h
        subst h
        obtain ⟨h1, h2⟩ := ih hl
        refine ⟨by simp [h1], fun j p hp => ?_⟩
        cases j with
        | zero => simp at hp; exact ⟨a, by simp, by rw [ha, hp]⟩
        | succ j => simpa using h2 j p (by simpa using hp)
theorem toP_scalar {a : AVal} {x : PVal} (h : toP a = some x) (ha : a.scalar = true) : x.scalar = true := by
  cases a with
  | p v => simp [toP] at h; subst h; exact ha
  | own ptr z rows =>
    cases ptr <;> simp only [toP, Option.map_eq_some_iff] at h <;> obtain ⟨r, _, rfl⟩ := h <;> rfl
  | omap es => simp [toP] at h; subst h; rfl
  | _ => simp [toP] at h
open Classical in
noncomputable def Gh.frzUnder (G : Gh) (w : World) (pl : Place) : Frz :=
  { cell := fun b o => if ∃ q L, pl.under q ∧ G.loc q = some L ∧ L.b = b then w.cell? ⟨b, o, none⟩ else G.F.cell b o
    map := fun r => if ∃ q L, pl.under q ∧ G.loc q = some L ∧ L.b = r then (match w.heap[r]? with | some (.map es _) => some es | _ => none) else G.F.map r }
theorem frzUnder_le {C : Ctx} {G : Gh} {w : World} (hg : Good C G w) (pl : Place) : G.F.le (G.frzUnder w pl) := by
  constructor
  · intro b o v hv
    have : ¬ ∃ q L, pl.under q ∧ G.loc q = some L ∧ L.b = b := fun ⟨q, L, _, h2, h3⟩ => hg.fzl b o v hv q L h2 h3
    simp only [Gh.frzUnder, this, if_false, hv]
  · intro r es hr
    have : ¬ ∃ q L, pl.under q ∧ G.loc q = some L ∧ L.b = r := fun ⟨q, L, _, h2, h3⟩ => hg.fml r es hr q L h2 h3
    simp only [Gh.frzUnder, this, if_false, hr]
section
variable {C : Ctx} {G : Gh} {w : World} (hg : Good C G w) (pl : Place)
include hg
mutual
theorem held_pv : (a : AVal) → ∀ q x, pl.under q → Held G w q a → toP a = some x → PV (G.frzUnder w pl) x (G.cv q)
  | .p v => fun q x _ hh hx => by
    simp [toP] at hx; subst hx
    exact PV.mono (frzUnder_le hg pl) hh.here
  | .own ptr z rows => fun q x hq hh hx => by
    obtain ⟨b, o, cap, cs, ty, h1, h2, h3, h4, h5, h6, h7, h8⟩ := hh.here
    have hu : ∃ q L, pl.under q ∧ G.loc q = some L ∧ L.b = b := ⟨q, _, hq, h1, rfl⟩
    have key : ∀ prs, toPss rows = some prs → prs.length = rows.length ∧ (∀ row ∈ prs, row.length = z) ∧
        ∀ (i j : Nat) (row : List PVal) (p : PVal), prs[i]? = some row → row[j]? = some p →
          p.scalar = true ∧ (G.frzUnder w pl).cell b (o + i * z + j) = some (G.cv (q.ext i j)) ∧ PV (G.frzUnder w pl) p (G.cv (q.ext i j)) := by
      intro prs hprs
      obtain ⟨g1, g2⟩ := toPss_get hprs
      refine ⟨g1, ?_, ?_⟩
      · intro prow hp
        obtain ⟨i, hi⟩ := List.mem_iff_getElem?.1 hp
        obtain ⟨row, hr, ht⟩ := g2 i prow hi
        rw [(toPs_get ht).1]
        exact h7 row (List.mem_of_getElem? hr)
      · intro i j prow p hi hj
        obtain ⟨row, hr, ht⟩ := g2 i prow hi
        obtain ⟨a, ha, hta⟩ := (toPs_get ht).2 j p hj
        have hc : cellAt rows i j = some a := cellAt_some.2 ⟨row, hr, ha⟩
        obtain ⟨k1, k2⟩ := h8 i j a hc
        refine ⟨toP_scalar hta k1, ?_, ?_⟩
        · simp only [Gh.frzUnder, hu, if_true, World.cell?, h3]
          simpa using k2
        · refine held_pvss rows i j a hc (q.ext i j) p ?_ (hh.sub hc) hta
          obtain ⟨r, rfl⟩ := hq
          exact ⟨r ++ [(i, j)], by rw [Place.ext_eq, Place.app_app]⟩
    cases ptr with
    | false =>
      simp only [toP, Option.map_eq_some_iff] at hx
      obtain ⟨prs, hprs, rfl⟩ := hx
      obtain ⟨k1, k2, k3⟩ := key prs hprs
      simp only [Bool.false_eq_true, if_false] at h2
      rw [h2, ← k1]
      exact .sl prs b o cap z (fun i j => G.cv (q.ext i j)) (by omega) k2 (fun i j row p a c => ⟨(k3 i j row p a c).1, (k3 i j row p a c).2.1⟩) fun i j row p a c => (k3 i j row p a c).2.2
    | true =>
      simp only [toP, Option.map_eq_some_iff] at hx
      obtain ⟨prs, hprs, rfl⟩ := hx
      obtain ⟨k1, k2, k3⟩ := key prs hprs
      simp only [if_true] at h2
      rw [h2]
      have := PV.pt (F := G.frzUnder w pl) prs 0 0 b o z (fun i j => G.cv (q.ext i j)) k2 (fun i j row p a c => ⟨(k3 i j row p a c).1, (k3 i j row p a c).2.1⟩) fun i j row p a c => (k3 i j row p a c).2.2
      simpa using this
  | .omap es => fun q x hq hh hx => by
    simp [toP] at hx; subst hx
    obtain ⟨r, ev, clock, h1, h2, h3, h4, h5, h6⟩ := hh.here
    have hu : ∃ q L, pl.under q ∧ G.loc q = some L ∧ L.b = r := ⟨q, _, hq, h1, rfl⟩
    rw [h2]
    refine .mp es r ev ?_ h4 (fun i e v a b => PV.mono (frzUnder_le hg pl) (h5 i e v a b).1) (fun i e v a b => PV.mono (frzUnder_le hg pl) (h5 i e v a b).2.1)
    simp only [Gh.frzUnder, hu, if_true, h3]
  | .agg _ => fun q x _ hh _ => hh.here.elim
  | .tup _ => fun q x _ hh _ => hh.here.elim
  | .rsl _ _ _ => fun q x _ hh _ => hh.here.elim
  | .rpt _ _ _ => fun q x _ hh _ => hh.here.elim
  | .rmp _ => fun q x _ hh _ => hh.here.elim
  | .dead => fun q x _ _ hx => by simp [toP] at hx
  | .unk => fun q x _ _ hx => by simp [toP] at hx
  | .siter _ _ => fun q x _ _ hx => by simp [toP] at hx
  | .smap _ => fun q x _ _ hx => by simp [toP] at hx
  | .miter _ _ _ => fun q x _ _ hx => by simp [toP] at hx
  | .rit _ _ _ => fun q x _ _ hx => by simp [toP] at hx
theorem held_pvs : (l : List AVal) → ∀ (j : Nat) a, l[j]? = some a → ∀ q x, pl.under q → Held G w q a → toP a = some x → PV (G.frzUnder w pl) x (G.cv q)
  | [], j, a, h => by have _ := hg; simp at h
  | b :: l, 0, a, h => by simp at h; subst h; exact held_pv b
  | b :: l, j + 1, a, h => held_pvs l j a (by simpa using h)
theorem held_pvss : (rows : List (List AVal)) → ∀ (i j : Nat) a, cellAt rows i j = some a → ∀ q x, pl.under q → Held G w q a → toP a = some x → PV (G.frzUnder w pl) x (G.cv q)
  | [], i, j, a, h => by have _ := hg; simp [cellAt] at h
  | row :: rows, 0, j, a, h => held_pvs row j a (by simpa [cellAt] using h)
  | row :: rows, i + 1, j, a, h => held_pvss rows i j a (by simpa [cellAt] using h)
end
open Classical in
omit hg in
noncomputable def _root_.Go.Proofs.Ytnmnijgoggombaa.X.Gh.froze (G : Gh) (w : World) (pl : Place) : Gh :=
  { F := G.frzUnder w pl, loc := fun q => if pl.under q then none else G.loc q, cv := G.cv }
theorem freeze_ok {m : Mem} (hm : MR G w m) {a : AVal} {x : PVal} (ha : getAt m pl = some a) (hx : toP a = some x) (hs : x.scalar = true) :
    MR (G.froze w pl) w (setAt m pl (.p x)) ∧ Good C (G.froze w pl) w ∧ G.F.le (G.froze w pl).F ∧ PV (G.froze w pl).F x (G.cv pl) ∧
      (∀ q L, (G.froze w pl).loc q = some L → G.loc q = some L) := by
  have hle := frzUnder_le hg pl
  have hpv : PV (G.frzUnder w pl) x (G.cv pl) := held_pv hg pl a pl x (Place.under_refl _) (hm.held ha) hx
  have hloc : ∀ q L, (G.froze w pl).loc q = some L → G.loc q = some L ∧ ¬ pl.under q := by
    intro q L h
    simp only [Gh.froze] at h
    split at h
    · cases h
    · exact ⟨h, by assumption⟩
  have hnot : ∀ q L, (G.froze w pl).loc q = some L → ¬ ∃ q' L', pl.under q' ∧ G.loc q' = some L' ∧ L'.b = L.b := by
    rintro q L h ⟨q', L', h1, h2, h3⟩
    obtain ⟨g1, g2⟩ := hloc q L h
    exact g2 (hg.inj q' q L' L h2 g1 h3 ▸ h1)
  refine ⟨?_, ?_, hle, hpv, fun q L h => (hloc q L h).1⟩
  · intro q x' hq
    by_cases hu : pl.under q
    · obtain ⟨r, rfl⟩ := hu
      rw [getAt_set_under ha] at hq
      cases r with
      | nil => simp [sub] at hq; subst hq; rw [Place.app_nil]; exact hpv
      | cons c r => simp [sub] at hq
    · obtain ⟨y, hy, hsh⟩ := getAt_set_else (a := .p x) hs ha hu hq
      exact (hm q y hy).move hsh hle (fun L hL => ⟨by simp [Gh.froze, hu, hL], rfl⟩) rfl fun _ _ => rfl
  · refine ⟨?_, ?_, ?_, ?_, ?_, ?_, hg.size, hg.keep, ?_, ?_, ?_, ?_, ?_, hg.os, hg.tape, hg.output⟩
    · intro b o v hv
      simp only [Gh.froze, Gh.frzUnder] at hv
      split at hv
      · exact hv
      · exact hg.fz b o v hv
    · intro b o v hv q L hL e
      have hn := hnot q L hL
      rw [e] at hn
      simp only [Gh.froze, Gh.frzUnder, hn, if_false] at hv
      exact hg.fzl b o v hv q L (hloc q L hL).1 e
    · intro r es hr
      simp only [Gh.froze, Gh.frzUnder] at hr
      split at hr
      · split at hr
        · rename_i es' clock hh
          cases hr
          exact ⟨clock, hh⟩
        · cases hr
      · exact hg.fm r es hr
    · intro r es hr q L hL e
      have hn := hnot q L hL
      rw [e] at hn
      simp only [Gh.froze, Gh.frzUnder, hn, if_false] at hr
      exact hg.fml r es hr q L (hloc q L hL).1 e
    · exact fun q q' L L' h h' e => hg.inj q q' L L' (hloc q L h).1 (hloc q' L' h').1 e
    · exact fun q L h => hg.bnd q L (hloc q L h).1
    · exact fun q L h => hg.own q L (hloc q L h).1
    · exact fun b o v hv => hle.cell b o v (hg.fz0 b o v hv)
    · exact fun r es hr => hle.map r es (hg.fm0 r es hr)
    · intro b o v hv
      simp only [Gh.froze, Gh.frzUnder] at hv
      split at hv
      · rename_i hq
        obtain ⟨q, L, _, h2, h3⟩ := hq
        exact .inr (h3 ▸ hg.own q L h2)
      · exact hg.fzn b o v hv
    · intro r es hr
      simp only [Gh.froze, Gh.frzUnder] at hr
      split at hr
      · rename_i hq
        obtain ⟨q, L, _, h2, h3⟩ := hq
        exact .inr (h3 ▸ hg.own q L h2)
      · exact hg.fmn r es hr
end
end Go.Proofs.Ytnmnijgoggombaa.X
/- Stores: cell by cell; what is owned elsewhere moves in. -/
namespace Go.Proofs.Ytnmnijgoggombaa.X
open Go.RowKit
theorem putSub_putSub (path : List (Nat × Nat)) (a b x : AVal) : putSub path a (putSub path b x) = putSub path a x := by
  induction path generalizing x with
  | nil => rfl
  | cons c path ih =>
    obtain ⟨i, j⟩ := c
    cases x <;> simp only [putSub]
    rename_i p z rows
    congr 1
    apply List.ext_getElem?
    intro n
    simp only [List.getElem?_modify]
    cases rows[n]? with
    | none => simp
    | some row =>
      by_cases h : i = n
      · simp only [h, if_true, Option.map_eq_map, Option.map_some, Option.some.injEq]
        apply List.ext_getElem?
        intro k
        simp only [List.getElem?_modify]
        cases row[k]? with
        | none => simp
        | some y => by_cases hk : j = k <;> simp [hk, ih]
      · simp [h]
theorem lk_setAt (m : Mem) (pl : Place) (a : AVal) (s : Nat) :
    lk (setAt m pl a) s = if s = pl.s then (lk m s).map fun cs => cs.modify pl.k (putSub pl.path a) else lk m s := by
  unfold setAt
  by_cases h : s = pl.s
  · subst h
    cases hm : lk m pl.s with
    | none => simp [hm]
    | some cs => simp [lk]
  · cases hm : lk m pl.s with
    | none => simp [h]
    | some cs => simp [lk, h]
theorem getAt_congr {m m' : Mem} (h : ∀ s, lk m s = lk m' s) (q : Place) : getAt m q = getAt m' q := by simp [getAt, h]
theorem MR.congr {G : Gh} {w : World} {m m' : Mem} (hm : MR G w m) (h : ∀ s, lk m' s = lk m s) : MR G w m' :=
  fun q a ha => hm q a (by rw [← getAt_congr h q]; exact ha)
theorem set_set_lk (m : Mem) (pl : Place) (a b : AVal) (s : Nat) : lk (setAt (setAt m pl b) pl a) s = lk (setAt m pl a) s := by
  simp only [lk_setAt]
  by_cases h : s = pl.s
  · subst h
    cases lk m pl.s with
    | none => simp
    | some cs =>
      simp only [if_true, Option.map_some, Option.some.injEq]
      apply List.ext_getElem?
      intro n
      simp only [List.getElem?_modify]
      cases cs[n]? with
      | none => simp
      | some x => by_cases hk : pl.k = n <;> simp [hk, putSub_putSub]
  · simp [h]
theorem set_comm_lk (m : Mem) {pl q : Place} (hs : q.s ≠ pl.s) (a b c : AVal) (s : Nat) :
    lk (setAt (setAt (setAt m pl b) q c) pl a) s = lk (setAt (setAt m q c) pl a) s := by
  have key := set_set_lk (setAt m q c) pl a b s
  rw [← key]
  simp only [lk_setAt]
  by_cases h : s = pl.s <;> by_cases h' : s = q.s
  · exact absurd (h'.symm.trans h) hs
  · simp [h]
    have : pl.s ≠ q.s := fun e => hs e.symm
    simp [this]
  · simp [h']
    cases lk m q.s <;> simp [hs]
  · simp [h, h']
/-- What a step leaves: the memory is related, the ghosts good, and a slot's value that leads to no place in 'K' is related as before. -/
structure Step (C : Ctx) (G : Gh) (w w' : World) (m' : Mem) (K : Place → Bool) (G' : Gh) : Prop where
  mr : MR G' w' m'
  good : Good C G' w'
  le : G.F.le G'.F
  loc : ∀ pl, K pl = false → ∀ L, G'.loc pl = some L → G.loc pl = some L
theorem Step.vr {C : Ctx} {G G' : Gh} {w w' : World} {m' : Mem} {K : Place → Bool} (h : Step C G w w' m' K G') {x : AVal} {c : Value}
    (hx : VR G x c) (hk : x.ment K = false) : VR G' x c := hx.mono h.le K h.loc hk
def atOrUnder (pl : Place) : Place → Bool := fun q => q.s == pl.s && q.k == pl.k && decide (pl.path.length ≤ q.path.length)
theorem under_atOrUnder {pl q : Place} (h : pl.under q) : atOrUnder pl q = true := by
  obtain ⟨r, rfl⟩ := h
  simp [atOrUnder, Place.app]
/-- The value in the cell of a place is the one that its slot's reference has. -/
theorem refOf_cv {G : Gh} {w : World} {pl : Place} {a x : AVal} (h : HR G w pl a) (hx : refOf pl a = some x) : VR G x (G.cv pl) := by
  cases a with
  | p v => simp [refOf] at hx; subst hx; exact .p h
  | own ptr z rows =>
    obtain ⟨b, o, cap, cs, ty, h1, h2, h3, h4, h5, h6, h7, h8⟩ := h
    cases ptr with
    | false =>
      simp [refOf] at hx; subst hx
      simp only [Bool.false_eq_true, if_false] at h2
      rw [h2]
      refine .rsl _ _ _ _ _ fun b' o' cap' z' hL => ?_
      rw [h1] at hL
      cases hL
      exact ⟨by omega, rfl, fun _ => by simp⟩
    | true =>
      simp [refOf] at hx; subst hx
      simp only [if_true] at h2
      rw [h2]
      refine .rpt _ _ _ _ fun b' o' cap' z' hL => ?_
      rw [h1] at hL
      cases hL
      simp
  | omap es =>
    obtain ⟨r, ev, clock, h1, h2, _⟩ := h
    simp [refOf] at hx; subst hx
    rw [h2]
    refine .rmp _ _ fun b' o' cap' z' hL => ?_
    rw [h1] at hL
    cases hL
    rfl
  | _ => simp [refOf] at hx
theorem refOf_unique {G : Gh} {w : World} {pl : Place} {a x : AVal} (h : HR G w pl a) (hx : refOf pl a = some x) (hp : a.isP = false) {c : Value} (hc : VR G x c) : c = G.cv pl := by
  cases a with
  | p v => simp [AVal.isP] at hp
  | own ptr z rows =>
    obtain ⟨b, o, cap, cs, ty, h1, h2, _⟩ := h
    cases ptr with
    | false =>
      simp [refOf] at hx; subst hx
      cases hc with
      | rsl _ _ _ ad k h' =>
        obtain ⟨_, hk, had⟩ := h' _ _ _ _ h1
        rw [h2, had (.inr rfl), hk]
        simp
    | true =>
      simp [refOf] at hx; subst hx
      cases hc with
      | rpt _ _ _ _ h' => rw [h' _ _ _ _ h1, h2]; simp
  | omap es =>
    obtain ⟨r, ev, clock, h1, h2, _⟩ := h
    simp [refOf] at hx; subst hx
    cases hc with
    | rmp _ _ h' => rw [h' _ _ _ _ h1, h2]
  | _ => simp [refOf] at hx
theorem moveable_spec {m : Mem} {v : AVal} {q : Place} {a : AVal} (h : moveable m v = some (q, a)) :
    getAt m q = some a ∧ refOf q a = some v ∧ a.scalar = true ∧ a.isP = false := by
  unfold moveable at h
  split at h
  · split at h
    · split at h
      · cases h; rename_i hg hl; exact ⟨‹_›, by simp [refOf, *], rfl, rfl⟩
      · cases h
    · cases h
  · split at h
    · cases h; rename_i hg; exact ⟨hg, by simp [refOf], rfl, rfl⟩
    · cases h
  · split at h
    · cases h; rename_i hg; exact ⟨hg, by simp [refOf], rfl, rfl⟩
    · cases h
  · cases h
theorem PV.oneCell {F : Frz} {x : PVal} {c : Value} (h : PV F x c) (hs : x.scalar = true) : c.oneCell' = true := by
  cases h <;> first | rfl | (simp [PVal.scalar] at hs)
theorem HR.oneCell {G : Gh} {w : World} {pl : Place} {a : AVal} (h : HR G w pl a) (hp : a.isP = false) (hd : a ≠ .dead) : (G.cv pl).oneCell' = true := by
  cases a with
  | p => simp [AVal.isP] at hp
  | own ptr z rows => obtain ⟨b, o, cap, cs, ty, h1, h2, _⟩ := h; rw [h2]; cases ptr <;> rfl
  | omap es => obtain ⟨r, ev, clock, h1, h2, _⟩ := h; rw [h2]; rfl
  | dead => exact absurd rfl hd
  | siter s pos => obtain ⟨r, h1, h2, _⟩ := h; rw [h2]; rfl
  | smap n => obtain ⟨r, ev, clock, h1, h2, _⟩ := h; rw [h2]; rfl
  | miter mb n dn => obtain ⟨r, h1, h2, _⟩ := h; rw [h2]; rfl
  | _ => exact h.elim
def killPut (v : AVal) (pl : Place) : Place → Bool := if v.isP then fun _ => false else atOrUnder pl
theorem run_store_at {P : Program} {w : World} {a : Addr} {c u : Value} (h1 : c.oneCell' = true) (hc : w.cell? a = some u) (hf : w.frozen? a = false) :
    (store a c).run P w = .ok () (w.setCell a c) := by
  rw [run_store P w a c .plain h1, hc]
  simp [hf]
theorem putCell_ok {P : Program} {C : Ctx} {G : Gh} {w : World} {m m' : Mem} (hm : MR G w m) (hg : Good C G w) {par : Place} {ptr : Bool} {z : Nat} {rows : List (List AVal)}
    (hp : getAt m par = some (.own ptr z rows)) {i j : Nat} {old : AVal} (hc : cellAt rows i j = some old) {b o cap : Nat} (hL : G.loc par = some ⟨b, o, cap, z⟩)
    {v : AVal} {c : Value} (hv : VR G v c) (hput : putCell m (par.ext i j) v = some m') :
    ∃ G', (store ⟨b, o + i * z + j, none⟩ c).run P w = .ok () (w.setCell ⟨b, o + i * z + j, none⟩ c) ∧
      Step C G w (w.setCell ⟨b, o + i * z + j, none⟩ c) m' (killPut v (par.ext i j)) G' ∧ G'.loc par = G.loc par ∧
      (∃ rows', getAt m' par = some (.own ptr z rows') ∧ ∀ i' j', (cellAt rows' i' j').isSome = (cellAt rows i' j').isSome) := by
  have hw := write_ok hm hg hp hc c hL
  obtain ⟨k1, k2, k3, k4, k5⟩ := hw
  have hget : getAt m (par.ext i j) = some old := by rw [getAt_ext hp]; exact hc
  have hdead : getAt (setAt m (par.ext i j) .dead) (par.ext i j) = some .dead := getAt_set_self hget _
  have hnu := Place.not_ext_under par i j
  have hlp : (G.wrote (par.ext i j) c).loc par = G.loc par := by simp [Gh.wrote, hnu]
  have hparent : ∀ a : AVal, ∀ i' j', (cellAt (rows.modify i (·.modify j fun _ => a)) i' j').isSome = (cellAt rows i' j').isSome := by
    intro a i' j'
    rw [cellAt_modify]
    split
    · cases cellAt rows i' j' <;> rfl
    · rfl
  have hlocw : ∀ pl L, (G.wrote (par.ext i j) c).loc pl = some L → G.loc pl = some L := fun pl L h => Gh.wrote_loc h
  by_cases hpure : v.isP = true
  · cases v with
    | p x =>
      simp only [putCell] at hput
      split at hput
      · rename_i hs
        cases hput
        cases hv with
        | p hpv =>
          have hpv' : PV (G.wrote (par.ext i j) c).F x ((G.wrote (par.ext i j) c).cv (par.ext i j)) := by simpa [Gh.wrote] using hpv
          refine ⟨G.wrote (par.ext i j) c, run_store_at (hpv.oneCell hs) k1 k2, ⟨(fill_ok k3 hs hdead hpv').congr fun s => (set_set_lk m _ _ _ s).symm, k4, k5, fun pl _ L h => hlocw pl L h⟩, hlp, _, getAt_set_parent hp i j _, hparent _⟩
      · cases hput
    | _ => simp [AVal.isP] at hpure
  · have hput' : (moveable m v).bind (fun qa => if qa.1.s = (par.ext i j).s then none else some (setAt (setAt m qa.1 .dead) (par.ext i j) qa.2)) = some m' := by
      cases v <;> first | exact hput | (simp [AVal.isP] at hpure)
    cases hmv : moveable m v with
    | none => simp [hmv] at hput'
    | some qa =>
      obtain ⟨q, a⟩ := qa
      simp only [hmv, Option.bind_some] at hput'
      split at hput'
      · cases hput'
      · rename_i hne
        cases hput'
        obtain ⟨g1, g2, g3, g4⟩ := moveable_spec hmv
        have hcq : c = G.cv q := refOf_unique (hm q a g1) g2 g4 hv
        have hone : c.oneCell' = true := by rw [hcq]; exact (hm q a g1).oneCell g4 (by rintro rfl; simp [refOf] at g2)
        have hqs : q.s ≠ par.s := hne
        have hqn : q ≠ par.ext i j := fun e => hne (by rw [e])
        have h1 : getAt (setAt m (par.ext i j) .dead) q = some a := by rw [getAt_set_other hne]; exact g1
        obtain ⟨v1, v2⟩ := vacate k3 h1
        have hd2 : getAt (setAt (setAt m (par.ext i j) .dead) q .dead) (par.ext i j) = some .dead := by
          rw [getAt_set_other (fun e => hne e.symm)]; exact hdead
        have hat := attach_ok v1 k4 g3 hd2 (k3.held h1) v2 hne (by simp [Gh.wrote, hqn, hcq])
        refine ⟨_, run_store_at hone k1 k2, ⟨hat.1.congr fun s => (set_comm_lk m hne _ _ _ s).symm, hat.2, k5, ?_⟩, ?_, _, ?_, hparent a⟩
        · intro pl hpl L hL
          have hK : atOrUnder (par.ext i j) pl = false := by simpa [killPut, hpure] using hpl
          have hnu' : ¬ (par.ext i j).under pl := fun h => by rw [under_atOrUnder h] at hK; cases hK
          exact hlocw pl L (Gh.attached_loc hnu' hL).1
        · have hnq : ¬ q.under par := fun h => hqs (Place.under_s h).symm
          simp [Gh.attached, hnu, hnq, hlp]
        · refine getAt_set_parent ?_ i j a
          rw [getAt_set_other hqs.symm]; exact hp
end Go.Proofs.Ytnmnijgoggombaa.X
/- What each resolved operation does; when a resolved operation stands for the program's own. -/
namespace Go.Proofs.Ytnmnijgoggombaa.X
open Go.RowKit
inductive Kill where
  | no
  | site (s : Nat)
  | under (pl : Place)
  | sites (l : List Nat)
  /-- new sites, and what lies below the places -/
  | lent (D : List Nat) (ps : List Place)
def inSites (D : List Nat) (pl : Place) : Bool := D.contains pl.s
def Kill.fn : Kill → Place → Bool
  | .no => fun _ => false
  | .site s => fun q => q.s == s
  | .under pl => atOrUnder pl
  | .sites l => inSites l
  | .lent D ps => fun q => inSites D q || ps.any fun p => q.s == p.s && q.k == p.k && decide (p.path.length < q.path.length)
/-- A slot that leads to what has come to lie elsewhere is forgotten. -/
def killBy (f : AVal → Bool) : Env → Env
  | [] => []
  | x :: r => if f x.2 = true then (killBy f r).filter (fun y => !(y.1 == x.1)) else x :: killBy f r
def killEnv (k : Kill) (e : Env) : Env :=
  match k with
  | .no => e
  | k => killBy (·.ment k.fn) e
def evA (e : Env) : Arg → Option AVal
  | .s t => lk e t
  | .c v => some (.p v)
def evAs (e : Env) : List Arg → Option (List AVal)
  | [] => some []
  | a :: r => (evA e a).bind fun v => (evAs e r).map (v :: ·)
def pofCells (ag : Bool) (n : Nat) (cs : List PVal) : Option PVal :=
  if cs.length = n then (if ag then some (.agg cs) else match cs with | [x] => some x | _ => none) else none
def allPs : List (List AVal) → Option (List (List PVal))
  | [] => some []
  | r :: rs => (allP r).bind fun x => (allPs rs).map (x :: ·)
/-- The rows of a slice's value, as far as they are pure. -/
def rowsOf (m : Mem) : AVal → Option (List (List PVal))
  | .p .nilslice => some []
  | .p (.sl rows) => some rows
  | .rsl pl off len => match getAt m pl with
    | some (.own false _ rows) => if off + len ≤ rows.length then allPs ((rows.drop off).take len) else none
    | _ => none
  | _ => none
def AVal.alive : AVal → Bool
  | .dead => false
  | _ => true
def liftRows (rows : List (List PVal)) : List (List AVal) := rows.map fun r => r.map .p
def zOK (z : Nat) (rows : List (List PVal)) : Bool := rows.all fun r => r.length == z
def setRange (row cells : List AVal) (j : Nat) : List AVal := row.take j ++ cells ++ row.drop (j + cells.length)
def putParts (rows : List (List AVal)) (z : Nat) : List (Nat × AVal) → Option (List (List AVal))
  | [] => some rows
  | (i, v) :: r => if v.cells.length = z ∧ i < rows.length then putParts (rows.set i v.cells) z r else none
def pureRows (rows : List (List AVal)) : Bool := rows.all fun r => r.all (·.isP)
def scalarRows (rows : List (List AVal)) : Bool := rows.all fun r => r.all (·.scalar)
def deadRows (rows : List (List AVal)) : List (List AVal) := rows.map fun r => r.map fun _ => .dead
def fillRows (m : Mem) (pl : Place) : Nat → List (List AVal) → Option Mem
  | _, [] => some m
  | i, r :: rs => (putCells m pl i 0 r).bind fun m' => fillRows m' pl (i + 1) rs
/-- A new root at site 'd': at once, if all is pure; else what is owned moves in. -/
def newRoot (m : Mem) (d : Nat) (ptr : Bool) (z : Nat) (rows : List (List AVal)) : Option Mem :=
  if !scalarRows rows then none else
  if pureRows rows then some ((d, [.own ptr z rows]) :: m)
  else fillRows ((d, [.own ptr z (deadRows rows)]) :: m) ⟨d, 0, []⟩ 0 rows
def intOf? : AVal → Option Int
  | .p (.int _ n) => some n
  | _ => none
abbrev Out := AVal × Mem × Kill
def oLoad (n : Nat) (ag : Bool) (m : Mem) (x : AVal) : Option Out :=
  match x with
  | .p (.pt rows i j) => match rows[i]? with
    | some row => (pofCells ag n ((row.drop j).take n)).map fun v => (.p v, m, .no)
    | none => none
  | .rpt pl i j => match getAt m pl with
    | some (.own _ _ rows) => match rows[i]? with
      | some row => (refsOf pl i j ((row.drop j).take n)).bind fun cs => (ofCells ag n cs).map fun v => (v, m, .no)
      | none => none
    | _ => none
  | _ => none
def oStore (n : Nat) (m : Mem) (x v : AVal) : Option Out :=
  match x with
  | .rpt pl i j => match getAt m pl with
    | some (.own ptr z rows) =>
      if v.cells.length = n ∧ v.cells.all (·.scalar) = true ∧ j + n ≤ z ∧ i < rows.length then
        if v.cells.all (·.isP) = true then some (.p (.tup []), setAt m pl (.own ptr z (rows.modify i fun row => setRange row v.cells j)), .no)
        else (putCells m pl i j v.cells).map fun m' => (.p (.tup []), m', .under (pl.ext i j))
      else none
    | _ => none
  | _ => none
def oFaddr (off : Nat) (m : Mem) (x : AVal) : Option Out :=
  match x with
  | .p (.pt rows i j) => some (.p (.pt rows i (j + off)), m, .no)
  | .rpt pl i j => some (.rpt pl i (j + off), m, .no)
  | _ => none
def oIaddr (z : Nat) (m : Mem) (x i : AVal) : Option Out :=
  match intOf? i with
  | none => none
  | some n => match x with
    | .p (.sl rows) => if 0 ≤ n then match rows[n.toNat]? with
        | some row => if row.length = z then some (.p (.pt rows n.toNat 0), m, .no) else none
        | none => none
      else none
    | .rsl pl off len => match getAt m pl with
      | some (.own false z' _) => if 0 ≤ n ∧ n < len ∧ z' = z then some (.rpt pl (off + n.toNat) 0, m, .no) else none
      | _ => none
    | _ => none
def oIaddrA (z len : Nat) (m : Mem) (x i : AVal) : Option Out :=
  match intOf? i with
  | none => none
  | some n => if 0 ≤ n ∧ n < len then match x with
      | .p (.pt rows i0 j0) => some (.p (.pt rows i0 (j0 + n.toNat * z)), m, .no)
      | .rpt pl i0 j0 => some (.rpt pl i0 (j0 + n.toNat * z), m, .no)
      | _ => none
    else none
def oField (off n : Nat) (ag : Bool) (m : Mem) (x : AVal) : Option Out :=
  match x with
  | .p (.agg cs) => (pofCells ag n ((cs.drop off).take n)).map fun v => (.p v, m, .no)
  | .agg cs => (ofCells ag n ((cs.drop off).take n)).map fun v => (v, m, .no)
  | _ => none
def oAindex (len z : Nat) (ag : Bool) (m : Mem) (x i : AVal) : Option Out :=
  match intOf? i with
  | none => none
  | some n => if 0 ≤ n ∧ n < len then oField (n.toNat * z) z ag m x else none
def oSindex (m : Mem) (x i : AVal) : Option Out :=
  match intOf? i, x with
  | some n, .p (.str s) => if 0 ≤ n then (s[n.toNat]?).map fun b => (.p (.int .u8 b.toNat), m, .no) else none
  | _, _ => none
def oUn (op : UnOp) (m : Mem) (x : AVal) : Option Out :=
  match op, x with
  | .neg, .p (.int k n) => some (.p (.int k (k.wrap (0 - n))), m, .no)
  | .not, .p (.bool b) => some (.p (.bool (!b)), m, .no)
  | _, _ => none
def oBuild (zero : List PVal) (m : Mem) (parts : List (Nat × Nat × AVal)) : Option Out :=
  match fillCells (zero.map .p) parts with
  | some cs => if cs.all (·.scalar) = true then some (mkAgg cs, m, .no) else none
  | none => none
def oBslice (d z n : Nat) (zero : List PVal) (m : Mem) (parts : List (Nat × AVal)) : Option Out :=
  match putParts (List.replicate n (zero.map .p)) z parts with
  | some rows => if n ≤ 9223372036854775807 ∧ zero.length = z then (newRoot m d false z rows).map fun m' => (.rsl ⟨d, 0, []⟩ 0 n, m', .site d) else none
  | none => none
/-- The slice that is told to be read only at once. -/
def fsl (z n : Nat) (zero : List PVal) (parts : List (Nat × AVal)) : Option (List (List PVal)) :=
  match putParts (List.replicate n (zero.map .p)) z parts with
  | some rows => if n ≤ 9223372036854775807 ∧ zero.length = z ∧ scalarRows rows = true then allPs rows else none
  | none => none
def oFslice (z n : Nat) (zero : List PVal) (m : Mem) (parts : List (Nat × AVal)) : Option Out := (fsl z n zero parts).map fun ps => (.p (.sl ps), m, .no)
def oMkslice (d z bytes : Nat) (zero : List PVal) (m : Mem) (len cap : AVal) : Option Out :=
  match intOf? len, intOf? cap with
  | some l, some c =>
    if 0 ≤ l ∧ l ≤ c ∧ c * bytes ≤ 281474976710656 ∧ c ≤ 9223372036854775807 ∧ zero.length = z ∧ zero.all (·.scalar) = true then
      some (.rsl ⟨d, 0, []⟩ 0 l.toNat, (d, [.own false z (List.replicate l.toNat (zero.map .p))]) :: m, .site d)
    else none
  | _, _ => none
/-- A slice that was made is told to be read only. -/
def oFrzR (d : Nat) (out : Option Out) : Option Out :=
  match out with
  | some (.rsl pl off len, m', k) => match getAt m' pl with
    | some (.own false _ rows) => if off = 0 ∧ rows.length = len ∧ pl.s = d then
        match toPss rows with
        | some prs => some (.p (.sl prs), setAt m' pl (.p (.sl prs)), k)
        | none => none
      else none
    | _ => none
  | some (.p v, m', k) => some (.p v, m', k)
  | _ => none
def oAppz (d z bytes : Nat) (zero : List PVal) (m : Mem) (s n : AVal) : Option Out :=
  match s, intOf? n with
  | .p .nilslice, some l =>
    if 0 < l ∧ 0 < z ∧ l * bytes ≤ 140737488355328 ∧ l ≤ 9223372036854775807 ∧ zero.length = z ∧ zero.all (·.scalar) = true then
      some (.rsl ⟨d, 0, []⟩ 0 l.toNat, (d, [.own false z (List.replicate l.toNat (zero.map .p))]) :: m, .site d)
    else none
  | _, _ => none
def entriesOf (m : Mem) (x : AVal) : Option (List (PVal × PVal)) :=
  match x with
  | .p .nilmap => some []
  | .p (.mp es) => some es
  | .rmp pl => match getAt m pl with
    | some (.omap es) => some es
    | _ => none
  | _ => none
def oLookup (ls : List Leaf) (zero : PVal) (ok : Bool) (m : Mem) (x k : AVal) : Option Out :=
  match entriesOf m x, k with
  | some es, .p k => match keyEq ls k k, mapGet ls es k with
    | some _, some r => some (if ok = true then .p (.tup [Option.getD r zero, .bool r.isSome]) else .p (Option.getD r zero), m, .no)
    | _, _ => none
  | _, _ => none
def oMapset (ls : List Leaf) (m : Mem) (x k v : AVal) : Option Out :=
  match x, k, v with
  | .rmp pl, .p k, .p v => match keyEq ls k k, getAt m pl with
    | some _, some (.omap es) => (mapPut ls es k v).map fun es' => (.p (.tup []), setAt m pl (.omap es'), .no)
    | _, _ => none
  | _, _, _ => none
def oSrange (d : Nat) (m : Mem) (x : AVal) : Option Out :=
  match x with
  | .p (.str s) => some (.rpt ⟨d, 0, []⟩ 0 0, (d, [.siter s 0]) :: m, .site d)
  | _ => none
def oSnext (m : Mem) (x : AVal) : Option Out :=
  match x with
  | .rpt pl 0 0 => match getAt m pl with
    | some (.siter s pos) =>
      if pos < s.size then some (.p (.tup [.bool true, .int .i64 pos, .int .i32 (Utf8.decode s pos).1]), setAt m pl (.siter s (pos + (Utf8.decode s pos).2)), .no)
      else some (.p (.tup [.bool false]), m, .no)
    | _ => none
  | _ => none
def oMentry (ls : List Leaf) (zero : PVal) (m : Mem) (x k : AVal) : Option Out :=
  match x, k with
  | .rmp pl, .p k => match keyEq ls k k, getAt m pl with
    | some _, some (.omap es) => match mapIdx ls es k with
      | some n => match mapPut ls es k (((es[n]?).map (·.2)).getD zero) with
        | some es' => some (.p (.tup [((es[n]?).map (·.2)).getD zero, .int .i64 n]), setAt m pl (.omap es'), .no)
        | none => none
      | none => none
    | _, _ => none
  | _, _ => none
def oMestore (m : Mem) (x s v : AVal) : Option Out :=
  match x, s, v with
  | .rmp pl, .p (.int _ n), .p v => match getAt m pl with
    | some (.omap es) => if 0 ≤ n ∧ n.toNat < es.length then some (.p (.tup []), setAt m pl (.omap (es.modify n.toNat fun e => (e.1, v))), .no) else none
    | _ => none
  | _, _, _ => none
def oAppin (z : Nat) (m : Mem) (s x : AVal) : Option Out :=
  match s with
  | .rsl pl off len => match getAt m pl, rowsOf m x with
    | some (.own false z' rows), some news =>
      if z' = z ∧ zOK z news = true ∧ off + len + news.length ≤ rows.length ∧ (off < rows.length ∨ off = 0) then
        some (.rsl pl off (len + news.length), setAt m pl (.own false z (rows.take (off + len) ++ liftRows news ++ rows.drop (off + len + news.length))), .no)
      else none
    | _, _ => none
  | _ => none
def oCap (m : Mem) (x : AVal) : Option Out :=
  match x with
  | .p .nilslice => some (.p (.int .i64 0), m, .no)
  | _ => none
def oSlc3 (m : Mem) (x lo hi mx : AVal) : Option Out :=
  match x, intOf? lo, intOf? hi, intOf? mx with
  | .rsl pl off len, some l, some h, some k => match getAt m pl with
    | some (.own false _ _) => if 0 ≤ l ∧ l ≤ h ∧ h ≤ k ∧ k ≤ len then some (.unk, m, .no) else none
    | _ => none
  | _, _, _, _ => none
def oExtract (i : Nat) (m : Mem) (x : AVal) : Option Out :=
  match x with
  | .p (.tup vs) => (vs[i]?).map fun v => (.p v, m, .no)
  | .tup vs => (vs[i]?).map fun v => (v, m, .no)
  | _ => none
def oLen (k : LenK) (m : Mem) (x : AVal) : Option Out :=
  match k, x with
  | .arr n, _ => some (.p (.int .i64 n), m, .no)
  | .sl, .p .nilslice => some (.p (.int .i64 0), m, .no)
  | .sl, .p (.sl rows) => some (.p (.int .i64 rows.length), m, .no)
  | .sl, .rsl _ _ len => some (.p (.int .i64 len), m, .no)
  | .str, .p (.str s) => some (.p (.int .i64 s.size), m, .no)
  | .mp, .p .nilmap => some (.p (.int .i64 0), m, .no)
  | .mp, .p (.mp es) => some (.p (.int .i64 es.length), m, .no)
  | .mp, .rmp pl => match getAt m pl with
    | some (.omap es) => some (.p (.int .i64 es.length), m, .no)
    | some (.smap n) => some (.p (.int .i64 n), m, .no)
    | _ => none
  | _, _ => none
/-- The rows that an append begins with, the place that it takes them from, and from which row on. -/
def appOld (z : Nat) (m : Mem) (s : AVal) : Option (List (List AVal) × Option Place × Nat) :=
  match s with
  | .p .nilslice => some ([], none, 0)
  | .rsl pl off len => match getAt m pl with
    | some (.own false z' rows) => if z' = z ∧ off + len = rows.length then some (rows.drop off, some pl, off) else none
    | _ => none
  | _ => none
/-- The rows that are appended: pure ones are copied; else all of an owned slice moves. -/
def appNew (z : Nat) (m : Mem) (x : AVal) : Option (List (List AVal) × Option Place) :=
  match rowsOf m x with
  | some news => if zOK z news = true then some (liftRows news, none) else none
  | none => match x with
    | .rsl q 0 len => match getAt m q with
      | some (.own false z' rows) => if z' = z ∧ rows.length = len ∧ (rows.all fun r => r.all (·.alive)) = true then some (rows, some q) else none
      | _ => none
    | _ => none
def vacateO (m : Mem) : Option Place → Mem
  | some pl => setAt m pl .dead
  | none => m
def notSite (d : Nat) : Option Place → Bool
  | some pl => pl.s != d
  | none => true
def apart : Option Place → Option Place → Bool
  | some pl, some q => pl.s != q.s
  | _, _ => true
def oAppend (d z bytes : Nat) (m : Mem) (s x : AVal) : Option Out :=
  match appOld z m s, appNew z m x with
  | some (olds, vac, off), some (news, vac') =>
    if (olds.length + news.length) * bytes ≤ 140737488355328 ∧ olds.length + news.length ≤ 9223372036854775807 ∧
        apart vac vac' = true ∧ notSite d vac = true ∧ notSite d vac' = true ∧ (off = 0 ∨ 0 < olds.length + news.length) then
      if vac.isNone = true ∧ news.length = 0 then some (.p .nilslice, m, .no)
      else some (.rsl ⟨d, 0, []⟩ 0 (olds.length + news.length), (d, [.own false z (olds ++ news)]) :: vacateO (vacateO m vac) vac', .site d)
    else none
  | _, _ => none
def oCopy (z : Nat) (m : Mem) (x s : AVal) : Option Out :=
  match rowsOf m s with
  | none => none
  | some src => match x with
    | .rsl pl off len => match getAt m pl with
      | some (.own false z' rows) =>
        if z' = z ∧ off + len ≤ rows.length ∧ zOK z src = true then
          some (.p (.int .i64 (min src.length len : Nat)),
            setAt m pl (.own false z (rows.take off ++ liftRows (src.take (min src.length len)) ++ rows.drop (off + min src.length len))), .no)
        else none
      | _ => none
    | .p .nilslice => some (.p (.int .i64 0), m, .no)
    | _ => none
def oClear (z : Nat) (zero : List PVal) (m : Mem) (x : AVal) : Option Out :=
  match x with
  | .rsl pl off len => match getAt m pl with
    | some (.own false z' rows) =>
      if z' = z ∧ off + len ≤ rows.length ∧ zero.length = z ∧ zero.all (·.scalar) = true then
        some (.p (.tup []), setAt m pl (.own false z (rows.take off ++ List.replicate len (zero.map .p) ++ rows.drop (off + len))), .no)
      else none
    | _ => none
  | .p .nilslice => some (.p (.tup []), m, .no)
  | _ => none
def oSlice (z : Nat) (m : Mem) (x : AVal) (lo hi : Option Int) : Option Out :=
  match x with
  | .p .nilslice => if lo.getD 0 = 0 ∧ hi.getD 0 = 0 then some (.p .nilslice, m, .no) else none
  | .p (.sl rows) =>
    if 0 ≤ lo.getD 0 ∧ lo.getD 0 ≤ hi.getD rows.length ∧ hi.getD rows.length ≤ rows.length ∧ zOK z rows = true then
      some (.p (.sl ((rows.take (hi.getD rows.length).toNat).drop (lo.getD 0).toNat)), m, .no)
    else none
  | .rsl pl off len => match getAt m pl with
    | some (.own false z' _) =>
      if 0 ≤ lo.getD 0 ∧ lo.getD 0 ≤ hi.getD len ∧ hi.getD len ≤ len ∧ z' = z then
        some (.rsl pl (off + (lo.getD 0).toNat) ((hi.getD len).toNat - (lo.getD 0).toNat), m, .no)
      else none
    | _ => none
  | _ => none
def oSsl (m : Mem) (x : AVal) (lo hi : Option Int) : Option Out :=
  match x with
  | .p (.str s) =>
    if 0 ≤ lo.getD 0 ∧ lo.getD 0 ≤ hi.getD s.size ∧ hi.getD s.size ≤ s.size then
      some (.p (.str (s.extract (lo.getD 0).toNat (hi.getD s.size).toNat)), m, .no)
    else none
  | _ => none
def oPick (m : Mem) (c a b : AVal) : Option Out :=
  match c with
  | .p (.bool c) => some (if c = true then a else b, m, .no)
  | _ => none
def oConv (k : Option IntKind) (m : Mem) (x : AVal) : Option Out :=
  match k, x with
  | some k, .p (.int _ n) => some (.p (.int k (k.wrap n)), m, .no)
  | none, .p (.str s) => some (.p (.str s), m, .no)
  | _, _ => none
def oNilchk (m : Mem) (x : AVal) : Option Out :=
  match x with
  | .p (.pt r i j) => some (.p (.pt r i j), m, .no)
  | .rpt pl i j => some (.rpt pl i j, m, .no)
  | .p (.fn f b c) => some (.p (.fn f b c), m, .no)
  | _ => none
def mm (mx : Bool) : IntKind → Int → List AVal → Option Int
  | _, acc, [] => some acc
  | k, acc, .p (.int k' n) :: r => if k' = k then mm mx k (if mx = true then (if n > acc then n else acc) else (if n < acc then n else acc)) r else none
  | _, _, _ => none
def oMinmax (mx : Bool) (m : Mem) (xs : List AVal) : Option Out :=
  match xs with
  | .p (.int k n) :: r => (mm mx k n r).map fun n => (.p (.int k n), m, .no)
  | _ => none
def ev1 (e : Env) (x : Arg) (f : AVal → Option Out) : Option Out := match evA e x with | some v => f v | none => none
def ev2 (e : Env) (x y : Arg) (f : AVal → AVal → Option Out) : Option Out := ev1 e x fun v => ev1 e y fun u => f v u
def ev3 (e : Env) (x y z : Arg) (f : AVal → AVal → AVal → Option Out) : Option Out := ev1 e x fun v => ev1 e y fun u => ev1 e z fun t => f v u t
def evs (e : Env) (xs : List Arg) (f : List AVal → Option Out) : Option Out := match evAs e xs with | some vs => f vs | none => none
/-- An optional bound: absent, or a number. -/
def evB (e : Env) (x : Option Arg) (f : Option Int → Option Out) : Option Out :=
  match x with
  | none => f none
  | some a => match evA e a with
    | some v => match intOf? v with
      | some n => f (some n)
      | none => none
    | none => none
def aOp (o : ROp) (d : Nat) (e : Env) (m : Mem) : Option Out :=
  match o with
  | .mv x => ev1 e x fun v => some (v, m, .no)
  | .alloc cells => some (.rpt ⟨d, 0, []⟩ 0 0, (d, [.own true cells.length [cells.map .p]]) :: m, .site d)
  | .box x => ev1 e x fun v => (newRoot m d true v.cells.length [v.cells]).map fun m' => (.rpt ⟨d, 0, []⟩ 0 0, m', .site d)
  | .load n ag x => ev1 e x (oLoad n ag m)
  | .store n x v => ev2 e x v (oStore n m)
  | .faddr off x => ev1 e x (oFaddr off m)
  | .iaddr z none x i => ev2 e x i (oIaddr z m)
  | .iaddr z (some len) x i => ev2 e x i (oIaddrA z len m)
  | .field off n ag x => ev1 e x (oField off n ag m)
  | .aindex len z ag x i => ev2 e x i (oAindex len z ag m)
  | .sindex x i => ev2 e x i (oSindex m)
  | .bin op x y => ev2 e x y fun x y => (binVal op x y).map fun v => (.p v, m, .no)
  | .eq k neg x y => ev2 e x y fun x y => (eqVal k x y).map fun b => (.p (.bool (if neg = true then !b else b)), m, .no)
  | .un op x => ev1 e x (oUn op m)
  | .build zero parts => evs e (parts.map (·.2.2)) fun vs => oBuild zero m ((parts.zip vs).map fun x => (x.1.1, x.1.2.1, x.2))
  | .bslice z n zero parts => evs e (parts.map (·.2)) fun vs => oBslice d z n zero m ((parts.zip vs).map fun x => (x.1.1, x.2))
  | .fslice z n zero parts => evs e (parts.map (·.2)) fun vs => oFslice z n zero m ((parts.zip vs).map fun x => (x.1.1, x.2))
  | .mkslice z bytes zero len cap => ev2 e len cap (oMkslice d z bytes zero m)
  | .mkmap => some (.rmp ⟨d, 0, []⟩, (d, [.omap []]) :: m, .site d)
  | .srange x => ev1 e x (oSrange d m)
  | .snext x => ev1 e x (oSnext m)
  | .mentry ls zero x k => ev2 e x k (oMentry ls zero m)
  | .mestore x s v => ev3 e x s v (oMestore m)
  | .appin z s x => ev2 e s x (oAppin z m)
  | .appendF z bytes _ s x => ev2 e s x fun s x => oFrzR d (oAppend d z bytes m s x)
  | .appz z bytes zero s n => ev2 e s n (oAppz d z bytes zero m)
  | .cap x => ev1 e x (oCap m)
  | .slc3 x lo hi mx => ev2 e x lo fun x lo => ev2 e hi mx fun hi mx => oSlc3 m x lo hi mx
  | .mrg _ => none
  | .mnx _ => none
  | .ment _ => none
  | .lookup ls zero ok x k => ev2 e x k (oLookup ls zero ok m)
  | .mapset ls x k v => ev3 e x k v (oMapset ls m)
  | .extract i x => ev1 e x (oExtract i m)
  | .len k x => ev1 e x (oLen k m)
  | .append z bytes _ s x => ev2 e s x (oAppend d z bytes m)
  | .copy z x s => ev2 e x s (oCopy z m)
  | .clear z zero x => ev1 e x (oClear z zero m)
  | .slc z x lo hi => ev1 e x fun x => evB e lo fun lo => evB e hi fun hi => oSlice z m x lo hi
  | .ssl x lo hi => ev1 e x fun x => evB e lo fun lo => evB e hi fun hi => oSsl m x lo hi
  | .fn f fst caps => evs e fst fun us => evs e caps fun vs => match allP us with
    | some us => (allP vs).map fun cs => (.p (.fn f us cs), m, .no)
    | none => none
  | .pick c a b => ev3 e c a b (oPick m)
  | .conv k x => ev1 e x (oConv k m)
  | .nilchk x => ev1 e x (oNilchk m)
  | .minmax mx xs => evs e xs (oMinmax mx m)
end Go.Proofs.Ytnmnijgoggombaa.X
/- The operations are sound, part A: what only reads. -/
namespace Go.Proofs.Ytnmnijgoggombaa.X
open Go.RowKit
def OutOK (C : Ctx) (G : Gh) (w : World) (r : Result Value) (out : Out) : Prop :=
  ∃ c w' G', r = .ok c w' ∧ VR G' out.1 c ∧ Step C G w w' out.2.1 out.2.2.fn G'
def tySize (P : Program) (t : TypeId) : Option Nat := (P.info? t).map (·.size)
def aggD : TypeDesc → Bool
  | .struct _ | .array _ _ => true
  | _ => false
def tyAgg (P : Program) (t : TypeId) : Option Bool := (P.underlying t).map aggD
theorem run_tySize {P : Program} {w : World} {t : TypeId} {n : Nat} (h : tySize P t = some n) : (sizeOf t).run P w = .ok n w := by
  unfold tySize at h
  cases hi : P.info? t with
  | none => simp [hi] at h
  | some i => simp [hi] at h; simp [sizeOf, typeInfo, hi, h]
theorem run_tyAgg {P : Program} {w : World} {t : TypeId} {b : Bool} (h : tyAgg P t = some b) : (isAgg t).run P w = .ok b w := by
  unfold tyAgg at h
  cases hi : P.underlying t with
  | none => simp [hi] at h
  | some i => simp [hi] at h; subst h; cases i <;> simp [isAgg, underlying, hi, aggD]
theorem Step.refl {C : Ctx} {G : Gh} {w : World} {m : Mem} (hm : MR G w m) (hg : Good C G w) : Step C G w w m Kill.no.fn G :=
  ⟨hm, hg, Frz.le_refl _, fun _ _ _ h => h⟩
theorem OutOK.pure {C : Ctx} {G : Gh} {w : World} {m : Mem} (hm : MR G w m) (hg : Good C G w) {v : AVal} {c : Value} (h : VR G v c) : OutOK C G w (.ok c w) (v, m, .no) :=
  ⟨c, w, G, rfl, h, Step.refl hm hg⟩
theorem Addr.add_none (b o i : Nat) : (⟨b, o, none⟩ : Addr).add i = ⟨b, o + i, none⟩ := by
  unfold Addr.add
  split
  · subst_vars; rfl
  · rfl
theorem VR.out {G : Gh} {x : PVal} {c : Value} (h : VR G (.p x) c) : PV G.F x c := by cases h; assumption
theorem pofCells_spec {ag : Bool} {n : Nat} {cs : List PVal} {v : PVal} (h : pofCells ag n cs = some v) :
    cs.length = n ∧ ((ag = true ∧ v = .agg cs) ∨ (ag = false ∧ cs = [v] ∧ n = 1)) := by
  unfold pofCells at h
  split at h
  · rename_i hl
    refine ⟨hl, ?_⟩
    split at h
    · cases h; exact .inl ⟨by assumption, rfl⟩
    · rename_i hag
      split at h
      · cases h; exact .inr ⟨by simpa using hag, rfl, by simpa using hl.symm⟩
      · cases h
  · cases h
theorem ofCells_spec {ag : Bool} {n : Nat} {cs : List AVal} {v : AVal} (h : ofCells ag n cs = some v) :
    cs.length = n ∧ ((ag = true ∧ v = mkAgg cs) ∨ (ag = false ∧ cs = [v] ∧ n = 1)) := by
  unfold ofCells at h
  split at h
  · rename_i hl
    refine ⟨hl, ?_⟩
    split at h
    · cases h; exact .inl ⟨by assumption, rfl⟩
    · rename_i hag
      split at h
      · cases h; exact .inr ⟨by simpa using hag, rfl, by simpa using hl.symm⟩
      · cases h
  · cases h
theorem allP_spec {l : List AVal} {ps : List PVal} (h : allP l = some ps) : l = ps.map .p := by
  induction l generalizing ps with
  | nil => simp [allP] at h; subst h; rfl
  | cons a l ih =>
    cases a <;> simp [allP] at h
    obtain ⟨r, hr, rfl⟩ := h
    rw [ih hr]; rfl
/-- Cells, each related, make a related whole. -/
theorem VR.mkAgg {G : Gh} {cs : List AVal} {cv : Array Value} (hs : cv.size = cs.length) (hc : ∀ a ∈ cs, a.scalar = true)
    (h : ∀ (i : Nat) (a : AVal) (v : Value), cs[i]? = some a → cv[i]? = some v → VR G a v) : VR G (X.mkAgg cs) (.agg cv) := by
  unfold X.mkAgg
  cases hp : allP cs with
  | none => exact .agg cs cv hs hc h
  | some ps =>
    have := allP_spec hp
    subst this
    refine .p (.agg ps cv (by simpa using hs) (fun p hpm => hc (.p p) (List.mem_map.2 ⟨p, hpm, rfl⟩)) ?_)
    intro i p v h1 h2
    have := h i (.p p) v (by simp [h1]) h2
    cases this with
    | p h => exact h
theorem PV.cells {F : Frz} {x : PVal} {c : Value} (h : PV F x c) (ht : ∀ vs, x ≠ .tup vs) :
    c.cells.size = x.cells.length ∧ (∀ (i : Nat) (p : PVal) (v : Value), x.cells[i]? = some p → c.cells[i]? = some v → PV F p v) := by
  cases h with
  | agg cs cv hs hc h => exact ⟨hs, h⟩
  | tup cs cv hs h => exact absurd rfl (ht cs)
  | _ =>
    refine ⟨rfl, ?_⟩
    intro i p v h1 h2
    cases i with
    | zero =>
      simp [PVal.cells] at h1
      simp [Value.cells] at h2
      subst h1 h2
      constructor <;> assumption
    | succ i => simp [PVal.cells] at h1
section load
variable {P : Program} {C : Ctx} {G : Gh} {w : World} {m : Mem}
theorem run_loadVar {t : TypeId} {ag : Bool} {n : Nat} (hag : tyAgg P t = some ag) (hn : tySize P t = some n) (b o : Nat) (f : Nat → Value)
    (hf : ∀ q, q < n → w.cell? ⟨b, o + q, none⟩ = some (f q)) (h1 : ag = false → n = 1) :
    (loadVar t ⟨b, o, none⟩).run P w = .ok (if ag then .agg ((List.range n).map f).toArray else f 0) w := by
  unfold loadVar
  simp only [Sem.run_bind, run_tyAgg hag, Result.andThen_ok]
  cases ag with
  | true =>
    simp only [if_true, Sem.run_bind, run_tySize hn, Result.andThen_ok]
    rw [run_loadCells w ⟨b, o, none⟩ n f (fun j hj => by rw [Addr.add_none]; exact hf j hj)]
    rfl
  | false =>
    have := hf 0 (by have := h1 rfl; omega)
    simp only [Nat.add_zero] at this
    simp [this]
/-- The same, and the world is as it was. -/
def OutOKS (C : Ctx) (G : Gh) (w : World) (r : Result Value) (out : Out) : Prop := OutOK C G w r out ∧ ∃ c, r = .ok c w ∧ VR G out.1 c
theorem OutOKS.vr {r : Result Value} {out : Out} (h : OutOKS C G w r out) {u : Value} {w' : World} (hr : r = .ok u w') : VR G out.1 u := by
  obtain ⟨_, c, h1, h2⟩ := h
  rw [hr] at h1
  cases h1
  exact h2
theorem OutOKS.pure (hm : MR G w m) (hg : Good C G w) {v : AVal} {c : Value} (h : VR G v c) : OutOKS C G w (.ok c w) (v, m, .no) := ⟨OutOK.pure hm hg h, c, rfl, h⟩
theorem oLoad_okS {t : TypeId} {ag : Bool} {n : Nat} (hag : tyAgg P t = some ag) (hn : tySize P t = some n) (hm : MR G w m) (hg : Good C G w)
    {x : AVal} {c : Value} (hx : VR G x c) {out : Out} (h : oLoad n ag m x = some out) : OutOKS C G w ((Instr.loadAt t c).run P w) out := by
  unfold oLoad at h
  split at h
  · -- a pure pointer
    rename_i rows i j
    split at h
    · rename_i row hrow
      simp only [Option.map_eq_some_iff] at h
      obtain ⟨v, hv, rfl⟩ := h
      cases hx with
      | p hp =>
        cases hp with
        | pt _ _ _ b o z f hz hc hpv =>
          obtain ⟨hlen, hcase⟩ := pofCells_spec hv
          have hq : ∀ q, q < n → ∃ p, row[j + q]? = some p ∧ ((row.drop j).take n)[q]? = some p := by
            intro q hq
            have h1 : ((row.drop j).take n)[q]? = some (((row.drop j).take n)[q]'(by omega)) := List.getElem?_eq_getElem _
            refine ⟨_, ?_, h1⟩
            rw [← h1, List.getElem?_take]
            simp [hq]
          have hcell : ∀ q, q < n → w.cell? ⟨b, o + i * z + j + q, none⟩ = some (f i (j + q)) := by
            intro q hq'
            obtain ⟨p, h1, _⟩ := hq q hq'
            have := hg.fz _ _ _ (hc i (j + q) row p hrow h1).2
            rw [← Nat.add_assoc] at this
            exact this
          have hrun := run_loadVar (P := P) (w := w) hag hn b (o + i * z + j) (fun q => f i (j + q)) hcell (fun h => by rcases hcase with ⟨e, _⟩ | ⟨_, _, e⟩; (rw [e] at h; cases h); exact e)
          simp only [Instr.loadAt, Instr.sureAddr, Sem.run_bind, Sem.run_pure, Result.andThen_ok, hrun]
          refine OutOKS.pure hm hg (.p ?_)
          rcases hcase with ⟨rfl, rfl⟩ | ⟨rfl, he, rfl⟩
          · simp only [if_true]
            refine .agg _ _ (by simp [hlen]) ?_ ?_
            · intro p hp
              obtain ⟨q, hqq⟩ := List.mem_iff_getElem?.1 hp
              have hqn : q < n := by obtain ⟨h', _⟩ := List.getElem?_eq_some_iff.1 hqq; omega
              obtain ⟨p', h1, h2⟩ := hq q hqn
              rw [hqq] at h2; cases h2
              exact (hc i (j + q) row p hrow h1).1
            · intro q p v hqq hvv
              have hqn : q < n := by obtain ⟨h', _⟩ := List.getElem?_eq_some_iff.1 hqq; omega
              obtain ⟨p', h1, h2⟩ := hq q hqn
              rw [hqq] at h2; cases h2
              have : v = f i (j + q) := by simpa [hqn] using hvv.symm
              rw [this]
              exact hpv i (j + q) row p hrow h1
          · obtain ⟨p', h1, h2⟩ := hq 0 (by omega)
            rw [he] at h2; simp at h2; subst h2
            simpa using hpv i (j + 0) row v hrow h1
    · cases h
  · -- a pointer into what is owned
    rename_i pl i j
    split at h
    · rename_i ptr z rows hget
      split at h
      · rename_i row hrow
        cases hr : refsOf pl i j ((row.drop j).take n) with
        | none => simp [hr] at h
        | some cs =>
          simp only [hr, Option.bind_some, Option.map_eq_some_iff] at h
          obtain ⟨v, hv, rfl⟩ := h
          have hH := hm pl _ hget
          obtain ⟨b, o, cap, cells, ty, h1, h2, h3, h4, h5, h6, h7, h8⟩ := hH
          cases hx with
          | rpt _ _ _ _ hxx =>
            have hcc := hxx _ _ _ _ h1
            subst hcc
            obtain ⟨hlen, hcase⟩ := ofCells_spec hv
            have hrefs : ∀ (l : List AVal) (j0 : Nat) (cs : List AVal), refsOf pl i j0 l = some cs → cs.length = l.length ∧
                ∀ (q : Nat) (a : AVal), l[q]? = some a → ∃ x, cs[q]? = some x ∧ refOf (pl.ext i (j0 + q)) a = some x := by
              intro l
              induction l with
              | nil => intro j0 cs h; simp [refsOf] at h; subst h; simp
              | cons a l ih =>
                intro j0 cs h
                simp only [refsOf] at h
                cases ha : refOf (pl.ext i j0) a with
                | none => simp [ha] at h
                | some x =>
                  cases hl : refsOf pl i (j0 + 1) l with
                  | none => simp [ha, hl] at h
                  | some xs =>
                    simp [ha, hl] at h
                    subst h
                    obtain ⟨g1, g2⟩ := ih (j0 + 1) xs hl
                    refine ⟨by simp [g1], fun q a' hq => ?_⟩
                    cases q with
                    | zero => simp at hq; subst hq; exact ⟨x, by simp, by simpa using ha⟩
                    | succ q =>
                      obtain ⟨y, hy1, hy2⟩ := g2 q a' (by simpa using hq)
                      exact ⟨y, by simpa using hy1, by rw [show j0 + (q + 1) = j0 + 1 + q by omega]; exact hy2⟩
            obtain ⟨e1, e2⟩ := hrefs _ _ _ hr
            have hq : ∀ q, q < n → ∃ a x, row[j + q]? = some a ∧ cs[q]? = some x ∧ refOf (pl.ext i (j + q)) a = some x := by
              intro q hq
              have hh : ((row.drop j).take n)[q]? = some (((row.drop j).take n)[q]'(by omega)) := List.getElem?_eq_getElem _
              obtain ⟨x, hx1, hx2⟩ := e2 q _ hh
              refine ⟨_, x, ?_, hx1, hx2⟩
              rw [← hh, List.getElem?_take]
              simp [hq]
            have hcell : ∀ q, q < n → w.cell? ⟨b, o + i * z + j + q, none⟩ = some (G.cv (pl.ext i (j + q))) := by
              intro q hq'
              obtain ⟨a, x, g1, _⟩ := hq q hq'
              have := (h8 i (j + q) a (cellAt_some.2 ⟨row, hrow, g1⟩)).2
              rw [← Nat.add_assoc] at this
              simpa [World.cell?, h3] using this
            have hrun := run_loadVar (P := P) (w := w) hag hn b (o + i * z + j) (fun q => G.cv (pl.ext i (j + q))) hcell (fun h => by rcases hcase with ⟨e, _⟩ | ⟨_, _, e⟩; (rw [e] at h; cases h); exact e)
            simp only [Instr.loadAt, Instr.sureAddr, Sem.run_bind, Sem.run_pure, Result.andThen_ok, hrun]
            have hvr : ∀ q, q < n → ∀ x, cs[q]? = some x → VR G x (G.cv (pl.ext i (j + q))) ∧ x.scalar = true := by
              intro q hq' x hx'
              obtain ⟨a, x', g1, g2, g3⟩ := hq q hq'
              rw [hx'] at g2; cases g2
              have hc := cellAt_some.2 ⟨row, hrow, g1⟩
              refine ⟨refOf_cv (hm _ a (by rw [getAt_ext hget]; exact hc)) g3, ?_⟩
              have hs := (h8 i (j + q) a hc).1
              cases a with
              | own ptr _ _ => cases ptr <;> (simp [refOf] at g3; subst g3; rfl)
              | p => simp [refOf] at g3; subst g3; exact hs
              | omap => simp [refOf] at g3; subst g3; rfl
              | _ => simp [refOf] at g3
            refine OutOKS.pure hm hg ?_
            rcases hcase with ⟨rfl, rfl⟩ | ⟨rfl, he, rfl⟩
            · simp only [if_true]
              refine VR.mkAgg (by simp [hlen]) ?_ ?_
              · intro a ha
                obtain ⟨q, hqq⟩ := List.mem_iff_getElem?.1 ha
                have hqn : q < n := by obtain ⟨h', _⟩ := List.getElem?_eq_some_iff.1 hqq; omega
                exact (hvr q hqn a hqq).2
              · intro q a v hqq hvv
                have hqn : q < n := by obtain ⟨h', _⟩ := List.getElem?_eq_some_iff.1 hqq; omega
                have : v = G.cv (pl.ext i (j + q)) := by simpa [hqn] using hvv.symm
                rw [this]
                exact (hvr q hqn a hqq).1
            · have := (hvr 0 (by omega) v (by rw [he]; rfl)).1
              simpa using this
      · cases h
    · cases h
  · cases h
theorem oLoad_ok {t : TypeId} {ag : Bool} {n : Nat} (hag : tyAgg P t = some ag) (hn : tySize P t = some n) (hm : MR G w m) (hg : Good C G w)
    {x : AVal} {c : Value} (hx : VR G x c) {out : Out} (h : oLoad n ag m x = some out) : OutOK C G w ((Instr.loadAt t c).run P w) out := (oLoad_okS hag hn hm hg hx h).1
end load
end Go.Proofs.Ytnmnijgoggombaa.X
/- The operations are sound, part B: addresses, fields, numbers, strings, tuples. -/
namespace Go.Proofs.Ytnmnijgoggombaa.X
open Go.RowKit
section
variable {P : Program} {C : Ctx} {G : Gh} {w : World} {m : Mem}
theorem oFaddr_ok {s : TypeId} {field off : Nat} {fs : Array Field} {f : Field} (hs : P.underlying s = some (.struct fs)) (hf : fs[field]? = some f) (ho : f.offset = off)
    {k : Nat} (hk : tySize P f.type = some k) (hk0 : k ≠ 0) (hm : MR G w m) (hg : Good C G w)
    {x : AVal} {c : Value} (hx : VR G x c) {out : Out} (h : oFaddr off m x = some out) :
    OutOK C G w ((Instr.fieldAt s c field).run P w) out := by
  have key : ∀ ad : Addr, (Instr.fieldAt s (.pointer (some ad)) field).run P w = .ok (.pointer (some (ad.add off))) w := by
    intro ad
    simp [Instr.fieldAt, underlying, hs, hf, Instr.sureAddr, fieldPlace, run_tySize hk, hk0, ho]
  unfold oFaddr at h
  split at h
  · cases h
    cases hx with
    | p hp =>
      cases hp with
      | pt _ _ _ b o z f' hz hc hpv =>
        rw [key, Addr.add_none]
        refine OutOK.pure hm hg (.p ?_)
        rw [Nat.add_assoc]
        exact .pt _ _ _ b o z f' hz hc hpv
  · rename_i pl i j
    cases h
    cases hx with
    | rpt _ _ _ ad hxx =>
      rw [key]
      refine OutOK.pure hm hg (.rpt _ _ _ _ fun b' o' cap' z' hL' => ?_)
      rw [hxx _ _ _ _ hL', Addr.add_none]
      simp
  · cases h
theorem asIntOf_of {i : AVal} {ci : Value} (hi : VR G i ci) {n : Int} (hn : intOf? i = some n) : ∃ k, ci = .int k n := by
  cases i with
  | p v =>
    cases v <;> simp [intOf?] at hn
    subst hn
    cases hi with
    | p hp => cases hp; exact ⟨_, rfl⟩
  | _ => simp [intOf?] at hn
theorem oIaddr_ok {t e : TypeId} {z : Nat} (ht : P.underlying t = some (.slice e)) (hz : tySize P e = some z) (hm : MR G w m) (hg : Good C G w)
    {x i : AVal} {c ci : Value} (hx : VR G x c) (hi : VR G i ci) {out : Out} (h : oIaddr z m x i = some out) :
    OutOK C G w ((Instr.indexAt t c ci).run P w) out := by
  unfold oIaddr at h
  cases hn : intOf? i with
  | none => simp [hn] at h
  | some n =>
    obtain ⟨k, rfl⟩ := asIntOf_of hi hn
    have key : ∀ (b o len cap : Nat), 0 ≤ n → n < (len : Int) → (Instr.indexAt t (.slice (some ⟨b, o, none⟩) len cap) (.int k n)).run P w = .ok (.pointer (some ⟨b, o + n.toNat * z, none⟩)) w := by
      intro b o len cap h0 h1
      simp [Instr.indexAt, asIntOf, underlying, ht, h0, h1, run_tySize hz, Addr.add_none]
    simp only [hn] at h
    split at h
    · rename_i rows
      split at h
      · rename_i h0
        split at h
        · rename_i row hrow
          split at h
          · rename_i hl
            cases h
            cases hx with
            | p hp =>
              cases hp with
              | sl _ b o cap z' f hcap hz' hc hpv =>
                have hlt : n.toNat < rows.length := (List.getElem?_eq_some_iff.1 hrow).1
                rw [key b o rows.length cap h0 (by omega)]
                have hzz : z' = z := by rw [← hz' row (List.mem_of_getElem? hrow)]; exact hl
                subst hzz
                refine OutOK.pure hm hg (.p ?_)
                exact .pt rows n.toNat 0 b o z' f hz' hc hpv
              | sl0 ad => simp at hrow
          · cases h
        · cases h
      · cases h
    · rename_i pl off len
      split at h
      · rename_i z' rows hget
        split at h
        · rename_i hcond
          cases h
          obtain ⟨h0, h1, rfl⟩ := hcond
          obtain ⟨b, o, cap, cs, ty, g1, g2, g3, g4, g5, g6, g7, g8⟩ := hm pl _ hget
          cases hx with
          | rsl _ _ _ ad k' hxx =>
            obtain ⟨q1, _, q2⟩ := hxx _ _ _ _ g1
            have := q2 (.inl (by omega))
            subst this
            rw [key _ _ _ _ h0 h1]
            refine OutOK.pure hm hg (.rpt _ _ _ _ fun b' o' cap' z'' hL' => ?_)
            rw [g1] at hL'
            cases hL'
            simp [Nat.add_mul, Nat.add_assoc]
        · cases h
      · cases h
    · cases h
theorem oIaddrA_ok {t e : TypeId} {z len : Nat} (ht : P.underlying t = some (.array len e)) (hz : tySize P e = some z) (hm : MR G w m) (hg : Good C G w)
    {x i : AVal} {c ci : Value} (hx : VR G x c) (hi : VR G i ci) {out : Out} (h : oIaddrA z len m x i = some out) :
    OutOK C G w ((Instr.indexAt t c ci).run P w) out := by
  unfold oIaddrA at h
  cases hn : intOf? i with
  | none => simp [hn] at h
  | some n =>
    obtain ⟨k, rfl⟩ := asIntOf_of hi hn
    simp only [hn] at h
    split at h
    · rename_i hcond
      obtain ⟨h0, h1⟩ := hcond
      have key : ∀ ad : Addr, (Instr.indexAt t (.pointer (some ad)) (.int k n)).run P w = .ok (.pointer (some (ad.add (n.toNat * z)))) w := by
        intro ad
        simp [Instr.indexAt, asIntOf, underlying, ht, h0, h1, run_tySize hz, Instr.sureAddr]
      split at h
      · cases h
        cases hx with
        | p hp =>
          cases hp with
          | pt _ _ _ b o z' f hz' hc hpv =>
            rw [key, Addr.add_none]
            refine OutOK.pure hm hg (.p ?_)
            rw [Nat.add_assoc]
            exact .pt _ _ _ b o z' f hz' hc hpv
      · rename_i pl i0 j0
        cases h
        cases hx with
        | rpt _ _ _ ad hxx =>
          rw [key]
          refine OutOK.pure hm hg (.rpt _ _ _ _ fun b' o' cap' z'' hL' => ?_)
          rw [hxx _ _ _ _ hL', Addr.add_none]
          simp
      · cases h
    · cases h
theorem run_part {t : TypeId} {ag : Bool} {n : Nat} (hag : tyAgg P t = some ag) (hn : tySize P t = some n) (cs : Array Value) (off : Nat)
    (hlt : ag = false → off < cs.size) : (part t cs off).run P w = .ok (if ag then .agg (cs.extract off (off + n)) else cs.getD off undef) w := by
  unfold part
  simp only [Sem.run_bind, run_tyAgg hag, Result.andThen_ok]
  cases ag with
  | true => simp [run_tySize hn]
  | false => simp [hlt rfl]
theorem oField_part {t : TypeId} {off n : Nat} {ag : Bool} (hag : tyAgg P t = some ag) (hn : tySize P t = some n) (hm : MR G w m) (hg : Good C G w)
    {x : AVal} {c : Value} (hx : VR G x c) {out : Out} (h : oField off n ag m x = some out) : ∃ cs, c = .agg cs ∧ OutOK C G w ((part t cs off).run P w) out := by
  have hidx : ∀ (l : List PVal) (q : Nat) (p : PVal), ((l.drop off).take n)[q]? = some p → l[off + q]? = some p ∧ q < n := by
    intro l q p h
    rw [List.getElem?_take] at h
    split at h
    · exact ⟨by simpa using h, by assumption⟩
    · cases h
  have hidx' : ∀ (l : List AVal) (q : Nat) (p : AVal), ((l.drop off).take n)[q]? = some p → l[off + q]? = some p ∧ q < n := by
    intro l q p h
    rw [List.getElem?_take] at h
    split at h
    · exact ⟨by simpa using h, by assumption⟩
    · cases h
  unfold oField at h
  split at h
  · rename_i cs
    simp only [Option.map_eq_some_iff] at h
    obtain ⟨v, hv, rfl⟩ := h
    cases hx with
    | p hp =>
      cases hp with
      | agg _ cv hs hc hpv =>
        refine ⟨cv, rfl, ?_⟩
        obtain ⟨hlen, hcase⟩ := pofCells_spec hv
        have hsz : off + n ≤ cs.length ∨ n = 0 := by simp at hlen; omega
        rcases hcase with ⟨rfl, rfl⟩ | ⟨rfl, he, rfl⟩
        · rw [run_part hag hn cv off (fun h => by cases h)]
          refine OutOK.pure hm hg (.p (.agg _ _ ?_ (fun p hp => hc p (List.mem_of_mem_drop (List.mem_of_mem_take hp))) ?_))
          · simp only [Array.size_extract]; rw [hlen]; omega
          · intro q p u h1 h2
            obtain ⟨h3, h4⟩ := hidx cs q p h1
            refine hpv (off + q) p u h3 ?_
            rw [Array.getElem?_extract] at h2
            split at h2
            · exact h2
            · cases h2
        · have hlt : off < cv.size := by rw [hs]; omega
          rw [run_part hag hn cv off (fun _ => hlt)]
          refine OutOK.pure hm hg (.p ?_)
          obtain ⟨h3, _⟩ := hidx cs 0 v (by rw [he]; rfl)
          refine hpv off v _ (by simpa using h3) ?_
          simp [hlt]
  · rename_i cs
    simp only [Option.map_eq_some_iff] at h
    obtain ⟨v, hv, rfl⟩ := h
    cases hx with
    | agg _ cv hs hc hpv =>
      refine ⟨cv, rfl, ?_⟩
      obtain ⟨hlen, hcase⟩ := ofCells_spec hv
      have hsz : off + n ≤ cs.length ∨ n = 0 := by simp at hlen; omega
      rcases hcase with ⟨rfl, rfl⟩ | ⟨rfl, he, rfl⟩
      · rw [run_part hag hn cv off (fun h => by cases h)]
        refine OutOK.pure hm hg (VR.mkAgg ?_ (fun p hp => hc p (List.mem_of_mem_drop (List.mem_of_mem_take hp))) ?_)
        · simp only [Array.size_extract]; rw [hlen]; omega
        · intro q p u h1 h2
          obtain ⟨h3, h4⟩ := hidx' cs q p h1
          refine hpv (off + q) p u h3 ?_
          rw [Array.getElem?_extract] at h2
          split at h2
          · exact h2
          · cases h2
      · have hlt : off < cv.size := by rw [hs]; omega
        rw [run_part hag hn cv off (fun _ => hlt)]
        refine OutOK.pure hm hg ?_
        obtain ⟨h3, _⟩ := hidx' cs 0 v (by rw [he]; rfl)
        refine hpv off v _ (by simpa using h3) ?_
        simp [hlt]
  · cases h
theorem oField_ok {s : TypeId} {field off n : Nat} {ag : Bool} {fs : Array Field} {f : Field} (hs : P.underlying s = some (.struct fs)) (hf : fs[field]? = some f) (ho : f.offset = off)
    (hag : tyAgg P f.type = some ag) (hn : tySize P f.type = some n) (hm : MR G w m) (hg : Good C G w)
    {x : AVal} {c : Value} (hx : VR G x c) {out : Out} (h : oField off n ag m x = some out) : OutOK C G w ((Instr.field s c field).run P w) out := by
  obtain ⟨cs, rfl, hr⟩ := oField_part hag hn hm hg hx h
  simp only [Instr.field, underlying, Sem.run_bind, run_program, Result.andThen_ok, hs, Sem.run_pure, hf, asAgg, ho]
  exact hr
theorem oAindex_ok {t e : TypeId} {z len : Nat} {ag : Bool} (ht : P.underlying t = some (.array len e)) (hag : tyAgg P e = some ag) (hz : tySize P e = some z) (hm : MR G w m) (hg : Good C G w)
    {x i : AVal} {c ci : Value} (hx : VR G x c) (hi : VR G i ci) {out : Out} (h : oAindex len z ag m x i = some out) : OutOK C G w ((Instr.index t c ci).run P w) out := by
  unfold oAindex at h
  cases hn : intOf? i with
  | none => simp [hn] at h
  | some n =>
    obtain ⟨k, rfl⟩ := asIntOf_of hi hn
    simp only [hn] at h
    split at h
    · rename_i hcond
      obtain ⟨cs, rfl, hr⟩ := oField_part hag hz hm hg hx h
      simp only [Instr.index, asIntOf, underlying, Sem.run_bind, run_program, Result.andThen_ok, ht, Sem.run_pure, hcond, and_self, if_true, run_tySize hz]
      exact hr
    · cases h
theorem oSindex_ok {t : TypeId} (ht : P.underlying t = some .string) (hm : MR G w m) (hg : Good C G w)
    {x i : AVal} {c ci : Value} (hx : VR G x c) (hi : VR G i ci) {out : Out} (h : oSindex m x i = some out) : OutOK C G w ((Instr.index t c ci).run P w) out := by
  unfold oSindex at h
  split at h
  · rename_i n s hn
    obtain ⟨k, rfl⟩ := asIntOf_of hi hn
    split at h
    · rename_i h0
      simp only [Option.map_eq_some_iff] at h
      obtain ⟨b, hb, rfl⟩ := h
      cases hx with
      | p hp =>
        cases hp
        simp only [Instr.index, asIntOf, underlying, Sem.run_bind, run_program, Result.andThen_ok, ht, Sem.run_pure, h0, if_true, hb]
        exact OutOK.pure hm hg (.p (.int _ _))
    · cases h
  · cases h
theorem oUn_ok {op : UnOp} (hm : MR G w m) (hg : Good C G w) {x : AVal} {c : Value} (hx : VR G x c) {out : Out} (h : oUn op m x = some out) :
    OutOK C G w ((Op.unary op c).run P w) out := by
  unfold oUn at h
  split at h
  · cases h
    cases hx with
    | p hp => cases hp; exact OutOK.pure hm hg (.p (.int _ _))
  · cases h
    cases hx with
    | p hp => cases hp; exact OutOK.pure hm hg (.p (.bool _))
  · cases h
theorem binVal_ok {op : BinOp} {t : TypeId} {ox oy : Operand} (hm : MR G w m) (hg : Good C G w) {x y : AVal} {c d : Value} (hx : VR G x c) (hy : VR G y d) {v : PVal} (h : binVal op x y = some v) :
    OutOK C G w ((do eqGuard op t ox oy c d; binOp op t c d : Sem Value).run P w) (.p v, m, .no) := by
  unfold binVal at h
  split at h
  · rename_i k a k' b
    split at h
    · rename_i hk
      subst hk
      have hp := hx.out; cases hp
      have hp := hy.out; cases hp
      have hge : (eqGuard op t ox oy (.int k a) (.int k b)).run P w = .ok () w := by cases op <;> simp [eqGuard]
      cases op <;> simp only [intBin] at h <;> first
        | (cases h; done)
        | (split at h
           · cases h
           · rename_i hb
             cases h
             simp only [Sem.run_bind, hge, Result.andThen_ok, binOp, Op.intDiv, hb, if_false, ne_eq, not_true_eq_false]
             exact OutOK.pure hm hg (.p (.int _ _)))
        | (cases h
           simp only [Sem.run_bind, hge, Result.andThen_ok, binOp, Op.intArith, Op.intCmp, if_false, ne_eq, not_true_eq_false]
           first | exact OutOK.pure hm hg (.p (.int _ _)) | exact OutOK.pure hm hg (.p (.bool _)))
    · cases h
  · rename_i a b
    have hp := hx.out; cases hp
    have hp := hy.out; cases hp
    have hge : (eqGuard op t ox oy (.string a) (.string b)).run P w = .ok () w := by cases op <;> simp [eqGuard]
    cases op <;> simp only [strBin] at h <;> first
      | (cases h; done)
      | (split at h
         · rename_i hb
           cases h
           have hb' : ¬ (((a.size + b.size : Nat) : Int) > IntKind.i64.max) := by
             have : IntKind.i64.max = 9223372036854775807 := by decide
             omega
           simp only [Sem.run_bind, hge, Result.andThen_ok, binOp, Op.stringOp, hb', if_false]
           exact OutOK.pure hm hg (.p (.str _))
         · cases h)
      | (cases h
         simp only [Sem.run_bind, hge, Result.andThen_ok, binOp, Op.stringOp]
         exact OutOK.pure hm hg (.p (.bool _)))
  · cases h
theorem oExtract_ok {i : Nat} (hm : MR G w m) (hg : Good C G w) {x : AVal} {c : Value} (hx : VR G x c) {out : Out} (h : oExtract i m x = some out) :
    OutOK C G w ((Instr.extract c i).run P w) out := by
  unfold oExtract at h
  split at h
  · simp only [Option.map_eq_some_iff] at h
    obtain ⟨v, hv, rfl⟩ := h
    cases hx with
    | p hp =>
      cases hp with
      | tup cs cv hs hpv =>
        have hlt : i < cv.size := by rw [hs]; exact (List.getElem?_eq_some_iff.1 hv).1
        simp only [Instr.extract, Array.getElem?_eq_getElem hlt, Sem.run_pure]
        exact OutOK.pure hm hg (.p (hpv i v _ hv (Array.getElem?_eq_getElem hlt)))
  · simp only [Option.map_eq_some_iff] at h
    obtain ⟨v, hv, rfl⟩ := h
    cases hx with
    | tup cs cv hs hpv =>
      have hlt : i < cv.size := by rw [hs]; exact (List.getElem?_eq_some_iff.1 hv).1
      simp only [Instr.extract, Array.getElem?_eq_getElem hlt, Sem.run_pure]
      exact OutOK.pure hm hg (hpv i v _ hv (Array.getElem?_eq_getElem hlt))
  · cases h
/-- The types that 'len' is asked of. -/
def lenD : LenK → TypeDesc → Bool
  | .arr n, .array n' _ => n == n'
  | .str, .string => true
  | .sl, .slice _ => true
  | .mp, .map _ _ => true
  | _, _ => false
theorem oLen_ok {k : LenK} {t ty : TypeId} {d : TypeDesc} (ht : P.underlying t = some d) (hd : lenD k d = true) (hm : MR G w m) (hg : Good C G w) {x : AVal} {c : Value} (hx : VR G x c) {out : Out} (h : oLen k m x = some out) :
    OutOK C G w ((Builtin.len_ #[t] ty #[c]).run P w) out := by
  have hu : (underlying t).run P w = .ok d w := by simp [underlying, ht]
  unfold oLen at h
  split at h
  · cases h
    cases d <;> simp [lenD] at hd
    subst hd
    simp only [Builtin.len_, List.getElem?_toArray, List.getElem?_cons_zero, Sem.run_bind, hu, Result.andThen_ok, Sem.run_pure]
    exact OutOK.pure hm hg (.p (.int _ _))
  · cases h
    have hp := hx.out; cases hp
    cases d <;> simp [lenD] at hd
    simp only [Builtin.len_, List.getElem?_toArray, List.getElem?_cons_zero, Sem.run_bind, hu, Result.andThen_ok, Sem.run_pure]
    exact OutOK.pure hm hg (.p (.int _ _))
  · cases h
    have hp := hx.out
    cases d <;> simp [lenD] at hd
    cases hp <;> (simp only [Builtin.len_, List.getElem?_toArray, List.getElem?_cons_zero, Sem.run_bind, hu, Result.andThen_ok, Sem.run_pure]; exact OutOK.pure hm hg (.p (.int _ _)))
  · cases h
    cases hx with
    | rsl _ _ _ _ _ hxx =>
      cases d <;> simp [lenD] at hd
      simp only [Builtin.len_, List.getElem?_toArray, List.getElem?_cons_zero, Sem.run_bind, hu, Result.andThen_ok, Sem.run_pure]
      exact OutOK.pure hm hg (.p (.int _ _))
  · cases h
    have hp := hx.out; cases hp
    cases d <;> simp [lenD] at hd
    simp only [Builtin.len_, List.getElem?_toArray, List.getElem?_cons_zero, Sem.run_bind, hu, Result.andThen_ok, Sem.run_pure]
    exact OutOK.pure hm hg (.p (.int _ _))
  · cases h
    have hp := hx.out; cases hp
    cases d <;> simp [lenD] at hd
    simp only [Builtin.len_, List.getElem?_toArray, List.getElem?_cons_zero, Sem.run_bind, hu, Result.andThen_ok, Sem.run_pure]
    exact OutOK.pure hm hg (.p (.int _ _))
  · cases h
    have hp := hx.out
    cases hp with
    | mp es r ev hr hs hk hv =>
      cases d <;> simp [lenD] at hd
      obtain ⟨clock, hh⟩ := hg.fm r ev hr
      simp only [Builtin.len_, List.getElem?_toArray, List.getElem?_cons_zero, Sem.run_bind, hu, Result.andThen_ok, Sem.run_pure, getObj, Sem.run, hh]
      rw [hs]
      exact OutOK.pure hm hg (.p (.int _ _))
  · rename_i pl
    split at h
    · rename_i es hget
      cases h
      obtain ⟨r, ev, clock, g1, g2, g3, g4, _⟩ := hm pl _ hget
      cases hx with
      | rmp _ _ hxx =>
        have := hxx _ _ _ _ g1
        subst this
        cases d <;> simp [lenD] at hd
        simp only [Builtin.len_, List.getElem?_toArray, List.getElem?_cons_zero, Sem.run_bind, hu, Result.andThen_ok, Sem.run_pure, getObj, Sem.run, g3]
        rw [g4]
        exact OutOK.pure hm hg (.p (.int _ _))
    · rename_i n hget
      cases h
      obtain ⟨r, ev, clock, g1, g2, g3, g4⟩ := hm pl _ hget
      cases hx with
      | rmp _ _ hxx =>
        have := hxx _ _ _ _ g1
        subst this
        cases d <;> simp [lenD] at hd
        simp only [Builtin.len_, List.getElem?_toArray, List.getElem?_cons_zero, Sem.run_bind, hu, Result.andThen_ok, Sem.run_pure, getObj, Sem.run, g3]
        rw [g4]
        exact OutOK.pure hm hg (.p (.int _ _))
    · cases h
  · cases h
theorem oConv_ok {k : Option IntKind} {src dst : TypeId} {ds dd : TypeDesc} (hs : P.underlying src = some ds) (hd : P.underlying dst = some dd)
    (hk : match k with | some k => dd = .int k | none => dd = .string)
    (hm : MR G w m) (hg : Good C G w) {x : AVal} {c : Value} (hx : VR G x c) {out : Out} (h : oConv k m x = some out) :
    OutOK C G w ((convert src dst c).run P w) out := by
  unfold oConv at h
  split at h
  · rename_i k' k0 n
    cases h
    simp only at hk
    subst hk
    have hp := hx.out; cases hp
    simp only [convert, underlying, Sem.run_bind, run_program, Result.andThen_ok, hs, hd, Sem.run_pure, Conv.intToInt]
    exact OutOK.pure hm hg (.p (.int _ _))
  · rename_i s
    cases h
    simp only at hk
    subst hk
    have hp := hx.out; cases hp
    simp only [convert, underlying, Sem.run_bind, run_program, Result.andThen_ok, hs, hd, Sem.run_pure]
    exact OutOK.pure hm hg (.p (.str _))
  · cases h
theorem mm_run (mx : Bool) : ∀ (k : IntKind) (acc : Int) (vs : List AVal) (cs : List Value), cs.length = vs.length →
    (∀ (i : Nat) (v : AVal) (c : Value), vs[i]? = some v → cs[i]? = some c → VR G v c) → ∀ r, mm mx k acc vs = some r →
    (cs.foldlM (if mx then Builtin.max2 else Builtin.min2) (.int k acc)).run P w = .ok (.int k r) w := by
  intro k acc vs
  induction vs generalizing acc with
  | nil => intro cs hl _ r hr; simp [mm] at hr; subst hr; have := List.eq_nil_of_length_eq_zero hl; subst this; simp
  | cons v vs ih =>
    intro cs hl h r hr
    cases cs with
    | nil => simp at hl
    | cons c cs =>
      have h0 := h 0 v c (by simp) (by simp)
      cases v with
      | p v =>
        cases v with
        | int k' n =>
          simp only [mm] at hr
          split at hr
          · rename_i hk
            subst hk
            have hp := h0.out; cases hp
            have ih' := ih _ cs (by simpa using hl) (fun i v c h1 h2 => h (i + 1) v c (by simpa using h1) (by simpa using h2)) r hr
            simp only [List.foldlM_cons, Sem.run_bind]
            cases mx with
            | true =>
              simp only [if_true, Builtin.max2, Sem.run_pure, Result.andThen_ok] at ih' ⊢
              exact ih'
            | false =>
              simp only [Bool.false_eq_true, if_false, Builtin.min2, Sem.run_pure, Result.andThen_ok] at ih' ⊢
              exact ih'
          · cases hr
        | _ => simp [mm] at hr
      | _ => simp [mm] at hr
end
end Go.Proofs.Ytnmnijgoggombaa.X
/- Equality by value: structs and arrays of numbers, bools and strings; keys of maps. -/
namespace Go.Proofs.Ytnmnijgoggombaa.X
open Go.RowKit
def leafFs (P : Program) (g : TypeId → Option (List Leaf)) : List Field → Nat → Option (List Leaf)
  | [], _ => some []
  | f :: r, off =>
    if f.name = "_" ∨ f.offset ≠ off then none
    else match g f.type with
      | some ls => if tySize P f.type = some ls.length then (leafFs P g r (off + ls.length)).map (ls ++ ·) else none
      | none => none
def leaves (P : Program) : Nat → TypeId → Option (List Leaf)
  | 0, _ => none
  | d + 1, t => match P.underlying t with
    | some .bool => some [.b]
    | some (.int _) => some [.i]
    | some .string => some [.s]
    | some (.struct fs) => if P.stoodInHeld t then none else leafFs P (leaves P d) fs.toList 0
    | some (.array n e) => match leaves P d e with
      | some ls => if tySize P e = some ls.length then some (List.replicate n ls).flatten else none
      | none => none
    | _ => none
/-- A value of some type and its cells. -/
def Formed (P : Program) (F : Frz) (t : TypeId) (x : Value) (ps : List PVal) : Prop :=
  (tyAgg P t = some true ∧ ∃ cv, x = .agg cv ∧ cv.size = ps.length ∧ ∀ (i : Nat) (p : PVal) (v : Value), ps[i]? = some p → cv[i]? = some v → PV F p v) ∨
  (tyAgg P t = some false ∧ ∃ p, ps = [p] ∧ PV F p x)
theorem cellsEq_length {ls : List Leaf} {ps qs : List PVal} {b : Bool} (h : cellsEq ls ps qs = some b) : ps.length = ls.length ∧ qs.length = ls.length := by
  induction ls generalizing ps qs b with
  | nil => cases ps <;> cases qs <;> simp [cellsEq] at h ⊢
  | cons l ls ih =>
    cases ps <;> cases qs <;> simp only [cellsEq] at h <;> try cases h
    rename_i a r c q
    cases hc : cellEq l a c with
    | none => simp [hc] at h
    | some x =>
      cases hr : cellsEq ls r q with
      | none => simp [hc, hr] at h
      | some y => have := ih hr; simp [this]
theorem cellsEq_append {ls ls' : List Leaf} {ps qs : List PVal} {b : Bool} (h : cellsEq (ls ++ ls') ps qs = some b) :
    ∃ b1 b2, cellsEq ls (ps.take ls.length) (qs.take ls.length) = some b1 ∧ cellsEq ls' (ps.drop ls.length) (qs.drop ls.length) = some b2 ∧ b = (b1 && b2) := by
  induction ls generalizing ps qs b with
  | nil => exact ⟨true, b, by simp [cellsEq], by simpa using h, by simp⟩
  | cons l ls ih =>
    cases ps <;> cases qs <;> simp only [List.cons_append, cellsEq] at h <;> try cases h
    rename_i a r c q
    cases hc : cellEq l a c with
    | none => simp [hc] at h
    | some x =>
      cases hr : cellsEq (ls ++ ls') r q with
      | none => simp [hc, hr] at h
      | some y =>
        simp [hc, hr] at h
        obtain ⟨b1, b2, h1, h2, h3⟩ := ih hr
        refine ⟨x && b1, b2, by simp [cellsEq, hc, h1], by simpa using h2, ?_⟩
        rw [← h, h3, Bool.and_assoc]
section
variable {P : Program} {F : Frz} {w : World}
theorem formed_part {e : TypeId} {n off : Nat} {ag : Bool} (hag : tyAgg P e = some ag) (hn : tySize P e = some n) {cv : Array Value} {ps : List PVal}
    (hs : cv.size = ps.length) (h : ∀ (i : Nat) (p : PVal) (v : Value), ps[i]? = some p → cv[i]? = some v → PV F p v) (hfit : off + n ≤ ps.length) (h1 : ag = false → n = 1) :
    ∃ x, (part e cv off).run P w = .ok x w ∧ Formed P F e x ((ps.drop off).take n) := by
  rw [run_part hag hn cv off (fun hf => by have := h1 hf; omega)]
  refine ⟨_, rfl, ?_⟩
  cases ag with
  | true =>
    refine .inl ⟨hag, _, rfl, by simp only [Array.size_extract, List.length_take, List.length_drop]; omega, ?_⟩
    intro i p v hp hv
    rw [List.getElem?_take] at hp
    split at hp
    · rw [Array.getElem?_extract] at hv
      split at hv
      · exact h (off + i) p v (by simpa using hp) hv
      · cases hv
    · cases hp
  | false =>
    have hn1 := h1 rfl
    subst hn1
    have hlt : off < ps.length := by omega
    refine .inr ⟨hag, ps[off], ?_, ?_⟩
    · rw [List.drop_eq_getElem_cons hlt]; rfl
    · refine h off _ _ (List.getElem?_eq_getElem hlt) ?_
      simp [hs, hlt]
theorem run_info {t : TypeId} {n : Nat} (h : tySize P t = some n) : ∃ i, P.info? t = some i ∧ P.cellsOf t = n := by
  unfold tySize at h
  cases hi : P.info? t with
  | none => simp [hi] at h
  | some i => simp [hi] at h; exact ⟨i, rfl, by simp [Program.cellsOf, hi, h]⟩
theorem leaves_agg {d : Nat} {t : TypeId} {ls : List Leaf} (h : leaves P d t = some ls) : ∃ ag, tyAgg P t = some ag ∧ (ag = false → ls.length = 1) := by
  cases d with
  | zero => simp [leaves] at h
  | succ d =>
    simp only [leaves] at h
    cases hu : P.underlying t with
    | none => simp [hu] at h
    | some dd =>
      refine ⟨aggD dd, by simp [tyAgg, hu], fun hf => ?_⟩
      cases dd <;> simp [hu] at h <;> first | (subst h; rfl) | (simp [aggD] at hf)
theorem equalIn_leaves : ∀ (d e : Nat) (t : TypeId) (ls : List Leaf), leaves P d t = some ls → ∀ (x y : Value) (ps qs : List PVal) (b : Bool),
    Formed P F t x ps → Formed P F t y qs → cellsEq ls ps qs = some b → (Op.equalIn (d + e) t x y).run P w = .ok b w := by
  intro d
  induction d with
  | zero => intro e t ls h; simp [leaves] at h
  | succ d ih =>
    intro e t ls h x y ps qs b hx hy hb
    rw [show d + 1 + e = d + e + 1 by omega]
    simp only [leaves] at h
    cases hu : P.underlying t with
    | none => simp [hu] at h
    | some dd =>
      have hagg : tyAgg P t = some (aggD dd) := by simp [tyAgg, hu]
      have leaf : aggD dd = false → ∀ l, ls = [l] → (∀ p q u v, cellEq l p q = some b → PV F p u → PV F q v → (Op.equalIn (d + e + 1) t u v).run P w = .ok b w) →
          (Op.equalIn (d + e + 1) t x y).run P w = .ok b w := by
        intro ha l hl hcell
        subst hl
        rcases hx with ⟨h1, _⟩ | ⟨_, p, rfl, hp⟩
        · rw [hagg, ha] at h1; cases h1
        rcases hy with ⟨h1, _⟩ | ⟨_, q, rfl, hq⟩
        · rw [hagg, ha] at h1; cases h1
        simp only [cellsEq] at hb
        cases hc : cellEq l p q with
        | none => simp [hc] at hb
        | some z => simp [hc] at hb; subst hb; exact hcell p q x y hc hp hq
      have agg : aggD dd = true → ∃ xs ys, x = .agg xs ∧ y = .agg ys ∧ xs.size = ps.length ∧ ys.size = qs.length ∧
          (∀ (i : Nat) (p : PVal) (v : Value), ps[i]? = some p → xs[i]? = some v → PV F p v) ∧ (∀ (i : Nat) (p : PVal) (v : Value), qs[i]? = some p → ys[i]? = some v → PV F p v) := by
        intro ha
        have out : ∀ (x : Value) (ps : List PVal), Formed P F t x ps → ∃ xs, x = .agg xs ∧ xs.size = ps.length ∧ ∀ (i : Nat) (p : PVal) (v : Value), ps[i]? = some p → xs[i]? = some v → PV F p v := by
          intro x ps hx
          rcases hx with ⟨_, h⟩ | ⟨h1, _⟩
          · exact h
          · rw [hagg, ha] at h1; cases h1
        obtain ⟨xs, h1, h2, h3⟩ := out x ps hx
        obtain ⟨ys, g1, g2, g3⟩ := out y qs hy
        exact ⟨xs, ys, h1, g1, h2, g2, h3, g3⟩
      cases dd <;> simp only [hu] at h <;> try (cases h; done)
      case bool =>
        cases h
        refine leaf rfl .b rfl fun p q u v hc hp hq => ?_
        cases p <;> cases q <;> simp [cellEq] at hc
        cases hp; cases hq
        simp [Op.equalIn, underlying, hu, hc]
      case int k0 =>
        cases h
        refine leaf rfl .i rfl fun p q u v hc hp hq => ?_
        cases p <;> cases q <;> simp [cellEq] at hc
        cases hp; cases hq
        simp [Op.equalIn, underlying, hu, hc]
      case string =>
        cases h
        refine leaf rfl .s rfl fun p q u v hc hp hq => ?_
        cases p <;> cases q <;> simp [cellEq] at hc
        cases hp; cases hq
        rw [run_equalIn_string w (d + e) t _ _ hu]
        simp [hc]
      case struct fs =>
        obtain ⟨xs, ys, rfl, rfl, sx, sy, rx, ry⟩ := agg rfl
        split at h
        · cases h
        · rename_i hst
          rw [run_equalIn_struct w (d + e) t xs ys (by simp [Program.fieldsOf, hu]) (by simpa using hst)]
          have hfs : P.fieldsOf t = fs := by simp [Program.fieldsOf, hu]
          rw [hfs]
          have key : ∀ (l : List Field) (off : Nat) (ls : List Leaf) (b : Bool), leafFs P (leaves P d) l off = some ls → off + ls.length ≤ ps.length → off + ls.length ≤ qs.length →
              cellsEq ls ((ps.drop off).take ls.length) ((qs.drop off).take ls.length) = some b → (Op.eqFields (d + e) xs ys l).run P w = .ok b w := by
            intro l
            induction l with
            | nil =>
              intro off ls b hl _ _ hc
              simp [leafFs] at hl
              subst hl
              simp [cellsEq] at hc
              subst hc
              simp [Op.eqFields]
            | cons f l ihl =>
              intro off ls b hl hp hq hc
              simp only [leafFs] at hl
              split at hl
              · cases hl
              · rename_i hn
                have hname : f.name ≠ "_" := fun e => hn (.inl e)
                have hoff : f.offset = off := Classical.byContradiction fun e => hn (.inr e)
                cases hg : leaves P d f.type with
                | none => simp [hg] at hl
                | some ls1 =>
                  simp only [hg] at hl
                  split at hl
                  · rename_i hsz
                    simp only [Option.map_eq_some_iff] at hl
                    obtain ⟨ls2, hl2, rfl⟩ := hl
                    simp only [List.length_append] at hp hq
                    obtain ⟨b1, b2, c1, c2, rfl⟩ := cellsEq_append hc
                    obtain ⟨ag, hag, h1⟩ := leaves_agg hg
                    obtain ⟨a, pa, fa⟩ := formed_part (P := P) (F := F) (w := w) hag hsz sx rx (off := off) (by omega) h1
                    obtain ⟨c, pc, fc⟩ := formed_part (P := P) (F := F) (w := w) hag hsz sy ry (off := off) (by omega) h1
                    have e1 : ∀ z : List PVal, ((z.drop off).take (ls1 ++ ls2).length).take ls1.length = (z.drop off).take ls1.length := fun z => by
                      rw [List.take_take]; congr 1; simp
                    have e2 : ∀ z : List PVal, ((z.drop off).take (ls1 ++ ls2).length).drop ls1.length = (z.drop (off + ls1.length)).take ls2.length := fun z => by
                      rw [List.drop_take, List.drop_drop]; congr 1; simp
                    rw [e1, e1] at c1
                    rw [e2, e2] at c2
                    have hr := ih e f.type ls1 hg a c _ _ b1 fa fc c1
                    have hrest := ihl (off + ls1.length) ls2 b2 hl2 (by omega) (by omega) c2
                    simp only [Op.eqFields, hname, ne_eq, not_false_eq_true, if_true, Sem.run_bind, hoff, pa, pc, hr, Result.andThen_ok]
                    cases b1
                    · simp
                    · simpa using hrest
                  · cases hl
          have hl := cellsEq_length hb
          refine key fs.toList 0 ls b h (by omega) (by omega) ?_
          simp only [List.drop_zero]
          rw [List.take_of_length_le (by omega), List.take_of_length_le (by omega)]
          exact hb
      case array n el =>
        obtain ⟨xs, ys, rfl, rfl, sx, sy, rx, ry⟩ := agg rfl
        cases hg : leaves P d el with
        | none => simp [hg] at h
        | some ls1 =>
          simp only [hg] at h
          split at h
          · rename_i hsz
            cases h
            obtain ⟨i, hi, hco⟩ := run_info hsz
            rw [run_equalIn_array w (d + e) xs ys hu hi, hco]
            obtain ⟨ag, hag, h1⟩ := leaves_agg hg
            have key : ∀ (k s : Nat) (b : Bool), (s + k) * ls1.length ≤ ps.length → (s + k) * ls1.length ≤ qs.length →
                cellsEq (List.replicate k ls1).flatten ((ps.drop (s * ls1.length)).take (k * ls1.length)) ((qs.drop (s * ls1.length)).take (k * ls1.length)) = some b →
                (Op.eqItems (d + e) el ls1.length xs ys (List.range' s k)).run P w = .ok b w := by
              intro k
              induction k with
              | zero => intro s b _ _ hc; simp [cellsEq] at hc; subst hc; simp [Op.eqItems]
              | succ k ihk =>
                intro s b hp hq hc
                have em : (s + (k + 1)) * ls1.length = s * ls1.length + ls1.length + k * ls1.length := by rw [Nat.add_mul, Nat.add_mul]; omega
                have em2 : (s + 1 + k) * ls1.length = s * ls1.length + ls1.length + k * ls1.length := by rw [Nat.add_mul, Nat.add_mul]; omega
                rw [List.replicate_succ, List.flatten_cons] at hc
                obtain ⟨b1, b2, c1, c2, rfl⟩ := cellsEq_append hc
                obtain ⟨a, pa, fa⟩ := formed_part (P := P) (F := F) (w := w) hag hsz sx rx (off := s * ls1.length) (by omega) h1
                obtain ⟨c, pc, fc⟩ := formed_part (P := P) (F := F) (w := w) hag hsz sy ry (off := s * ls1.length) (by omega) h1
                have e1 : ∀ z : List PVal, ((z.drop (s * ls1.length)).take ((k + 1) * ls1.length)).take ls1.length = (z.drop (s * ls1.length)).take ls1.length := fun z => by
                  rw [List.take_take]; congr 1; rw [Nat.add_mul]; omega
                have e2 : ∀ z : List PVal, ((z.drop (s * ls1.length)).take ((k + 1) * ls1.length)).drop ls1.length = (z.drop ((s + 1) * ls1.length)).take (k * ls1.length) := fun z => by
                  rw [List.drop_take, List.drop_drop]
                  congr 1
                  · rw [Nat.add_mul]; omega
                  · rw [Nat.add_mul]; simp
                rw [e1, e1] at c1
                rw [e2, e2] at c2
                have hr := ih e el ls1 hg a c _ _ b1 fa fc c1
                have hrest := ihk (s + 1) b2 (by omega) (by omega) c2
                simp only [List.range'_succ, Op.eqItems, Sem.run_bind, pa, pc, hr, Result.andThen_ok]
                cases b1
                · simp
                · simpa using hrest
            have hl := cellsEq_length hb
            simp only [List.length_flatten, List.map_replicate, List.sum_replicate_nat] at hl
            rw [List.range_eq_range']
            refine key n 0 b (by rw [Nat.zero_add]; omega) (by rw [Nat.zero_add]; omega) ?_
            simp only [Nat.zero_mul, List.drop_zero]
            rw [List.take_of_length_le (by omega), List.take_of_length_le (by omega)]
            exact hb
          · cases h
end
end Go.Proofs.Ytnmnijgoggombaa.X
/- The operations are sound, part C: equality, slices, functions, values put together. -/
namespace Go.Proofs.Ytnmnijgoggombaa.X
open Go.RowKit
/-- The types for which a kind of equality stands. -/
def eqD (P : Program) (k : EqK) (t : TypeId) : Bool :=
  match k, P.underlying t with
  | .b, some .bool => true
  | .sl, some (.slice _) => true
  | .ptr, some (.pointer _) => true
  | .fn, some (.func _ _ _) => true
  | .agg ls, some d => aggD d && (leaves P 10000 t == some ls) && !(P.eqGuardType P.depth t)
  | _, _ => false
theorem equal_succ (t : TypeId) (c d : Value) : ∃ n, Op.equal t c d = Op.equalIn (n + 1) t c d := ⟨9999, rfl⟩
theorem run_equal_sl {P : Program} {w : World} {t e : TypeId} (hu : P.underlying t = some (.slice e)) (a b : Option Addr) (n k n' k' : Nat) (h : a = none ∨ b = none) :
    (Op.equal t (.slice a n k) (.slice b n' k')).run P w = .ok (a.isNone && b.isNone) w := by
  obtain ⟨q, hq⟩ := equal_succ t (.slice a n k) (.slice b n' k')
  rw [hq]
  cases a <;> cases b <;> simp [Op.equalIn, run_underlying hu] at h ⊢
theorem run_equal_ptr {P : Program} {w : World} {t e : TypeId} (hu : P.underlying t = some (.pointer e)) (a b : Option Addr) (h : b = none) :
    (Op.equal t (.pointer a) (.pointer b)).run P w = .ok (a.isNone && b.isNone) w := by
  obtain ⟨q, hq⟩ := equal_succ t (.pointer a) (.pointer b)
  rw [hq]
  subst h
  cases a <;> simp [Op.equalIn, run_underlying hu]
theorem run_equal_bool {P : Program} {w : World} {t : TypeId} (hu : P.underlying t = some .bool) (a b : Bool) :
    (Op.equal t (.bool a) (.bool b)).run P w = .ok (a == b) w := by
  obtain ⟨q, hq⟩ := equal_succ t (.bool a) (.bool b)
  rw [hq]
  simp [Op.equalIn, run_underlying hu]
theorem run_equal_fn {P : Program} {w : World} {t : TypeId} {ps rs : Array TypeId} {v : Bool} (hu : P.underlying t = some (.func ps rs v)) :
    (Op.equal t .nilFunc .nilFunc).run P w = .ok true w ∧ ∀ f a c, (Op.equal t (.func f a c) .nilFunc).run P w = .ok false w := by
  obtain ⟨q, hq⟩ := equal_succ t .nilFunc .nilFunc
  refine ⟨by rw [hq]; simp [Op.equalIn, run_underlying hu], fun f a c => ?_⟩
  obtain ⟨q, hq⟩ := equal_succ t (.func f a c) .nilFunc
  rw [hq]; simp [Op.equalIn, run_underlying hu]
section
variable {P : Program} {C : Ctx} {G : Gh} {w : World} {m : Mem}
theorem run_eqNeq {t : TypeId} {c d : Value} {b : Bool} (hint : ∀ k a k' b, ¬ (c = .int k a ∧ d = .int k' b)) (hstr : ∀ a b, ¬ (c = .string a ∧ d = .string b))
    (hf : ∀ k a, c ≠ .float k a) (hcx : ∀ k a b, c ≠ .complex k a b)
    (h : (Op.equal t c d).run P w = .ok b w) (neg : Bool) :
    (binOp (if neg then .neq else .eql) t c d).run P w = .ok (.bool (if neg then !b else b)) w := by
  have e1 : (binOp .eql t c d).run P w = .ok (.bool b) w := by
    unfold binOp
    split <;> first
      | exact absurd ⟨rfl, rfl⟩ (hint _ _ _ _)
      | exact absurd ⟨rfl, rfl⟩ (hstr _ _)
      | exact absurd rfl (hf _ _)
      | exact absurd rfl (hcx _ _ _)
      | contradiction
      | (simp only [Sem.run_bind, h, Result.andThen_ok, Sem.run_pure]; done)
      | (exfalso; simp_all; done)
  have e2 : (binOp .neq t c d).run P w = .ok (.bool !b) w := by
    unfold binOp
    split <;> first
      | exact absurd ⟨rfl, rfl⟩ (hint _ _ _ _)
      | exact absurd ⟨rfl, rfl⟩ (hstr _ _)
      | exact absurd rfl (hf _ _)
      | exact absurd rfl (hcx _ _ _)
      | contradiction
      | (simp only [Sem.run_bind, h, Result.andThen_ok, Sem.run_pure]; done)
      | (exfalso; simp_all; done)
  cases neg
  · simpa using e1
  · simpa using e2
theorem oEq_ok {k : EqK} {neg : Bool} {t : TypeId} {ox oy : Operand} (hk : eqD P k t = true) (hm : MR G w m) (hg : Good C G w) {x y : AVal} {c d : Value}
    (hx : VR G x c) (hy : VR G y d) {b : Bool} (h : eqVal k x y = some b) :
    OutOK C G w ((do eqGuard (if neg then .neq else .eql) t ox oy c d; binOp (if neg then .neq else .eql) t c d : Sem Value).run P w) (.p (.bool (if neg then !b else b)), m, .no) := by
  have fin : (eqGuard (if neg then .neq else .eql) t ox oy c d).run P w = .ok () w → (∀ k a k' b, ¬ (c = .int k a ∧ d = .int k' b)) → (∀ a b, ¬ (c = .string a ∧ d = .string b)) →
      (∀ k a, c ≠ .float k a) → (∀ k a b, c ≠ .complex k a b) → (Op.equal t c d).run P w = .ok b w →
      OutOK C G w ((do eqGuard (if neg then .neq else .eql) t ox oy c d; binOp (if neg then .neq else .eql) t c d : Sem Value).run P w) (.p (.bool (if neg then !b else b)), m, .no) := by
    intro h1 h2 h3 h4 h5 h6
    simp only [Sem.run_bind, h1, Result.andThen_ok, run_eqNeq h2 h3 h4 h5 h6]
    exact OutOK.pure hm hg (.p (.bool _))
  have guard : (∀ a, c ≠ .agg a) → (c ≠ .nilIface) → (eqGuard (if neg then .neq else .eql) t ox oy c d).run P w = .ok () w := by
    intro h1 h2
    have : ∀ op, (eqGuard op t ox oy c d).run P w = .ok () w := by
      intro op
      unfold eqGuard
      cases c <;> first
        | exact absurd rfl (h1 _)
        | exact absurd rfl h2
        | (cases op <;> simp)
    exact this _
  unfold eqD at hk
  cases hu : P.underlying t with
  | none => simp [hu] at hk
  | some dd =>
    have hu' : (underlying t).run P w = .ok dd w := by simp [underlying, hu]
    unfold eqVal at h
    split at h
    · cases h
      have hp := hx.out; cases hp
      have hp := hy.out; cases hp
      cases dd <;> simp [hu] at hk
      exact fin (guard (by simp) (by simp)) (by simp) (by simp) (by simp) (by simp) (run_equal_bool hu _ _)
    · simp only [hu, Bool.and_eq_true, Bool.not_eq_true'] at hk
      obtain ⟨⟨hk1, hk2⟩, hk3⟩ := hk
      have hp := hx.out
      cases hp with
      | agg _ cv hs hc hpv =>
        have hq := hy.out
        cases hq with
        | agg _ dv hs' hc' hpv' =>
          refine fin ?_ (by simp) (by simp) (by simp) (by simp) ?_
          · exact run_eqGuard_agg w _ t ox oy cv dv hk3
          · have ht : tyAgg P t = some true := by simp [tyAgg, hu, hk1]
            exact equalIn_leaves (P := P) (F := G.F) (w := w) 10000 0 t _ (by simpa using hk2) (.agg cv) (.agg dv) _ _ b
              (.inl ⟨ht, cv, rfl, hs, hpv⟩) (.inl ⟨ht, dv, rfl, hs', hpv'⟩) h
    all_goals first
      | (cases h; done)
      | (cases h
         have hp := hy.out; cases hp
         cases hx with
         | rsl _ _ _ _ _ _ =>
           cases dd <;> simp [hu] at hk
           exact fin (guard (by simp) (by simp)) (by simp) (by simp) (by simp) (by simp) (by rw [run_equal_sl hu _ _ _ _ _ _ (.inr rfl)]; rfl))
      | (cases h
         have hp := hy.out; cases hp
         cases hx with
         | rpt _ _ _ _ _ =>
           cases dd <;> simp [hu] at hk
           exact fin (guard (by simp) (by simp)) (by simp) (by simp) (by simp) (by simp) (by rw [run_equal_ptr hu _ _ rfl]; rfl))
      | (cases h
         have hp := hx.out
         have hq := hy.out
         cases dd <;> simp [hu] at hk
         cases hp <;> cases hq <;> exact fin (guard (by simp) (by simp)) (by simp) (by simp) (by simp) (by simp)
           (by first
             | (rw [run_equal_sl hu _ _ _ _ _ _ (by simp)]; rfl)
             | (rw [run_equal_ptr hu _ _ rfl]; rfl)
             | exact (run_equal_fn hu).1
             | exact (run_equal_fn hu).2 _ _ _))
end
end Go.Proofs.Ytnmnijgoggombaa.X
/- The operations are sound, part D: new memory. -/
namespace Go.Proofs.Ytnmnijgoggombaa.X
open Go.RowKit
def CellsR (G : Gh) (cs : List AVal) (cv : Array Value) : Prop :=
  cv.size = cs.length ∧ ∀ (i : Nat) (a : AVal) (v : Value), cs[i]? = some a → cv[i]? = some v → VR G a v
theorem VR.cells {G : Gh} {v : AVal} {c : Value} (h : VR G v c) : CellsR G v.cells c.cells := by
  have one : ∀ (v : AVal) (c : Value), VR G v c → CellsR G [v] #[c] := by
    intro v c h
    refine ⟨rfl, ?_⟩
    intro i a u h1 h2
    cases i with
    | zero => simp at h1 h2; subst h1 h2; exact h
    | succ i => simp at h1
  cases h with
  | p hp =>
    cases hp with
    | agg cs cv hs hc h =>
      refine ⟨by simp only [AVal.cells, PVal.cells, Value.cells, List.length_map]; exact hs, ?_⟩
      intro i a u h1 h2
      simp only [AVal.cells, PVal.cells, List.getElem?_map, Option.map_eq_some_iff] at h1
      obtain ⟨p, hp, rfl⟩ := h1
      exact .p (h i p u hp h2)
    | int k n => exact one _ _ (.p (.int k n))
    | bool b => exact one _ _ (.p (.bool b))
    | str s => exact one _ _ (.p (.str s))
    | nilptr => exact one _ _ (.p .nilptr)
    | nilslice => exact one _ _ (.p .nilslice)
    | nilmap => exact one _ _ (.p .nilmap)
    | nilfn => exact one _ _ (.p .nilfn)
    | yl l => exact one _ _ (.p (.yl l))
    | fn f fst caps fv cv hs0 hs h0 h => exact one _ _ (.p (.fn f fst caps fv cv hs0 hs h0 h))
    | tup cs cv hs h => exact one _ _ (.p (.tup cs cv hs h))
    | sl rows b o cap z f hcap hz hc h => exact one _ _ (.p (.sl rows b o cap z f hcap hz hc h))
    | sl0 ad => exact one _ _ (.p (.sl0 ad))
    | pt rows i0 j0 b o z f hz hc h => exact one _ _ (.p (.pt rows i0 j0 b o z f hz hc h))
    | mp es r ev hr hs hk hv => exact one _ _ (.p (.mp es r ev hr hs hk hv))
  | agg cs cv hs hc h => exact ⟨hs, h⟩
  | tup cs cv hs h => exact one _ _ (.tup cs cv hs h)
  | rsl pl off len ad k h => exact one _ _ (.rsl pl off len ad k h)
  | rpt pl i j ad h => exact one _ _ (.rpt pl i j ad h)
  | rmp pl r h => exact one _ _ (.rmp pl r h)
  | rit pl mp mb ad h h' => exact one _ _ (.rit pl mp mb ad h h')
  | unk c h =>
    have : c.cells = #[c] := by cases c <;> first | rfl | (simp [Value.oneCell'] at h)
    rw [this]
    exact one _ _ (.unk c h)
theorem foldl_set_get (vs : List Value) : ∀ (k off : Nat) (cells : Array Value) (i : Nat), off + k + vs.length ≤ cells.size →
    ((vs.zipIdx k).foldl (fun cs (c, j) => cs.setIfInBounds (off + j) c) cells).size = cells.size ∧
    ((vs.zipIdx k).foldl (fun cs (c, j) => cs.setIfInBounds (off + j) c) cells)[i]? = if off + k ≤ i ∧ i < off + k + vs.length then vs[i - (off + k)]? else cells[i]? := by
  induction vs with
  | nil =>
    intro k off cells i _
    refine ⟨rfl, ?_⟩
    simp only [List.zipIdx_nil, List.foldl_nil, List.length_nil]
    rw [if_neg (by omega)]
  | cons v vs ih =>
    intro k off cells i h
    simp only [List.length_cons] at h
    simp only [List.zipIdx_cons, List.foldl_cons, List.length_cons]
    obtain ⟨h1, h2⟩ := ih (k + 1) off (cells.setIfInBounds (off + k) v) i (by rw [Array.size_setIfInBounds]; omega)
    refine ⟨by rw [h1]; simp, ?_⟩
    rw [h2]
    by_cases hi : i = off + k
    · subst hi
      have hlt : off + k < cells.size := by omega
      rw [if_neg (by omega), if_pos (by omega)]
      simp [hlt]
    · by_cases hc : off + k ≤ i ∧ i < off + k + (vs.length + 1)
      · rw [if_pos (by omega), if_pos hc]
        rw [show i - (off + k) = (i - (off + (k + 1))) + 1 by omega]
        simp
      · rw [if_neg (by omega), if_neg hc]
        rw [Array.getElem?_setIfInBounds_ne (by omega)]
/-- One part put in. -/
theorem CellsR.put {G : Gh} {cs vs : List AVal} {cv uv : Array Value} (h : CellsR G cs cv) (hv : CellsR G vs uv) {off : Nat} (hfit : off + vs.length ≤ cs.length) :
    CellsR G (cs.take off ++ vs ++ cs.drop (off + vs.length)) (uv.zipIdx.foldl (fun cs (c, j) => cs.setIfInBounds (off + j) c) cv) := by
  have e : uv.zipIdx.foldl (fun (cs : Array Value) (x : Value × Nat) => cs.setIfInBounds (off + x.2) x.1) cv = (uv.toList.zipIdx 0).foldl (fun cs (c, j) => cs.setIfInBounds (off + j) c) cv := by
    rw [← Array.foldl_toList, Array.toList_zipIdx]
  have hl : uv.toList.length = vs.length := by simpa using hv.1
  have key := fun i => foldl_set_get uv.toList 0 off cv i (by rw [hl, h.1]; omega)
  refine ⟨?_, ?_⟩
  · show (uv.zipIdx.foldl (fun (cs : Array Value) (x : Value × Nat) => cs.setIfInBounds (off + x.2) x.1) cv).size = _
    rw [e, (key 0).1, h.1]
    simp only [List.length_append, List.length_take, List.length_drop]
    omega
  · intro i a v h1 h2
    change (uv.zipIdx.foldl (fun (cs : Array Value) (x : Value × Nat) => cs.setIfInBounds (off + x.2) x.1) cv)[i]? = some v at h2
    rw [e, (key i).2] at h2
    simp only [Nat.add_zero, hl] at h2
    rw [List.append_assoc, List.getElem?_append] at h1
    simp only [List.length_take] at h1
    split at h1
    · rename_i hi
      rw [if_neg (by omega)] at h2
      rw [List.getElem?_take] at h1
      split at h1
      · exact h.2 i a v h1 h2
      · cases h1
    · rename_i hi
      rw [List.getElem?_append] at h1
      have hmin : min off cs.length = off := by omega
      rw [hmin] at h1 hi
      split at h1
      · rw [if_pos (by omega)] at h2
        exact hv.2 (i - off) a v h1 (by simpa using h2)
      · rw [if_neg (by omega)] at h2
        rw [List.getElem?_drop, show off + vs.length + (i - off - vs.length) = i by omega] at h1
        exact h.2 i a v h1 h2
/-- Parts put in, one after another; 'ps' are the model's own parts. -/
theorem fill_ok' {G : Gh} {place : Nat → Option (Nat × Nat)} : ∀ (ps : List (Nat × Value)) (avs : List (Nat × Nat × AVal)), ps.length = avs.length →
    (∀ (k i : Nat) (c : Value) (off n : Nat) (v : AVal), ps[k]? = some (i, c) → avs[k]? = some (off, n, v) → place i = some (off, n) ∧ VR G v c) →
    ∀ (cs : List AVal) (cv : Array Value) (cs' : List AVal), CellsR G cs cv → fillCells cs avs = some cs' → ∃ cv', Instr.fill place cv ps = some cv' ∧ CellsR G cs' cv' := by
  intro ps
  induction ps with
  | nil =>
    intro avs hl _ cs cv cs' h hf
    have := List.eq_nil_of_length_eq_zero (hl.symm)
    subst this
    simp [fillCells] at hf
    subst hf
    exact ⟨cv, rfl, h⟩
  | cons p ps ih =>
    intro avs hl hp cs cv cs' h hf
    cases avs with
    | nil => simp at hl
    | cons a avs =>
      obtain ⟨i, c⟩ := p
      obtain ⟨off, n, v⟩ := a
      obtain ⟨h1, h2⟩ := hp 0 i c off n v (by simp) (by simp)
      simp only [fillCells] at hf
      split at hf
      · rename_i hc
        obtain ⟨hc1, hc2⟩ := hc
        have hvc := h2.cells
        have hput := h.put hvc (off := off) (by omega)
        obtain ⟨cv', hcv', hr⟩ := ih avs (by simpa using hl) (fun k i c off n v a b => hp (k + 1) i c off n v (by simpa using a) (by simpa using b)) _ _ cs' hput (by rw [hc1]; exact hf)
        refine ⟨cv', ?_, hr⟩
        have g1 : ¬ (c.cells.size ≠ n) := by rw [hvc.1, hc1]; simp
        have g2 : ¬ (off + c.cells.size > cv.size) := by rw [hvc.1, hc1, h.1]; omega
        simp only [Instr.fill, h1, g1, g2, decide_false, Bool.or_self, Bool.false_eq_true, if_false]
        exact hcv'
      · cases hf
/-- A literal of the program's text and the pure value that stands for it. -/
def scIs : PVal → Value → Bool
  | .int k n, .int k' n' => k == k' && n == n'
  | .bool b, .bool b' => b == b'
  | .str s, .string s' => decide (s = s')
  | .nilptr, .pointer none => true
  | .nilslice, .slice none 0 0 => true
  | .nilmap, .map none => true
  | .nilfn, .nilFunc => true
  | .fn f [] [], .func (.func f') a c => f == f' && a.isEmpty && c.isEmpty
  | _, _ => false
def cellsIs (ps : List PVal) (cv : Array Value) : Bool := ps.length == cv.size && (ps.zip cv.toList).all fun x => scIs x.1 x.2
def valIs : PVal → Value → Bool
  | .agg cs, .agg cv => cellsIs cs cv
  | x, v => scIs x v
theorem scIs_ok {F : Frz} {x : PVal} {v : Value} (h : scIs x v = true) : PV F x v ∧ x.scalar = true := by
  unfold scIs at h
  split at h
  · simp at h; obtain ⟨rfl, rfl⟩ := h; exact ⟨.int _ _, rfl⟩
  · simp at h; subst h; exact ⟨.bool _, rfl⟩
  · have := of_decide_eq_true h; subst this; exact ⟨.str _, rfl⟩
  · exact ⟨.nilptr, rfl⟩
  · exact ⟨.nilslice, rfl⟩
  · exact ⟨.nilmap, rfl⟩
  · exact ⟨.nilfn, rfl⟩
  · simp at h
    obtain ⟨⟨rfl, rfl⟩, rfl⟩ := h
    exact ⟨.fn _ _ _ _ _ rfl rfl (fun i p v h => by simp at h) (fun i p v h => by simp at h), rfl⟩
  · cases h
theorem cellsIs_ok {F : Frz} {ps : List PVal} {cv : Array Value} (h : cellsIs ps cv = true) :
    cv.size = ps.length ∧ ∀ (i : Nat) (p : PVal) (v : Value), ps[i]? = some p → cv[i]? = some v → PV F p v ∧ p.scalar = true := by
  simp only [cellsIs, Bool.and_eq_true, beq_iff_eq] at h
  refine ⟨h.1.symm, fun i p v h1 h2 => ?_⟩
  have := List.all_eq_true.1 h.2 (p, v) ?_
  · exact scIs_ok this
  · refine List.mem_iff_getElem?.2 ⟨i, ?_⟩
    rw [List.getElem?_zip_eq_some]
    exact ⟨h1, by simpa using h2⟩
theorem valIs_ok {F : Frz} {x : PVal} {v : Value} (h : valIs x v = true) : PV F x v := by
  unfold valIs at h
  split at h
  · obtain ⟨h1, h2⟩ := cellsIs_ok (F := F) h
    refine .agg _ _ h1 (fun p hp => ?_) fun i p v a b => (h2 i p v a b).1
    obtain ⟨i, hi⟩ := List.mem_iff_getElem?.1 hp
    have hlt := (List.getElem?_eq_some_iff.1 hi).1
    exact (h2 i p _ hi (Array.getElem?_eq_getElem (by omega))).2
  · exact (scIs_ok h).1
theorem cellsIs_cellsR {G : Gh} {ps : List PVal} {cv : Array Value} (h : cellsIs ps cv = true) : CellsR G (ps.map .p) cv := by
  obtain ⟨h1, h2⟩ := cellsIs_ok (F := G.F) h
  refine ⟨by simpa using h1, fun i a v ha hv => ?_⟩
  simp only [List.getElem?_map, Option.map_eq_some_iff] at ha
  obtain ⟨p, hp, rfl⟩ := ha
  exact .p (h2 i p v hp hv).1
def tyZero (P : Program) (t : TypeId) (ps : List PVal) : Bool :=
  match (P.info? t).bind (·.zero) with
  | some v => cellsIs ps v.cells
  | none => false
theorem run_tyZero {P : Program} {w : World} {t : TypeId} {ps : List PVal} (h : tyZero P t ps = true) : ∃ z, (zeroValue t).run P w = .ok z w ∧ cellsIs ps z.cells = true ∧ (P.info? t).bind (·.zero) = some z := by
  unfold tyZero at h
  cases hz : (P.info? t).bind (·.zero) with
  | none => simp [hz] at h
  | some z =>
    simp only [hz] at h
    cases hi : P.info? t with
    | none => simp [hi] at hz
    | some i =>
      simp only [hi, Option.bind_some] at hz
      exact ⟨z, by simp [zeroValue, typeInfo, hi, hz], h, rfl⟩
section
variable {P : Program} {C : Ctx} {G : Gh} {w : World} {m : Mem}
/-- Where the parts of a value lie. -/
def placesOf (P : Program) (t : TypeId) : Option (Nat → Option (Nat × Nat)) :=
  match P.underlying t with
  | some (.struct fields) => (fields.toList.mapM fun f => (P.info? f.type).map fun i => (f.offset, i.size)).map fun places => fun i => places.toArray[i]?
  | some (.array _ e) => (P.info? e).map fun ie => fun i => some (i * ie.size, ie.size)
  | _ => none
def partOK (P : Program) (t : TypeId) (i off n : Nat) : Bool :=
  match placesOf P t with
  | some pl => pl i == some (off, n)
  | none => false
theorem run_build_at {t : TypeId} {z : Value} (hz : (P.info? t).bind (·.zero) = some z) {place : Nat → Option (Nat × Nat)} (hp : placesOf P t = some place) {ps : List (Nat × Value)} {cv : Array Value}
    (h : Instr.fill place z.cells ps = some cv) : (Instr.build t ps.toArray).run P w = .ok (.agg cv) w := by
  refine run_build w t _ cv ?_
  unfold Program.built placesOf at *
  cases hi : P.info? t with
  | none => simp [hi] at hz
  | some it =>
    simp only [hi, Option.bind_some] at hz
    cases hu : P.underlying t with
    | none => simp [hu] at hp
    | some d =>
      cases d <;> simp only [hu] at hp <;> try (cases hp; done)
      case struct fields =>
        simp only [Option.map_eq_some_iff] at hp
        obtain ⟨places, hpl, rfl⟩ := hp
        simp only [hz, hpl]
        exact h
      case array n e =>
        simp only [Option.map_eq_some_iff] at hp
        obtain ⟨ie, hie, rfl⟩ := hp
        simp only [hz, hie]
        exact h
theorem oBuild_ok {t : TypeId} {zero : List PVal} (hz : tyZero P t zero = true) (hpl : (placesOf P t).isSome = true) (hm : MR G w m) (hg : Good C G w) {ps : List (Nat × Value)} {avs : List (Nat × Nat × AVal)}
    (hl : ps.length = avs.length) (hp : ∀ (k i : Nat) (c : Value) (off n : Nat) (v : AVal), ps[k]? = some (i, c) → avs[k]? = some (off, n, v) → partOK P t i off n = true ∧ VR G v c)
    {out : Out} (h : oBuild zero m avs = some out) : OutOK C G w ((Instr.build t ps.toArray).run P w) out := by
  obtain ⟨z, hz1, hz2, hz3⟩ := run_tyZero (w := w) hz
  unfold oBuild at h
  cases hf : fillCells (zero.map .p) avs with
  | none => simp [hf] at h
  | some cs =>
    simp only [hf] at h
    split at h
    · rename_i hs
      cases h
      obtain ⟨place, hplace⟩ := Option.isSome_iff_exists.1 hpl
      obtain ⟨cv, hcv, hr⟩ := fill_ok' (G := G) (place := place) ps avs hl (fun k i c off n v a b => by
        obtain ⟨h1, h2⟩ := hp k i c off n v a b
        simp only [partOK, hplace, beq_iff_eq] at h1
        exact ⟨h1, h2⟩) _ _ cs (cellsIs_cellsR hz2) hf
      rw [run_build_at hz3 hplace hcv]
      exact OutOK.pure hm hg (VR.mkAgg hr.1 (fun a ha => List.all_eq_true.1 hs a ha) hr.2)
    · cases h
/-- A NEW BLOCK at a site: pure cells, or dead ones (to be filled). -/
theorem create_ok (hm : MR G w m) (hg : Good C G w) (d : Nat) {w' : World} {cs : Array Value} {ty : TypeId} (hw : w'.heap = w.heap.push (.cells cs ty)) (hos : w'.os = w.os) (htape : w'.tape = w.tape) (hout : w'.output = w.output)
    (ptr : Bool) (z cap : Nat) (rows : List (List AVal)) (hcs : cap * z ≤ cs.size) (hcap : rows.length ≤ cap) (hmax : cap ≤ capMax ptr) (hz : ∀ row ∈ rows, row.length = z)
    (hcell : ∀ i j a, cellAt rows i j = some a → a.scalar = true ∧ ∃ c, cs[i * z + j]? = some c ∧ ((∃ x, a = .p x ∧ PV G.F x c) ∨ a = .dead)) :
    ∃ G', Step C G w w' ((d, [.own ptr z rows]) :: m) (Kill.site d).fn G' ∧ G'.loc ⟨d, 0, []⟩ = some ⟨w.heap.size, 0, cap, z⟩ ∧
      (∀ i j c, cs[i * z + j]? = some c → G'.cv ((⟨d, 0, []⟩ : Place).ext i j) = c) := by
  have h := assemble_ok hm hg d [] (by simp) (by simp) w.heap.size 0 cap z cs ty ptr rows (fun _ _ => none)
    (by rw [hw]; simp) (fun k hk hne => by rw [hw, Array.getElem?_push, if_neg (by omega)]) (by rw [hw]; simp) hos htape hout (.inl (Nat.le_refl _)) (by omega) hcap hmax hz
    (fun i j a ha => by
      obtain ⟨h1, c, h2, h3⟩ := hcell i j a ha
      refine ⟨h1, c, by simpa using h2, ?_⟩
      rcases h3 with h3 | h3
      · exact .inl h3
      · exact .inr (.inl h3))
    (fun i j sp h => by cases h) (fun i j i' j' sp sp' r r' h => by cases h)
  obtain ⟨h1, h2, h3, h4, h5, h6, h7, h8⟩ := h
  exact ⟨_, ⟨h1, h2, by rw [h3]; exact Frz.le_refl _, fun pl hpl L hL => h5 pl (by simpa [Kill.fn] using hpl) L hL⟩, h4, fun i j c hc => h7 i j c (by simpa using hc)⟩
theorem putCell_ghost (hm : MR G w m) (hg : Good C G w) {dst : Place} (hd : getAt m dst = some .dead) {v : AVal}
    (hv : v.ment (fun q => q.s == dst.s) = false → VR G v (G.cv dst)) {m' : Mem} (hput : putCell m dst v = some m') :
    ∃ G', Step C G w w m' (atOrUnder dst) G' ∧
      (∀ q, q.s = dst.s → ¬ dst.under q → (¬ q.under dst → getAt m' q = getAt m q) ∧ G'.cv q = G.cv q ∧ G'.loc q = G.loc q) := by
  by_cases hpure : v.isP = true
  · cases v with
    | p x =>
      simp only [putCell] at hput
      split at hput
      · rename_i hs
        cases hput
        have hpv := (hv rfl).out
        refine ⟨G, ⟨fill_ok hm hs hd hpv, hg, Frz.le_refl _, fun _ _ _ h => h⟩, fun q _ h1 => ⟨fun h2 => getAt_set_indep _ h1 h2, rfl, rfl⟩⟩
      · cases hput
    | _ => simp [AVal.isP] at hpure
  · have hput' : (moveable m v).bind (fun qa => if qa.1.s = dst.s then none else some (setAt (setAt m qa.1 .dead) dst qa.2)) = some m' := by
      cases v <;> first | exact hput | (simp [AVal.isP] at hpure)
    cases hmv : moveable m v with
    | none => simp [hmv] at hput'
    | some qa =>
      obtain ⟨q, a⟩ := qa
      simp only [hmv, Option.bind_some] at hput'
      split at hput'
      · cases hput'
      · rename_i hne
        cases hput'
        obtain ⟨g1, g2, g3, g4⟩ := moveable_spec hmv
        have hment : v.ment (fun q => q.s == dst.s) = false := by
          cases a with
          | own ptr _ _ => cases ptr <;> (simp [refOf] at g2; subst g2; simpa [AVal.ment] using hne)
          | omap => simp [refOf] at g2; subst g2; simpa [AVal.ment] using hne
          | p => simp [AVal.isP] at g4
          | _ => simp [refOf] at g2
        have hcq : G.cv dst = G.cv q := refOf_unique (hm q a g1) g2 g4 (hv hment)
        obtain ⟨v1, v2⟩ := vacate hm g1
        have hd2 : getAt (setAt m q .dead) dst = some .dead := by rw [getAt_set_other (fun e => hne e.symm)]; exact hd
        have hat := attach_ok v1 hg g3 hd2 (hm.held g1) v2 hne hcq
        refine ⟨_, ⟨hat.1, hat.2, Frz.le_refl _, ?_⟩, ?_⟩
        · intro pl hpl L hL
          have hnu' : ¬ dst.under pl := fun h => by rw [under_atOrUnder h] at hpl; cases hpl
          exact (Gh.attached_loc hnu' hL).1
        · intro p hp h1
          have hnq : ¬ q.under p := fun h => hne (by rw [← Place.under_s h, hp])
          refine ⟨fun h2 => ?_, by simp [Gh.attached, h1], by simp [Gh.attached, h1, hnq]⟩
          rw [getAt_set_indep _ h1 h2, getAt_set_other (by rw [hp]; exact fun e => hne e.symm)]
theorem putCells_ghost {root : Place} {i : Nat} : ∀ (vs : List AVal) (j : Nat) (G : Gh) (m m' : Mem), MR G w m → Good C G w → putCells m root i j vs = some m' →
    (∀ (k : Nat) (v : AVal), vs[k]? = some v → getAt m (root.ext i (j + k)) = some .dead ∧ (v.ment (fun q => q.s == root.s) = false → VR G v (G.cv (root.ext i (j + k))))) →
    ∃ G', Step C G w w m' (fun q => q.s == root.s) G' ∧ G'.loc root = G.loc root ∧
      (∀ i' j', i' ≠ i → getAt m' (root.ext i' j') = getAt m (root.ext i' j') ∧ G'.cv (root.ext i' j') = G.cv (root.ext i' j')) := by
  intro vs
  induction vs with
  | nil =>
    intro j G m m' hm hg hput _
    simp [putCells] at hput
    subst hput
    exact ⟨G, ⟨hm, hg, Frz.le_refl _, fun _ _ _ h => h⟩, rfl, fun _ _ _ => ⟨rfl, rfl⟩⟩
  | cons v vs ih =>
    intro j G m m' hm hg hput hk
    simp only [putCells] at hput
    cases hp : putCell m (root.ext i j) v with
    | none => simp [hp] at hput
    | some m1 =>
      simp only [hp, Option.bind_some] at hput
      obtain ⟨h1, h2⟩ := hk 0 v (by simp)
      simp only [Nat.add_zero] at h1 h2
      obtain ⟨G1, s1, k1⟩ := putCell_ghost hm hg h1 h2 hp
      have hK : ∀ q, (q.s == root.s) = false → atOrUnder (root.ext i j) q = false := fun q hq => by
        simp only [atOrUnder, Place.ext, hq, Bool.false_and]
      obtain ⟨G2, s2, k2, k3⟩ := ih (j + 1) G1 m1 m' s1.mr s1.good hput (by
        intro k u hu
        obtain ⟨g1, g2⟩ := hk (k + 1) u (by simpa using hu)
        have hne : ¬ (i = i ∧ j = j + 1 + k) := fun e => by omega
        have hne' : ¬ (i = i ∧ j + 1 + k = j) := fun e => by omega
        obtain ⟨q1, q2, q3⟩ := k1 (root.ext i (j + 1 + k)) rfl (Place.ext_indep hne)
        rw [show j + (k + 1) = j + 1 + k by omega] at g1 g2
        refine ⟨by rw [q1 (Place.ext_indep hne')]; exact g1, fun hment => ?_⟩
        rw [q2]
        exact (g2 hment).mono s1.le _ (fun pl hpl => s1.loc pl (hK pl hpl)) hment)
      refine ⟨G2, ⟨s2.mr, s2.good, ⟨fun b o v h => s2.le.cell _ _ _ (s1.le.cell _ _ _ h), fun r e h => s2.le.map _ _ (s1.le.map _ _ h)⟩, fun pl hpl L hL => s1.loc pl (hK pl hpl) L (s2.loc pl hpl L hL)⟩, ?_, ?_⟩
      · rw [k2]; exact (k1 root rfl (Place.not_ext_under root i j)).2.2
      · intro i' j' hi
        have hne : ¬ (i = i' ∧ j = j') := fun e => hi e.1.symm
        have hne' : ¬ (i' = i ∧ j' = j) := fun e => hi e.1
        obtain ⟨q1, q2, q3⟩ := k1 (root.ext i' j') rfl (Place.ext_indep hne)
        obtain ⟨p1, p2⟩ := k3 i' j' hi
        exact ⟨by rw [p1, q1 (Place.ext_indep hne')], by rw [p2, q2]⟩
theorem fillRows_ghost {root : Place} : ∀ (rows : List (List AVal)) (i : Nat) (G : Gh) (m m' : Mem), MR G w m → Good C G w → fillRows m root i rows = some m' →
    (∀ (k j : Nat) (v : AVal), cellAt rows k j = some v → getAt m (root.ext (i + k) j) = some .dead ∧ (v.ment (fun q => q.s == root.s) = false → VR G v (G.cv (root.ext (i + k) j)))) →
    ∃ G', Step C G w w m' (fun q => q.s == root.s) G' ∧ G'.loc root = G.loc root := by
  intro rows
  induction rows with
  | nil =>
    intro i G m m' hm hg hput _
    simp [fillRows] at hput
    subst hput
    exact ⟨G, ⟨hm, hg, Frz.le_refl _, fun _ _ _ h => h⟩, rfl⟩
  | cons r rs ih =>
    intro i G m m' hm hg hput hk
    simp only [fillRows] at hput
    cases hp : putCells m root i 0 r with
    | none => simp [hp] at hput
    | some m1 =>
      simp only [hp, Option.bind_some] at hput
      obtain ⟨G1, s1, l1, k1⟩ := putCells_ghost r 0 G m m1 hm hg hp (by
        intro k v hv
        have := hk 0 k v (by simpa [cellAt] using hv)
        simpa using this)
      obtain ⟨G2, s2, l2⟩ := ih (i + 1) G1 m1 m' s1.mr s1.good hput (by
        intro k j v hv
        obtain ⟨g1, g2⟩ := hk (k + 1) j v (by simpa [cellAt] using hv)
        rw [show i + (k + 1) = i + 1 + k by omega] at g1 g2
        obtain ⟨p1, p2⟩ := k1 (i + 1 + k) j (by omega)
        refine ⟨by rw [p1]; exact g1, fun hment => ?_⟩
        rw [p2]
        exact (g2 hment).mono s1.le _ (fun pl hpl => s1.loc pl hpl) hment)
      exact ⟨G2, ⟨s2.mr, s2.good, ⟨fun b o v h => s2.le.cell _ _ _ (s1.le.cell _ _ _ h), fun r e h => s2.le.map _ _ (s1.le.map _ _ h)⟩, fun pl hpl L hL => s1.loc pl hpl L (s2.loc pl hpl L hL)⟩, by rw [l2, l1]⟩
theorem cellAt_dead {rows : List (List AVal)} {i j : Nat} {a : AVal} (h : cellAt (deadRows rows) i j = some a) : a = .dead ∧ ∃ v, cellAt rows i j = some v := by
  obtain ⟨row, h1, h2⟩ := cellAt_some.1 h
  simp only [deadRows, List.getElem?_map, Option.map_eq_some_iff] at h1
  obtain ⟨r, hr, rfl⟩ := h1
  simp only [List.getElem?_map, Option.map_eq_some_iff] at h2
  obtain ⟨v, hv, rfl⟩ := h2
  exact ⟨rfl, v, cellAt_some.2 ⟨r, hr, hv⟩⟩
/-- A NEW ROOT: pure at once, or filled with what moves in. -/
theorem newRoot_ok (hm : MR G w m) (hg : Good C G w) (d : Nat) {w' : World} {cs : Array Value} {ty : TypeId} (hw : w'.heap = w.heap.push (.cells cs ty)) (hos : w'.os = w.os) (htape : w'.tape = w.tape) (hout : w'.output = w.output)
    (ptr : Bool) (z cap : Nat) (rows : List (List AVal)) (hcs : cap * z ≤ cs.size) (hcap : rows.length ≤ cap) (hmax : cap ≤ capMax ptr) (hz : ∀ row ∈ rows, row.length = z)
    (hcell : ∀ i j a, cellAt rows i j = some a → ∃ c, cs[i * z + j]? = some c ∧ VR G a c) {m' : Mem} (h : newRoot m d ptr z rows = some m') :
    ∃ G', Step C G w w' m' (Kill.site d).fn G' ∧ G'.loc ⟨d, 0, []⟩ = some ⟨w.heap.size, 0, cap, z⟩ := by
  unfold newRoot at h
  split at h
  · cases h
  · rename_i hs
    have hs' : ∀ i j a, cellAt rows i j = some a → a.scalar = true := by
      intro i j a ha
      obtain ⟨row, h1, h2⟩ := cellAt_some.1 ha
      have hsc : scalarRows rows = true := by simpa using hs
      exact List.all_eq_true.1 (List.all_eq_true.1 hsc row (List.mem_of_getElem? h1)) a (List.mem_of_getElem? h2)
    split at h
    · rename_i hp
      cases h
      obtain ⟨G', s, l, _⟩ := create_ok hm hg d hw hos htape hout ptr z cap rows hcs hcap hmax hz (fun i j a ha => by
        obtain ⟨c, hc, hv⟩ := hcell i j a ha
        refine ⟨hs' i j a ha, c, hc, .inl ?_⟩
        obtain ⟨row, h1, h2⟩ := cellAt_some.1 ha
        have := List.all_eq_true.1 (List.all_eq_true.1 hp row (List.mem_of_getElem? h1)) a (List.mem_of_getElem? h2)
        cases a with
        | p x => exact ⟨x, rfl, hv.out⟩
        | _ => simp [AVal.isP] at this)
      exact ⟨G', s, l⟩
    · obtain ⟨G1, s1, l1, c1⟩ := create_ok hm hg d hw hos htape hout ptr z cap (deadRows rows) hcs (by simpa [deadRows] using hcap) hmax
        (by
          intro row hrow
          simp only [deadRows, List.mem_map] at hrow
          obtain ⟨r, hr, rfl⟩ := hrow
          simpa using hz r hr)
        (fun i j a ha => by
          obtain ⟨rfl, v, hv⟩ := cellAt_dead ha
          obtain ⟨c, hc, _⟩ := hcell i j v hv
          exact ⟨rfl, c, hc, .inr rfl⟩)
      have hroot : getAt ((d, [AVal.own ptr z (deadRows rows)]) :: m) ⟨d, 0, []⟩ = some (.own ptr z (deadRows rows)) := by simp [getAt, lk, sub]
      obtain ⟨G2, s2, l2⟩ := fillRows_ghost (w := w') (C := C) (root := ⟨d, 0, []⟩) rows 0 G1 _ m' s1.mr s1.good h (by
        intro k j v hv
        rw [Nat.zero_add]
        obtain ⟨c, hc, hvr⟩ := hcell k j v hv
        refine ⟨?_, fun hment => ?_⟩
        · rw [getAt_ext hroot]
          obtain ⟨row, h1, h2⟩ := cellAt_some.1 hv
          exact cellAt_some.2 ⟨row.map fun _ => .dead, by simp [deadRows, h1], by simp [h2]⟩
        · rw [c1 k j c hc]
          exact hvr.mono s1.le _ (fun pl hpl => s1.loc pl hpl) hment)
      exact ⟨G2, ⟨s2.mr, s2.good, ⟨fun b o v h => s2.le.cell _ _ _ (s1.le.cell _ _ _ h), fun r e h => s2.le.map _ _ (s1.le.map _ _ h)⟩, fun pl hpl L hL => s1.loc pl hpl L (s2.loc pl hpl L hL)⟩, by rw [l2, l1]⟩
end
end Go.Proofs.Ytnmnijgoggombaa.X
/- The operations are sound, part E: writes into what is owned. -/
namespace Go.Proofs.Ytnmnijgoggombaa.X
open Go.RowKit
theorem idx_range {z i j i' j' n : Nat} (hj' : j' < z) (hn : j + n ≤ z) (h1 : i * z + j ≤ i' * z + j') (h2 : i' * z + j' < i * z + j + n) : i = i' ∧ j ≤ j' ∧ j' < j + n := by
  have hz : 0 < z := by omega
  have e1 : (i' * z + j') / z = i' := by rw [Nat.mul_comm, Nat.mul_add_div hz, Nat.div_eq_of_lt hj']; rfl
  have e2 : (i' * z + j') / z = i := by
    have h3 : i' * z + j' < i * z + z := by omega
    have h4 : i * z ≤ i' * z + j' := by omega
    apply Nat.le_antisymm
    · have : (i' * z + j') / z < i + 1 := by
        rw [Nat.div_lt_iff_lt_mul hz, Nat.add_mul]
        omega
      omega
    · rw [Nat.le_div_iff_mul_le hz]; exact h4
  have : i = i' := by omega
  subst this
  exact ⟨rfl, by omega, by omega⟩
theorem Step.trans {C : Ctx} {G G1 G2 : Gh} {w w1 w2 : World} {m1 m2 : Mem} {K : Place → Bool} (h : Step C G w w1 m1 K G1) (k : Step C G1 w1 w2 m2 K G2) : Step C G w w2 m2 K G2 :=
  ⟨k.mr, k.good, ⟨fun _ _ _ h' => k.le.cell _ _ _ (h.le.cell _ _ _ h'), fun _ _ h' => k.le.map _ _ (h.le.map _ _ h')⟩, fun pl hpl L hL => h.loc pl hpl L (k.loc pl hpl L hL)⟩
section
variable {P : Program} {C : Ctx} {G : Gh} {w w' : World} {m : Mem}
open Classical in
/-- REWRITE: some cells of an owned thing become pure ones. -/
theorem rewrite_ok (hm : MR G w m) (hg : Good C G w) {pl : Place} {ptr : Bool} {z : Nat} {rows rows' : List (List AVal)} (hp : getAt m pl = some (.own ptr z rows))
    {b o cap : Nat} (hL : G.loc pl = some ⟨b, o, cap, z⟩) {cs cs' : Array Value} {ty : TypeId} (hheap : w.heap[b]? = some (.cells cs ty (0, 0)))
    (hheap' : w'.heap[b]? = some (.cells cs' ty (0, 0))) (hother : ∀ k, k ≠ b → w'.heap[k]? = w.heap[k]?) (hsize : w'.heap.size = w.heap.size)
    (hos : w'.os = w.os) (htape : w'.tape = w.tape) (hout : w'.output = w.output) (hsz : cs'.size = cs.size) (hlen : rows'.length = rows.length) (hz : ∀ row ∈ rows', row.length = z)
    (hcell : ∀ i j a, cellAt rows' i j = some a → (cellAt rows i j = some a ∧ cs'[o + i * z + j]? = cs[o + i * z + j]?) ∨
      (∃ x, a = .p x ∧ x.scalar = true ∧ ∃ c, cs'[o + i * z + j]? = some c ∧ PV G.F x c)) :
    ∃ G', Step C G w w' (setAt m pl (.own ptr z rows')) Kill.no.fn G' := by
  obtain ⟨b', o', cap', cs0, ty0, h1, h2, h3, h4, h5, h6, h7, h8⟩ := hm pl _ hp
  rw [hL] at h1; cases h1
  rw [hheap] at h3; cases h3
  let chg : Nat → Nat → Prop := fun i j => ¬ (cellAt rows' i j = cellAt rows i j ∧ cs'[o + i * z + j]? = cs[o + i * z + j]?)
  let G' : Gh := { F := G.F
                   loc := fun q => if ∃ i j, chg i j ∧ (pl.ext i j).under q then none else G.loc q
                   cv := fun q => if h : ∃ ij : Nat × Nat, q = pl.ext ij.1 ij.2 ∧ chg ij.1 ij.2 then (cs'[o + h.choose.1 * z + h.choose.2]?).getD undef else G.cv q }
  have hcvc : ∀ i j, chg i j → G'.cv (pl.ext i j) = (cs'[o + i * z + j]?).getD undef := by
    intro i j hc
    have hex : ∃ ij : Nat × Nat, pl.ext i j = pl.ext ij.1 ij.2 ∧ chg ij.1 ij.2 := ⟨(i, j), rfl, hc⟩
    simp only [G', hex, dif_pos]
    obtain ⟨e, _⟩ := hex.choose_spec
    obtain ⟨_, e1, e2⟩ := Place.ext_inj e
    rw [← e1, ← e2]
  have hcvo : ∀ q, (∀ i j, q = pl.ext i j → ¬ chg i j) → G'.cv q = G.cv q := by
    intro q hq
    have : ¬ ∃ ij : Nat × Nat, q = pl.ext ij.1 ij.2 ∧ chg ij.1 ij.2 := fun ⟨ij, e, hc⟩ => hq _ _ e hc
    simp only [G', this, dif_neg, not_false_eq_true]
  have hloc : ∀ q L, G'.loc q = some L → G.loc q = some L := by
    intro q L h
    simp only [G'] at h
    split at h
    · cases h
    · exact h
  have hlo : ∀ q, (∀ i j, chg i j → ¬ (pl.ext i j).under q) → G'.loc q = G.loc q := by
    intro q hq
    have : ¬ ∃ i j, chg i j ∧ (pl.ext i j).under q := fun ⟨i, j, h, h'⟩ => hq i j h h'
    simp only [G', this, if_false]
  have hext : ∀ i j, (pl.ext i j) = pl.app [(i, j)] := fun i j => rfl
  have hrows : scalarRows rows' = true ∨ True := .inr trivial
  have hnb : ∀ q L, G.loc q = some L → q ≠ pl → L.b ≠ b := fun q L h hne e => hne (hg.inj q pl L _ h hL e)
  have hplplace : ∀ i j, ¬ (pl.ext i j).under pl := Place.not_ext_under pl
  refine ⟨G', ⟨?_, ?_, Frz.le_refl _, fun pl _ L h => hloc pl L h⟩⟩
  · intro q x' hx
    by_cases hu : pl.under q
    · obtain ⟨r, rfl⟩ := hu
      rw [getAt_set_under hp] at hx
      cases r with
      | nil =>
        simp only [sub, Option.some.injEq] at hx
        subst hx
        rw [Place.app_nil]
        have hcvpl : G'.cv pl = G.cv pl := hcvo pl fun i j e => absurd (show (pl.ext i j).under pl from ⟨[], by rw [Place.app_nil]; exact e⟩) (hplplace i j)
        refine ⟨b, o, cap, cs', ty, by rw [hlo pl fun i j _ => hplplace i j]; exact hL, by rw [hcvpl, hlen]; exact h2, hheap', by omega, by omega, h6, hz, ?_⟩
        intro i j a ha
        by_cases hc : chg i j
        · rcases hcell i j a ha with ⟨k1, k2⟩ | ⟨x, rfl, hs, c, hc1, hc2⟩
          · exact absurd ⟨by rw [ha, k1], k2⟩ hc
          · exact ⟨hs, by rw [hcvc i j hc, hc1]; rfl⟩
        · have hc' := Classical.not_not.1 hc
          have ha' : cellAt rows i j = some a := by rw [← hc'.1]; exact ha
          obtain ⟨g1, g2⟩ := h8 i j a ha'
          refine ⟨g1, ?_⟩
          rw [hcvo (pl.ext i j) fun i' j' e => by obtain ⟨_, rfl, rfl⟩ := Place.ext_inj e; exact hc, hc'.2]
          exact g2
      | cons ij r =>
        obtain ⟨i, j⟩ := ij
        simp only [sub] at hx
        cases ha : cellAt rows' i j with
        | none => simp [ha] at hx
        | some a =>
          simp only [ha, Option.bind_some] at hx
          by_cases hc : chg i j
          · rcases hcell i j a ha with ⟨k1, k2⟩ | ⟨x, rfl, hs, c, hc1, hc2⟩
            · exact absurd ⟨by rw [ha, k1], k2⟩ hc
            · cases r with
              | nil =>
                simp only [sub, Option.some.injEq] at hx
                subst hx
                show PV G'.F x (G'.cv (pl.ext i j))
                rw [hcvc i j hc, hc1]
                exact hc2
              | cons y r => simp [sub] at hx
          · have hc' := Classical.not_not.1 hc
            have ha' : cellAt rows i j = some a := by rw [← hc'.1]; exact ha
            have hold : getAt m (pl.app ((i, j) :: r)) = some x' := by
              rw [getAt_app, hp]
              simp [sub, ha', hx]
            have hnu : ∀ i' j', chg i' j' → ¬ (pl.ext i' j').under (pl.app ((i, j) :: r)) := by
              rintro i' j' hc2 ⟨t, ht⟩
              rw [hext, Place.app_app] at ht
              have := Place.app_inj ht
              simp at this
              obtain ⟨⟨rfl, rfl⟩, _⟩ := this
              exact hc hc2
            refine (hm _ x' hold).move (SameShape.refl _) (Frz.le_refl _) (fun L hLq => ⟨by rw [hlo _ hnu]; exact hLq, hother _ (hnb _ L hLq fun e => ?_)⟩) ?_ ?_
            · have := congrArg (fun p => p.path.length) e
              simp [Place.app] at this
            · refine hcvo _ fun i' j' e hc2 => ?_
              rw [hext] at e
              have := Place.app_inj e
              simp at this
              obtain ⟨⟨rfl, rfl⟩, _⟩ := this
              exact hc hc2
            · intro i2 j2
              refine hcvo _ fun i' j' e hc2 => ?_
              obtain ⟨e', _⟩ := Place.ext_inj e
              have := congrArg (fun p => p.path.length) e'
              simp [Place.app] at this
    · obtain ⟨y, hy, hsh⟩ := getAt_set_else (a := .own ptr z rows') rfl hp hu hx
      have hne : q ≠ pl := fun e => hu (e ▸ Place.under_refl _)
      refine (hm q y hy).move hsh (Frz.le_refl _) (fun L hLq => ⟨?_, hother _ (hnb q L hLq hne)⟩) ?_ ?_
      · rw [hlo q fun i j _ ⟨t, ht⟩ => hu ⟨(i, j) :: t, by rw [ht, hext, Place.app_app]; rfl⟩]; exact hLq
      · exact hcvo q fun i j e _ => hu ⟨[(i, j)], e⟩
      · exact fun i j => hcvo _ fun i' j' e _ => hne (Place.ext_inj e).1
  · have hb0 : ∀ b1, b1 ≠ b → w'.heap[b1]? = w.heap[b1]? := hother
    refine ⟨?_, ?_, ?_, ?_, ?_, ?_, by rw [hsize]; exact hg.size, ?_, ?_, hg.fz0, hg.fm0, hg.fzn, hg.fmn, hos.trans hg.os, htape.trans hg.tape, hout.trans hg.output⟩
    · intro b1 o1 v hv
      rw [World.cell?_of_block (hb0 b1 (fun e => hg.fzl b1 o1 v hv pl _ hL e.symm))]
      exact hg.fz b1 o1 v hv
    · exact fun b1 o1 v hv q L h => hg.fzl b1 o1 v hv q L (hloc q L h)
    · intro r es hr
      rw [hb0 r (fun e => hg.fml r es hr pl _ hL e.symm)]
      exact hg.fm r es hr
    · exact fun r es hr q L h => hg.fml r es hr q L (hloc q L h)
    · exact fun q q' L L' h h' e => hg.inj q q' L L' (hloc q L h) (hloc q' L' h') e
    · intro q L h; rw [hsize]; exact hg.bnd q L (hloc q L h)
    · intro k hk hmine
      have hne : k ≠ b := by
        intro e
        subst e
        rcases hg.own pl _ hL with h | h
        · simp at h; omega
        · exact hmine h
      rw [hb0 k hne]
      exact hg.keep k hk hmine
    · exact fun q L h => hg.own q L (hloc q L h)
theorem VR.oneCell {v : AVal} {c : Value} (h : VR G v c) (hs : v.scalar = true) : c.oneCell' = true := by
  cases h with
  | p hp => exact hp.oneCell hs
  | agg => simp [AVal.scalar] at hs
  | tup => simp [AVal.scalar] at hs
  | unk _ h => exact h
  | _ => rfl
theorem cellAt_setRange {rows : List (List AVal)} {i : Nat} {cells : List AVal} {j z : Nat} (hz : ∀ row ∈ rows, row.length = z) (hfit : j + cells.length ≤ z) (i' j' : Nat) {a : AVal}
    (h : cellAt (rows.modify i fun row => setRange row cells j) i' j' = some a) :
    (i' = i ∧ j ≤ j' ∧ j' < j + cells.length ∧ cells[j' - j]? = some a) ∨ ((i' ≠ i ∨ j' < j ∨ j + cells.length ≤ j') ∧ cellAt rows i' j' = some a) := by
  obtain ⟨row, h1, h2⟩ := cellAt_some.1 h
  rw [List.getElem?_modify] at h1
  cases hr : rows[i']? with
  | none => simp [hr] at h1
  | some r =>
    have hrl := hz r (List.mem_of_getElem? hr)
    simp only [hr, Option.map_eq_map, Option.map_some, Option.some.injEq] at h1
    by_cases hi : i = i'
    · subst hi
      simp only [if_true] at h1
      subst h1
      simp only [setRange] at h2
      rw [List.append_assoc, List.getElem?_append] at h2
      simp only [List.length_take] at h2
      have hmin : min j r.length = j := by omega
      rw [hmin] at h2
      split at h2
      · rename_i hj
        rw [List.getElem?_take, if_pos hj] at h2
        exact .inr ⟨.inr (.inl hj), cellAt_some.2 ⟨r, hr, h2⟩⟩
      · rename_i hj
        rw [List.getElem?_append] at h2
        split at h2
        · exact .inl ⟨rfl, by omega, by omega, h2⟩
        · rw [List.getElem?_drop, show j + cells.length + (j' - j - cells.length) = j' by omega] at h2
          exact .inr ⟨.inr (.inr (by omega)), cellAt_some.2 ⟨r, hr, h2⟩⟩
    · simp only [if_neg hi] at h1
      subst h1
      exact .inr ⟨.inl (fun e => hi e.symm), cellAt_some.2 ⟨_, hr, h2⟩⟩
theorem getElem?_splice (l vs : List Value) (o i : Nat) (hfit : o + vs.length ≤ l.length) :
    (l.take o ++ vs ++ l.drop (o + vs.length))[i]? = if o ≤ i ∧ i < o + vs.length then vs[i - o]? else l[i]? := by
  rw [List.append_assoc, List.getElem?_append]
  simp only [List.length_take]
  have hmin : min o l.length = o := by omega
  rw [hmin]
  split
  · rw [if_neg (by omega), List.getElem?_take, if_pos (by assumption)]
  · rw [List.getElem?_append]
    split
    · rw [if_pos (by omega)]
    · rw [if_neg (by omega), List.getElem?_drop]
      congr 1
      omega
def OutOKU (C : Ctx) (G : Gh) (w : World) (r : Result Unit) (out : Out) : Prop :=
  ∃ w' G', r = .ok () w' ∧ Step C G w w' out.2.1 out.2.2.fn G'
theorem putCells_run {par : Place} {ptr : Bool} {z b o cap : Nat} {i : Nat} : ∀ (vs : List AVal) (cvs : List Value) (j idx : Nat) (G : Gh) (w : World) (m m' : Mem) (rows : List (List AVal)), MR G w m → Good C G w →
    getAt m par = some (.own ptr z rows) → G.loc par = some ⟨b, o, cap, z⟩ → (∀ k, k < vs.length → (cellAt rows i (j + k)).isSome = true) → cvs.length = vs.length →
    (∀ (k : Nat) (v : AVal) (c : Value), vs[k]? = some v → cvs[k]? = some c → v.ment (fun q => q.s == par.s) = false → VR G v c) → putCells m par i j vs = some m' →
    ∀ a : Addr, (∀ k, k < vs.length → a.add (idx + k) = ⟨b, o + i * z + (j + k), none⟩) →
    ∃ w' G', (storeCells a cvs idx).run P w = .ok () w' ∧ Step C G w w' m' (fun q => q.s == par.s && q.k == par.k && decide (par.path.length < q.path.length)) G' := by
  intro vs
  induction vs with
  | nil =>
    intro cvs j idx G w m m' rows hm hg _ _ _ hl _ hput a _
    have := List.eq_nil_of_length_eq_zero hl
    subst this
    simp [putCells] at hput
    subst hput
    exact ⟨w, G, by simp [storeCells], hm, hg, Frz.le_refl _, fun _ _ _ h => h⟩
  | cons v vs ih =>
    intro cvs j idx G w m m' rows hm hg hpar hloc hsome hl hvr hput a ha
    cases cvs with
    | nil => simp at hl
    | cons c cvs =>
      simp only [putCells] at hput
      cases hp : putCell m (par.ext i j) v with
      | none => simp [hp] at hput
      | some m1 =>
        simp only [hp, Option.bind_some] at hput
        have h0 := hsome 0 (by simp)
        simp only [Nat.add_zero] at h0
        obtain ⟨old, hold⟩ := Option.isSome_iff_exists.1 h0
        have hment : v.ment (fun q => q.s == par.s) = false := by
          cases v with
          | p x => rfl
          | agg _ => simp [putCell, moveable] at hp
          | tup _ => simp [putCell, moveable] at hp
          | own _ _ _ => simp [putCell, moveable] at hp
          | omap _ => simp [putCell, moveable] at hp
          | dead => simp [putCell, moveable] at hp
          | unk => simp [putCell, moveable] at hp
          | siter _ _ => simp [putCell, moveable] at hp
          | smap _ => simp [putCell, moveable] at hp
          | miter _ _ _ => simp [putCell, moveable] at hp
          | rit _ _ _ => simp [putCell, moveable] at hp
          | rsl q off len =>
            have hp' : (moveable m (.rsl q off len)).bind (fun qa => if qa.1.s = (par.ext i j).s then none else some (setAt (setAt m qa.1 .dead) (par.ext i j) qa.2)) = some m1 := hp
            cases hmv : moveable m (.rsl q off len) with
            | none => simp [hmv] at hp'
            | some qa =>
              obtain ⟨q', a'⟩ := qa
              simp only [hmv, Option.bind_some] at hp'
              split at hp'
              · cases hp'
              · rename_i hne
                obtain ⟨_, g2, _, g4⟩ := moveable_spec hmv
                cases a' with
                | own ptr _ _ => cases ptr <;> simp [refOf] at g2; obtain ⟨rfl, _⟩ := g2; simpa [AVal.ment, Place.ext] using hne
                | p => simp [AVal.isP] at g4
                | _ => simp [refOf] at g2
          | rpt q i' j' =>
            have hp' : (moveable m (.rpt q i' j')).bind (fun qa => if qa.1.s = (par.ext i j).s then none else some (setAt (setAt m qa.1 .dead) (par.ext i j) qa.2)) = some m1 := hp
            cases hmv : moveable m (.rpt q i' j') with
            | none => simp [hmv] at hp'
            | some qa =>
              obtain ⟨q', a'⟩ := qa
              simp only [hmv, Option.bind_some] at hp'
              split at hp'
              · cases hp'
              · rename_i hne
                obtain ⟨_, g2, _, g4⟩ := moveable_spec hmv
                cases a' with
                | own ptr _ _ => cases ptr <;> simp [refOf] at g2; obtain ⟨rfl, _⟩ := g2; simpa [AVal.ment, Place.ext] using hne
                | p => simp [AVal.isP] at g4
                | _ => simp [refOf] at g2
          | rmp q =>
            have hp' : (moveable m (.rmp q)).bind (fun qa => if qa.1.s = (par.ext i j).s then none else some (setAt (setAt m qa.1 .dead) (par.ext i j) qa.2)) = some m1 := hp
            cases hmv : moveable m (.rmp q) with
            | none => simp [hmv] at hp'
            | some qa =>
              obtain ⟨q', a'⟩ := qa
              simp only [hmv, Option.bind_some] at hp'
              split at hp'
              · cases hp'
              · rename_i hne
                obtain ⟨_, g2, _, g4⟩ := moveable_spec hmv
                cases a' with
                | omap _ => simp [refOf] at g2; subst g2; simpa [AVal.ment, Place.ext] using hne
                | own ptr _ _ => cases ptr <;> simp [refOf] at g2
                | p => simp [AVal.isP] at g4
                | _ => simp [refOf] at g2
        obtain ⟨G1, hrun, s1, l1, rows1, g1, g2⟩ := putCell_ok (P := P) hm hg hpar hold hloc (hvr 0 v c (by simp) (by simp) hment) hp
        have haddr := ha 0 (by simp)
        simp only [Nat.add_zero] at haddr
        have hK : ∀ q, (q.s == par.s && q.k == par.k && decide (par.path.length < q.path.length)) = false → killPut v (par.ext i j) q = false := by
          intro q hq
          unfold killPut
          split
          · rfl
          · simp only [atOrUnder, Place.ext, List.length_append, List.length_cons, List.length_nil, Nat.zero_add] at hq ⊢
            cases h1 : (q.s == par.s) <;> cases h2 : (q.k == par.k) <;> simp_all
            omega
        obtain ⟨w2, G2, hrun2, s2⟩ := ih cvs (j + 1) (idx + 1) G1 _ m1 m' rows1 s1.mr s1.good g1 (by rw [l1]; exact hloc)
          (fun k hk => by rw [g2, show j + 1 + k = j + (k + 1) by omega]; exact hsome (k + 1) (by simpa using hk))
          (by simpa using hl)
          (fun k u cu hu hcu hmu => by
            refine (hvr (k + 1) u cu (by simpa using hu) (by simpa using hcu) hmu).mono s1.le _ (fun pl hpl => s1.loc pl (hK pl ?_)) hmu
            simp only [hpl, Bool.false_and])
          hput a (fun k hk => by
            have := ha (k + 1) (by simpa using hk)
            rw [show idx + (k + 1) = idx + 1 + k by omega, show j + (k + 1) = j + 1 + k by omega] at this
            exact this)
        refine ⟨w2, G2, ?_, ⟨s2.mr, s2.good, ⟨fun b o v h => s2.le.cell _ _ _ (s1.le.cell _ _ _ h), fun r e h => s2.le.map _ _ (s1.le.map _ _ h)⟩, fun pl hpl L hL => s1.loc pl (hK pl hpl) L (s2.loc pl hpl L hL)⟩⟩
        simp only [storeCells, Sem.run_bind, haddr, hrun, Result.andThen_ok, hrun2]
theorem oStore_ok {t : TypeId} {n : Nat} (hn : tySize P t = some n) (hm : MR G w m) (hg : Good C G w) {x v : AVal} {c d : Value} (hx : VR G x c) (hv : VR G v d) {out : Out} (h : oStore n m x v = some out) :
    OutOKU C G w ((Instr.storeAt t c d).run P w) out := by
  unfold oStore at h
  split at h
  · rename_i pl i j
    split at h
    · rename_i ptr z rows hget
      split at h
      · rename_i hcond
        obtain ⟨hc1, hc2, hc3, hc4⟩ := hcond
        obtain ⟨b, o, cap, cs, ty, h1, h2, h3, h4, h5, h6, h7, h8⟩ := hm pl _ hget
        cases hx with
        | rpt _ _ _ ad hxx =>
          have had := hxx _ _ _ _ h1
          subst had
          have hvc := hv.cells
          have hrow : rows[i]? = some rows[i] := List.getElem?_eq_getElem hc4
          have hrl := h7 _ (List.mem_of_getElem? hrow)
          have hfit : o + i * z + j + d.cells.size ≤ cs.size := by
            have : i * z + z ≤ cap * z := by
              have : (i + 1) * z ≤ cap * z := Nat.mul_le_mul_right _ (by omega)
              rw [Nat.add_mul] at this; omega
            rw [hvc.1]; omega
          have hone : ∀ u ∈ d.cells.toList, u.oneCell' = true := by
            intro u hu
            obtain ⟨k, hk⟩ := List.mem_iff_getElem?.1 hu
            have hlt : k < v.cells.length := by
              obtain ⟨h', _⟩ := List.getElem?_eq_some_iff.1 hk
              simp only [Array.length_toList, hvc.1] at h'; exact h'
            have ha := List.getElem?_eq_getElem hlt
            refine (hvc.2 k _ u ha (by simpa using hk)).oneCell ?_
            exact List.all_eq_true.1 hc2 _ (List.mem_of_getElem? ha)
          have hsv : ∀ r, (storeCells ⟨b, o + i * z + j, none⟩ d.cells.toList).run P w = r → (Instr.storeAt t (.pointer (some ⟨b, o + i * z + j, none⟩)) d).run P w = r := by
            intro r hr
            simp only [Instr.storeAt, Instr.sureAddr, storeVar, Sem.run_bind, Sem.run_pure, Result.andThen_ok, run_tySize hn, ← hr]
            have : ¬ (d.cells.size ≠ n) := by rw [hvc.1, hc1]; simp
            simp only [this, if_false]
          split at h
          · rename_i hpure
            cases h
            have hst := run_storeCells_at P b (o + i * z + j) ty d.cells.toList 0 cs w h3 (by simpa using hfit) hone
            rw [Nat.add_zero] at hst
            have hl : v.cells.length = d.cells.toList.length := by simp [hvc.1]
            have hres := rewrite_ok (C := C) hm hg (w' := w.setRow b (cs.toList.take (o + i * z + j) ++ d.cells.toList ++ cs.toList.drop (o + i * z + j + d.cells.toList.length)).toArray)
              (rows' := rows.modify i fun row => setRange row v.cells j) hget h1 h3 (setRow_heap w b cs _ ty _ h3) (fun k hk => setRow_other w b k _ hk) (by simp) rfl rfl rfl
              (by simp; omega) (by simp)
              (by
                intro row hr
                rw [List.mem_iff_getElem?] at hr
                obtain ⟨k, hk⟩ := hr
                rw [List.getElem?_modify] at hk
                cases h0 : rows[k]? with
                | none => simp [h0] at hk
                | some row0 =>
                  have := h7 row0 (List.mem_of_getElem? h0)
                  simp only [h0, Option.map_eq_map, Option.map_some, Option.some.injEq] at hk
                  subst hk
                  split
                  · simp [setRange]; omega
                  · simpa using this)
              (by
                intro i' j' a ha
                have hsp := getElem?_splice cs.toList d.cells.toList (o + i * z + j) (o + i' * z + j') (by simpa using hfit)
                simp only [List.getElem?_toArray]
                rw [hsp]
                rcases cellAt_setRange h7 (by omega) i' j' ha with ⟨rfl, q1, q2, q3⟩ | ⟨q1, q2⟩
                · right
                  have hlt : j' - j < d.cells.size := by rw [hvc.1]; omega
                  have hcc := hvc.2 (j' - j) a _ q3 (Array.getElem?_eq_getElem hlt)
                  have hap : a.isP = true := List.all_eq_true.1 hpure a (List.mem_of_getElem? q3)
                  have has : a.scalar = true := List.all_eq_true.1 hc2 a (List.mem_of_getElem? q3)
                  cases a with
                  | p x =>
                    refine ⟨x, rfl, has, d.cells[j' - j], ?_, hcc.out⟩
                    rw [if_pos (by constructor <;> omega), show o + i' * z + j' - (o + i' * z + j) = j' - j by omega]
                    simp [hlt]
                  | _ => simp [AVal.isP] at hap
                · left
                  refine ⟨q2, ?_⟩
                  have hlt := cellAt_lt h7 q2
                  rw [if_neg]
                  · simp
                  · rintro ⟨r1, r2⟩
                    have := idx_range (i := i) (j := j) (i' := i') (j' := j') (n := v.cells.length) hlt.2 (by omega) (by omega) (by omega)
                    rcases q1 with q1 | q1 | q1
                    · exact q1 this.1.symm
                    · omega
                    · omega)
            obtain ⟨G', hG'⟩ := hres
            exact ⟨_, G', hsv _ hst, hG'⟩
          · simp only [Option.map_eq_some_iff] at h
            obtain ⟨m', hput, rfl⟩ := h
            obtain ⟨w', G', hrun, hs⟩ := putCells_run (P := P) (C := C) v.cells d.cells.toList j 0 G w m m' rows hm hg hget h1
              (fun k hk => by
                have : (cellAt rows i (j + k)) = some (rows[i][j + k]'(by omega)) := cellAt_some.2 ⟨_, hrow, List.getElem?_eq_getElem _⟩
                rw [this]; rfl)
              (by simp [hvc.1]) (fun k u cu hu hcu _ => hvc.2 k u cu hu (by simpa using hcu)) hput ⟨b, o + i * z + j, none⟩
              (fun k hk => by rw [Nat.zero_add, Addr.add_none]; congr 1; omega)
            refine ⟨w', G', by rw [hsv _ hrun], hs.mr, hs.good, hs.le, fun pl' hpl' L hL => hs.loc pl' ?_ L hL⟩
            simp only [Kill.fn, atOrUnder, Place.ext, List.length_append, List.length_cons, List.length_nil, Nat.zero_add] at hpl'
            exact hpl'
      · cases h
    · cases h
  · cases h
end
end Go.Proofs.Ytnmnijgoggombaa.X
/- The operations are sound, part F: new boxes and slices. -/
namespace Go.Proofs.Ytnmnijgoggombaa.X
open Go.RowKit
theorem flatten_get : ∀ (rows : List (List AVal)) (z : Nat), (∀ row ∈ rows, row.length = z) → ∀ (i j : Nat), j < z → rows.flatten[i * z + j]? = cellAt rows i j := by
  intro rows z
  induction rows with
  | nil => intro _ i j _; simp [cellAt]
  | cons r rows ih =>
    intro h i j hj
    have hr : r.length = z := h r (by simp)
    rw [List.flatten_cons, List.getElem?_append]
    cases i with
    | zero => rw [if_pos (by omega)]; simp [cellAt]
    | succ i =>
      rw [if_neg (by rw [hr, Nat.add_mul]; omega), show (i + 1) * z + j - r.length = i * z + j by rw [hr, Nat.add_mul]; omega]
      rw [ih (fun row hrow => h row (by simp [hrow])) i j hj]
      simp [cellAt]
theorem flatten_length (rows : List (List AVal)) (z : Nat) (h : ∀ row ∈ rows, row.length = z) : rows.flatten.length = rows.length * z := by
  induction rows with
  | nil => simp
  | cons r rows ih =>
    rw [List.flatten_cons, List.length_append, h r (by simp), ih (fun row hrow => h row (by simp [hrow]))]
    simp [Nat.add_mul, Nat.add_comm]
theorem flatten_set (rows : List (List AVal)) (z : Nat) (h : ∀ row ∈ rows, row.length = z) (i : Nat) (cells : List AVal) (hi : i < rows.length) :
    (rows.set i cells).flatten = rows.flatten.take (i * z) ++ cells ++ rows.flatten.drop (i * z + z) := by
  induction rows generalizing i with
  | nil => simp at hi
  | cons r rows ih =>
    have hr : r.length = z := h r (by simp)
    cases i with
    | zero =>
      simp only [List.set_cons_zero, List.flatten_cons, Nat.zero_mul, List.take_zero, List.nil_append, Nat.zero_add]
      rw [List.drop_append_of_le_length (by omega), List.drop_of_length_le (by omega)]
      rfl
    | succ i =>
      simp only [List.set_cons_succ, List.flatten_cons]
      rw [ih (fun row hrow => h row (by simp [hrow])) i (by simpa using hi)]
      have e1 : (i + 1) * z = r.length + i * z := by rw [hr, Nat.add_mul]; omega
      rw [e1, List.take_length_add_append, show r.length + i * z + z = r.length + (i * z + z) by omega, List.drop_length_add_append]
      simp [List.append_assoc]
theorem putParts_spec {z : Nat} : ∀ (avs : List (Nat × AVal)) (rows rows' : List (List AVal)), (∀ row ∈ rows, row.length = z) → putParts rows z avs = some rows' →
    rows'.length = rows.length ∧ (∀ row ∈ rows', row.length = z) ∧ fillCells rows.flatten (avs.map fun x => (x.1 * z, z, x.2)) = some rows'.flatten := by
  intro avs
  induction avs with
  | nil => intro rows rows' h hp; simp [putParts] at hp; subst hp; exact ⟨rfl, h, by simp [fillCells]⟩
  | cons a avs ih =>
    intro rows rows' h hp
    obtain ⟨i, v⟩ := a
    simp only [putParts] at hp
    split at hp
    · rename_i hc
      obtain ⟨hc1, hc2⟩ := hc
      have h' : ∀ row ∈ rows.set i v.cells, row.length = z := by
        intro row hr
        rcases List.mem_or_eq_of_mem_set hr with hr | rfl
        · exact h row hr
        · exact hc1
      obtain ⟨g1, g2, g3⟩ := ih _ rows' h' hp
      refine ⟨by simpa using g1, g2, ?_⟩
      simp only [List.map_cons, fillCells]
      have hfl := flatten_length rows z h
      have hle : i * z + z ≤ rows.length * z := by
        have : (i + 1) * z ≤ rows.length * z := Nat.mul_le_mul_right _ (by omega)
        rw [Nat.add_mul] at this; omega
      rw [if_pos ⟨hc1, by rw [hfl]; exact hle⟩, ← flatten_set rows z h i v.cells hc2]
      exact g3
    · cases hp
section
variable {P : Program} {C : Ctx} {G : Gh} {w : World} {m : Mem}
theorem alloc_ok {t : TypeId} {cells : List PVal} (hz : tyZero P t cells = true) (hm : MR G w m) (hg : Good C G w) (d : Nat) :
    OutOK C G w ((Instr.alloc t true (.tuple #[])).run P w) (.rpt ⟨d, 0, []⟩ 0 0, (d, [.own true cells.length [cells.map .p]]) :: m, .site d) := by
  obtain ⟨z, hz1, hz2, _⟩ := run_tyZero (w := w) hz
  have hr : (Instr.alloc t true (.tuple #[])).run P w = .ok (.pointer (some ⟨w.heap.size, 0, none⟩)) (w.alloc (.cells z.cells t)) := by
    simp [Instr.alloc, hz1, newVar, newRow]
  obtain ⟨k1, k2⟩ := cellsIs_ok (F := G.F) hz2
  obtain ⟨G', s, l, _⟩ := create_ok (w' := w.alloc (.cells z.cells t)) hm hg d rfl rfl rfl rfl true cells.length 1 [cells.map .p] (by omega) (by simp) (by simp [capMax, maxLen]; try omega) (by simp)
    (fun i j a ha => by
      obtain ⟨row, h1, h2⟩ := cellAt_some.1 ha
      cases i with
      | succ i => simp at h1
      | zero =>
        simp at h1
        subst h1
        simp only [List.getElem?_map, Option.map_eq_some_iff] at h2
        obtain ⟨p, hp, rfl⟩ := h2
        have hlt : j < z.cells.size := by rw [k1]; exact (List.getElem?_eq_some_iff.1 hp).1
        obtain ⟨q1, q2⟩ := k2 j p _ hp (Array.getElem?_eq_getElem hlt)
        exact ⟨q2, _, by rw [Nat.zero_mul, Nat.zero_add]; exact Array.getElem?_eq_getElem hlt, .inl ⟨p, rfl, q1⟩⟩)
  refine ⟨_, _, G', hr, .rpt _ _ _ _ fun b o cap z hL => ?_, s⟩
  rw [l] at hL
  cases hL
  simp
theorem box_ok {t : TypeId} (hm : MR G w m) (hg : Good C G w) (d : Nat) {v : AVal} {c : Value} (hv : VR G v c) {out : Out}
    (h : (newRoot m d true v.cells.length [v.cells]).map (fun m' => ((.rpt ⟨d, 0, []⟩ 0 0, m', .site d) : Out)) = some out) : OutOK C G w ((Instr.box t c).run P w) out := by
  simp only [Option.map_eq_some_iff] at h
  obtain ⟨m', hm', rfl⟩ := h
  have hvc := hv.cells
  have hr : (Instr.box t c).run P w = .ok (.pointer (some ⟨w.heap.size, 0, none⟩)) (w.alloc (.cells c.cells t)) := by
    simp [Instr.box, newVar, newRow]
  obtain ⟨G', s, l⟩ := newRoot_ok (w' := w.alloc (.cells c.cells t)) hm hg d rfl rfl rfl rfl true v.cells.length 1 [v.cells] (by rw [hvc.1]; omega) (by simp) (by simp [capMax, maxLen]; try omega) (by simp)
    (fun i j a ha => by
      obtain ⟨row, h1, h2⟩ := cellAt_some.1 ha
      cases i with
      | succ i => simp at h1
      | zero =>
        simp at h1
        subst h1
        have hlt : j < c.cells.size := by rw [hvc.1]; exact (List.getElem?_eq_some_iff.1 h2).1
        exact ⟨_, by rw [Nat.zero_mul, Nat.zero_add]; exact Array.getElem?_eq_getElem hlt, hvc.2 j a _ h2 (Array.getElem?_eq_getElem hlt)⟩) hm'
  refine ⟨_, _, G', hr, .rpt _ _ _ _ fun b o cap z hL => ?_, s⟩
  rw [l] at hL
  cases hL
  simp
/-- The zero cells of a row. -/
theorem zeros_get {ps : List PVal} {zc : Array Value} (h : cellsIs ps zc = true) (n i j : Nat) (hj : j < ps.length) (hi : i * ps.length + j < n) :
    ∃ p c, ps[j]? = some p ∧ ((Array.range n).map (fun k => zc[k % zc.size]!))[i * ps.length + j]? = some c ∧ p.scalar = true ∧ ∀ F, PV F p c := by
  have hs : zc.size = ps.length := (cellsIs_ok (F := ⟨fun _ _ => none, fun _ => none⟩) h).1
  have hmod : (i * ps.length + j) % zc.size = j := by rw [hs, Nat.mul_comm, Nat.mul_add_mod, Nat.mod_eq_of_lt hj]
  refine ⟨ps[j], zc[j]'(by omega), List.getElem?_eq_getElem hj, ?_, ?_, fun F => ?_⟩
  · have hjz : j < zc.size := by omega
    simp [hi, hmod, hjz]
  · exact ((cellsIs_ok (F := ⟨fun _ _ => none, fun _ => none⟩) h).2 j _ _ (List.getElem?_eq_getElem hj) (Array.getElem?_eq_getElem (by omega))).2
  · exact ((cellsIs_ok (F := F) h).2 j _ _ (List.getElem?_eq_getElem hj) (Array.getElem?_eq_getElem (by omega))).1
theorem oBslice_ok {t e : TypeId} {z n : Nat} {zero : List PVal} (ht : P.underlying t = some (.slice e)) (hsz : tySize P e = some z) (hz : tyZero P e zero = true) (hn : n * z ≤ 16777216)
    (hm : MR G w m) (hg : Good C G w) (d : Nat) {ps : List (Nat × Value)} {avs : List (Nat × AVal)} (hl : ps.length = avs.length)
    (hp : ∀ (k i i' : Nat) (c : Value) (v : AVal), ps[k]? = some (i, c) → avs[k]? = some (i', v) → i = i' ∧ VR G v c)
    {out : Out} (h : oBslice d z n zero m avs = some out) : OutOK C G w ((Instr.buildSlice t n ps.toArray).run P w) out := by
  obtain ⟨zv, hz1, hz2, hz3⟩ := run_tyZero (w := w) hz
  unfold oBslice at h
  split at h
  · rename_i rows hrows
    split at h
    · rename_i hc
      obtain ⟨hc1, hc2⟩ := hc
      simp only [Option.map_eq_some_iff] at h
      obtain ⟨m', hm', rfl⟩ := h
      have hrz : ∀ row ∈ List.replicate n (zero.map AVal.p), row.length = z := by
        intro row hr
        rw [(List.mem_replicate.1 hr).2]
        simpa using hc2
      obtain ⟨g1, g2, g3⟩ := putParts_spec avs _ rows hrz hrows
      let z0 : Array Value := if n * z = 0 then #[] else zv.cells
      have hcr : CellsR G (List.replicate n (zero.map AVal.p)).flatten ((Array.range (n * z)).map (fun k => z0[k % z0.size]!)) := by
        have hfl := flatten_length _ z hrz
        simp only [List.length_replicate] at hfl
        refine ⟨by simp [hfl], ?_⟩
        intro k a v ha hv
        have hk : k < n * z := by have := (List.getElem?_eq_some_iff.1 ha).1; omega
        have hzp : 0 < z := by
          rcases Nat.eq_zero_or_pos z with h | h
          · rw [h] at hk; simp at hk
          · exact h
        have hdm := Nat.div_add_mod k z
        have hj := Nat.mod_lt k hzp
        have hk' : k / z * z + k % z = k := by rw [Nat.mul_comm]; exact hdm
        rw [← hk', flatten_get _ z hrz _ _ hj] at ha
        obtain ⟨row, h1, h2⟩ := cellAt_some.1 ha
        have hrow : row = zero.map .p := by rw [(List.mem_replicate.1 (List.mem_of_getElem? h1)).2]
        subst hrow
        simp only [List.getElem?_map, Option.map_eq_some_iff] at h2
        obtain ⟨p, hpp, rfl⟩ := h2
        obtain ⟨p', c, q1, q2, _, q4⟩ := zeros_get hz2 (n * z) (k / z) (k % z) (by omega) (by rw [hc2, hk']; exact hk)
        rw [hpp] at q1; cases q1
        rw [hc2, hk'] at q2
        have hz0' : z0 = zv.cells := by simp only [z0]; rw [if_neg (by omega)]
        rw [hz0', q2] at hv
        cases hv
        exact .p (q4 _)
      obtain ⟨cv, hcv, hr⟩ := fill_ok' (G := G) (place := fun i => some (i * z, z)) ps (avs.map fun x => (x.1 * z, z, x.2)) (by simpa using hl)
        (fun k i c off n' v a b => by
          simp only [List.getElem?_map, Option.map_eq_some_iff] at b
          obtain ⟨⟨i', v'⟩, hb, he⟩ := b
          obtain ⟨rfl, hvr⟩ := hp k i i' c v' a hb
          cases he
          exact ⟨rfl, hvr⟩) _ _ _ hcr g3
      have hrun : (Instr.buildSlice t n ps.toArray).run P w = .ok (.slice (some ⟨w.heap.size, 0, none⟩) n n) (w.alloc (.cells cv e)) := by
        have hnot : ¬ (n * z > 2 ^ 24) := by omega
        simp only [Instr.buildSlice, underlying, Sem.run_bind, run_program, Result.andThen_ok, ht, Sem.run_pure, run_tySize hsz, hnot, if_false]
        by_cases hq : n * z = 0
        · rw [if_pos hq]
          simp only [z0, hq, if_true] at hcv
          simp only [Sem.run_bind, Sem.run_pure, Result.andThen_ok, hq, hcv]
          simp [newRow]
        · rw [if_neg hq]
          simp only [z0, hq, if_false] at hcv
          simp only [Sem.run_bind, Sem.run_pure, Result.andThen_ok, hz1, hcv]
          simp [newRow]
      have hnl : rows.length = n := by simpa using g1
      obtain ⟨G', s, l⟩ := newRoot_ok (w' := w.alloc (.cells cv e)) hm hg d rfl rfl rfl rfl false z n rows (by rw [hr.1, flatten_length rows z g2, hnl]; omega) (by omega) (by simp [capMax, maxLen]; try omega) g2
        (fun i j a ha => by
          have hlt := cellAt_lt g2 ha
          rw [← flatten_get rows z g2 i j hlt.2] at ha
          have hlt2 : i * z + j < cv.size := by rw [hr.1]; exact (List.getElem?_eq_some_iff.1 ha).1
          exact ⟨_, Array.getElem?_eq_getElem hlt2, hr.2 _ a _ ha (Array.getElem?_eq_getElem hlt2)⟩) hm'
      refine ⟨_, _, G', hrun, .rsl _ _ _ _ _ fun b o cap z' hL => ?_, s⟩
      rw [l] at hL
      cases hL
      exact ⟨by omega, rfl, fun _ => by simp⟩
    · cases h
  · cases h
theorem wrap64_small {n : Int} (h0 : 0 ≤ n) (h1 : n ≤ 9223372036854775807) : IntKind.i64.wrap n = n := IntWalk.i64_in _ (by omega)
theorem oMkslice_ok {t e : TypeId} {z bytes : Nat} {zero : List PVal} (ht : P.underlying t = some (.slice e)) (hsz : tySize P e = some z) (hz : tyZero P e zero = true) (hby : (P.info? e).map (·.bytes) = some bytes)
    (hm : MR G w m) (hg : Good C G w) (d : Nat) {x y : AVal} {c c' : Value} (hx : VR G x c) (hy : VR G y c') {out : Out} (h : oMkslice d z bytes zero m x y = some out) :
    OutOK C G w ((Instr.makeSlice t c c').run P w) out := by
  obtain ⟨zv, hz1, hz2, hz3⟩ := run_tyZero (w := w) hz
  unfold oMkslice at h
  split at h
  · rename_i l k hl hk
    obtain ⟨k1, rfl⟩ := asIntOf_of hx hl
    obtain ⟨k2, rfl⟩ := asIntOf_of hy hk
    split at h
    · rename_i hc
      obtain ⟨h0, h1, h2, h3, h4, h5⟩ := hc
      cases h
      obtain ⟨ie, hie, hib⟩ : ∃ ie, P.info? e = some ie ∧ ie.bytes = bytes := by
        cases hi : P.info? e with
        | none => simp [hi] at hby
        | some ie => simp [hi] at hby; exact ⟨ie, rfl, hby⟩
      have hti : (typeInfo e).run P w = .ok ie w := by simp [typeInfo, hie]
      have w1 : IntKind.i64.wrap l = l := wrap64_small h0 (by omega)
      have w2 : IntKind.i64.wrap k = k := wrap64_small (by omega) h3
      have hb0 : (0 : Int) ≤ bytes * k := Int.mul_nonneg (by omega) (by omega)
      have hlarge : ¬ ((decide (k < 0) || decide ((bytes : Int) * k > 2 ^ 48)) = true) := by
        rw [Int.mul_comm] at h2
        simp only [Bool.or_eq_true, decide_eq_true_eq, not_or]
        omega
      let n := k.toNat * z
      let z0 : Array Value := if n = 0 then #[] else zv.cells
      have hrun : (Instr.makeSlice t (.int k1 l) (.int k2 k)).run P w =
          .ok (.slice (some ⟨w.heap.size, 0, none⟩) l.toNat k.toNat) (w.alloc (.cells ((Array.range n).map (fun q => z0[q % z0.size]!)) e)) := by
        have hcond : ¬ (((decide (k < 0) || decide ((bytes : Int) * k > 2 ^ 48)) = true ∨ l < 0) ∨ l > k) := by
          intro hh
          rcases hh with (hh | hh) | hh
          · exact hlarge hh
          · omega
          · omega
        simp only [Instr.makeSlice, underlying, Sem.run_bind, run_program, Result.andThen_ok, ht, Sem.run_pure, asInt, asIntOf, hti, hib, w1, w2]
        simp only [Bool.or_eq_true, decide_eq_true_eq] at hcond ⊢
        rw [if_neg (by simpa using hcond)]
        simp only [Sem.run_bind, run_askRoom, Result.andThen_ok, run_tySize hsz]
        by_cases hq : k.toNat * z = 0
        · rw [if_pos hq]; simp [newRow, n, hq, show Array.range 0 = #[] from rfl]
        · rw [if_neg hq]; simp [newRow, n, z0, hq, hz1]
      have hzl : zero.length = z := h4
      obtain ⟨G', s, lc, _⟩ := create_ok (w' := w.alloc (.cells ((Array.range n).map (fun q => z0[q % z0.size]!)) e)) hm hg d rfl rfl rfl rfl false z k.toNat (List.replicate l.toNat (zero.map .p))
        (by simp [n]) (by simp; omega) (by simp [capMax, maxLen]; try omega)
        (by intro row hr; rw [(List.mem_replicate.1 hr).2]; simpa using hzl)
        (fun i j a ha => by
          obtain ⟨row, g1, g2⟩ := cellAt_some.1 ha
          have hi : i < l.toNat := by have := (List.getElem?_eq_some_iff.1 g1).1; simpa using this
          have hrow : row = zero.map .p := by rw [(List.mem_replicate.1 (List.mem_of_getElem? g1)).2]
          subst hrow
          simp only [List.getElem?_map, Option.map_eq_some_iff] at g2
          obtain ⟨p, hpp, rfl⟩ := g2
          have hj : j < zero.length := (List.getElem?_eq_some_iff.1 hpp).1
          have hlt : i * z + j < n := by
            have : (i + 1) * z ≤ k.toNat * z := Nat.mul_le_mul_right _ (by omega)
            rw [Nat.add_mul] at this
            simp only [n]; omega
          obtain ⟨p', c, q1, q2, q3, q4⟩ := zeros_get hz2 n i j hj (by rw [hzl]; exact hlt)
          rw [hpp] at q1; cases q1
          have hz0' : z0 = zv.cells := by simp only [z0]; rw [if_neg (by omega)]
          rw [hzl] at q2
          exact ⟨q3, c, by rw [hz0']; exact q2, .inl ⟨p, rfl, q4 _⟩⟩)
      refine ⟨_, _, G', hrun, .rsl _ _ _ _ _ fun b o cap z' hL => ?_, s⟩
      rw [lc] at hL
      cases hL
      exact ⟨by omega, rfl, fun _ => by simp⟩
    · cases h
  · cases h
end
end Go.Proofs.Ytnmnijgoggombaa.X
/- The operations are sound, part G: append, copy, clear, slices of slices. -/
namespace Go.Proofs.Ytnmnijgoggombaa.X
open Go.RowKit
theorem allPs_spec {l : List (List AVal)} {ps : List (List PVal)} (h : allPs l = some ps) : l = liftRows ps := by
  induction l generalizing ps with
  | nil => simp [allPs] at h; subst h; rfl
  | cons r l ih =>
    simp only [allPs] at h
    cases hr : allP r with
    | none => simp [hr] at h
    | some x =>
      cases hl : allPs l with
      | none => simp [hr, hl] at h
      | some xs =>
        simp [hr, hl] at h
        subst h
        rw [allP_spec hr, ih hl]
        rfl
theorem cellAt_lift {rows : List (List PVal)} {i j : Nat} {a : AVal} (h : cellAt (liftRows rows) i j = some a) : ∃ row p, rows[i]? = some row ∧ row[j]? = some p ∧ a = .p p := by
  obtain ⟨row, h1, h2⟩ := cellAt_some.1 h
  simp only [liftRows, List.getElem?_map, Option.map_eq_some_iff] at h1
  obtain ⟨r, hr, rfl⟩ := h1
  simp only [List.getElem?_map, Option.map_eq_some_iff] at h2
  obtain ⟨p, hp, rfl⟩ := h2
  exact ⟨r, p, hr, hp, rfl⟩
/-- The cells of a slice's value in memory. -/
structure Src (G : Gh) (w : World) (z : Nat) (c : Value) (rows : List (List AVal)) (vac : Option Place) (val : Nat → Value) : Prop where
  shape : (c = .slice none 0 0 ∧ rows = []) ∨ ∃ ad k, c = .slice (some ad) rows.length k ∧ ∀ q, q < rows.length * z → w.cell? (ad.add q) = some (val q)
  len : ∀ row ∈ rows, row.length = z
  cell : ∀ i j a, cellAt rows i j = some a → a.scalar = true ∧ (val (i * z + j)).oneCell' = true ∧
    ((∃ x, a = .p x ∧ PV G.F x (val (i * z + j))) ∨ ∃ q, vac = some q ∧ Held G w (q.ext i j) a ∧ G.cv (q.ext i j) = val (i * z + j))
theorem divmod (z q : Nat) : q / z * z + q % z = q := by rw [Nat.mul_comm]; exact Nat.div_add_mod q z
section
variable {P : Program} {C : Ctx} {G : Gh} {w : World} {m : Mem}
theorem rowsOf_src (hm : MR G w m) (hg : Good C G w) {z : Nat} {x : AVal} {c : Value} (hx : VR G x c) {prs : List (List PVal)} (h : rowsOf m x = some prs) (hz : zOK z prs = true) :
    ∃ val, Src G w z c (liftRows prs) none val := by
  have hzr : ∀ row ∈ prs, row.length = z := fun row hr => by simpa using List.all_eq_true.1 hz row hr
  have hlen : ∀ row ∈ liftRows prs, row.length = z := by
    intro row hr
    simp only [liftRows, List.mem_map] at hr
    obtain ⟨r, hr, rfl⟩ := hr
    simpa using hzr r hr
  unfold rowsOf at h
  split at h
  · cases h
    have hp := hx.out; cases hp
    exact ⟨fun _ => undef, .inl ⟨rfl, rfl⟩, hlen, fun i j a ha => by simp [liftRows, cellAt] at ha⟩
  · cases h
    have hp := hx.out
    cases hp with
    | sl _ b o cap z' f hcap hz' hc hpv =>
      have hzz : prs ≠ [] → z' = z := by
        intro hne
        obtain ⟨row, hrow⟩ := List.exists_mem_of_ne_nil _ hne
        rw [← hz' row hrow, hzr row hrow]
      refine ⟨fun q => f (q / z) (q % z), .inr ⟨⟨b, o, none⟩, cap, by simp [liftRows], ?_⟩, hlen, ?_⟩
      · intro q hq
        simp only [liftRows, List.length_map] at hq
        have hzp : 0 < z := by rcases Nat.eq_zero_or_pos z with h | h; (rw [h] at hq; simp at hq); exact h
        have hi : q / z < prs.length := (Nat.div_lt_iff_lt_mul hzp).2 hq
        have hrow := List.getElem?_eq_getElem hi
        have hl := hzr _ (List.mem_of_getElem? hrow)
        have hj : q % z < prs[q / z].length := by rw [hl]; exact Nat.mod_lt _ hzp
        have := hg.fz _ _ _ (hc (q / z) (q % z) _ _ hrow (List.getElem?_eq_getElem hj)).2
        rw [hzz (by intro e; rw [e] at hi; simp at hi)] at this
        rw [Nat.add_assoc, divmod z q] at this
        rw [Addr.add_none]
        exact this
      · intro i j a ha
        obtain ⟨row, p, h1, h2, rfl⟩ := cellAt_lift ha
        have hl := hzr row (List.mem_of_getElem? h1)
        have hj : j < z := by have := (List.getElem?_eq_some_iff.1 h2).1; omega
        have e1 : (i * z + j) / z = i := by rw [Nat.mul_comm, Nat.mul_add_div (by omega), Nat.div_eq_of_lt hj]; rfl
        have e2 : (i * z + j) % z = j := by rw [Nat.mul_comm, Nat.mul_add_mod, Nat.mod_eq_of_lt hj]
        have hs := (hc i j row p h1 h2).1
        refine ⟨hs, ?_, .inl ⟨p, rfl, ?_⟩⟩
        · rw [e1, e2]; exact (hpv i j row p h1 h2).oneCell hs
        · rw [e1, e2]; exact hpv i j row p h1 h2
    | sl0 ad => exact ⟨fun _ => undef, .inr ⟨ad, 0, by simp [liftRows], fun q hq => by simp [liftRows] at hq⟩, hlen, fun i j a ha => by simp [liftRows, cellAt] at ha⟩
  · rename_i pl off len
    split at h
    · rename_i z' rows hget
      split at h
      · rename_i hle
        have hl := allPs_spec h
        obtain ⟨b, o, cap, cs, ty, g1, g2, g3, g4, g5, g6, g7, g8⟩ := hm pl _ hget
        have hlen' : prs.length = len := by
          have := congrArg List.length hl
          simp [liftRows] at this
          omega
        have hrow : ∀ i j a, cellAt (liftRows prs) i j = some a → cellAt rows (off + i) j = some a := by
          intro i j a ha
          rw [← hl] at ha
          obtain ⟨row, h1, h2⟩ := cellAt_some.1 ha
          rw [List.getElem?_take] at h1
          split at h1
          · exact cellAt_some.2 ⟨row, by simpa using h1, h2⟩
          · cases h1
        have hzz : prs ≠ [] → z' = z := by
          intro hne
          have h0 : 0 < prs.length := List.length_pos_iff.2 hne
          have hr0 : (liftRows prs)[0]? = some ((prs[0]).map .p) := by simp [liftRows, h0]
          rw [← hl, List.getElem?_take, if_pos (by omega)] at hr0
          simp only [List.getElem?_drop, Nat.add_zero] at hr0
          have := g7 _ (List.mem_of_getElem? hr0)
          rw [← this, List.length_map]
          exact hzr _ (List.getElem_mem h0)
        cases hx with
        | rsl _ _ _ ad k hxx =>
          obtain ⟨q1, q2, q3⟩ := hxx _ _ _ _ g1
          refine ⟨fun q => G.cv (pl.ext (off + q / z) (q % z)), .inr ⟨ad, k, by simp [liftRows, hlen'], ?_⟩, hlen, ?_⟩
          · intro q hq
            simp only [liftRows, List.length_map] at hq
            have hzp : 0 < z := by rcases Nat.eq_zero_or_pos z with h | h; (rw [h] at hq; simp at hq); exact h
            have hi : q / z < prs.length := (Nat.div_lt_iff_lt_mul hzp).2 hq
            have hz0 := hzz (by intro e; rw [e] at hi; simp at hi)
            have hrow0 := List.getElem?_eq_getElem hi
            have hl0 := hzr _ (List.mem_of_getElem? hrow0)
            have hj : q % z < prs[q / z].length := by rw [hl0]; exact Nat.mod_lt _ hzp
            have hc0 : cellAt (liftRows prs) (q / z) (q % z) = some (.p (prs[q / z][q % z])) := cellAt_some.2 ⟨_, by simp [liftRows, hi]; rfl, by simp [hj]⟩
            have := (g8 _ _ _ (hrow _ _ _ hc0)).2
            have hpos : 0 < prs.length := Nat.lt_of_le_of_lt (Nat.zero_le _) hi
            have had := q3 (.inl (by rw [hlen'] at hpos; exact Nat.lt_of_lt_of_le (Nat.lt_add_of_pos_right hpos) q1))
            subst had
            rw [Addr.add_none]
            have e : o + off * z' + q = o + (off + q / z) * z' + q % z := by rw [hz0, Nat.add_mul]; have := divmod z q; omega
            rw [e]
            simp [World.cell?, g3, this]
          · intro i j a ha
            have hc := hrow i j a ha
            obtain ⟨row, p, h1, h2, rfl⟩ := cellAt_lift ha
            have hl0 := hzr row (List.mem_of_getElem? h1)
            have hj : j < z := by have := (List.getElem?_eq_some_iff.1 h2).1; omega
            have e1 : (i * z + j) / z = i := by rw [Nat.mul_comm, Nat.mul_add_div (by omega), Nat.div_eq_of_lt hj]; rfl
            have e2 : (i * z + j) % z = j := by rw [Nat.mul_comm, Nat.mul_add_mod, Nat.mod_eq_of_lt hj]
            have hpv : PV G.F p (G.cv (pl.ext (off + i) j)) := hm _ (.p p) (by rw [getAt_ext hget]; exact hc)
            have hs : p.scalar = true := (g8 _ _ _ hc).1
            refine ⟨hs, ?_, .inl ⟨p, rfl, ?_⟩⟩
            · rw [e1, e2]; exact hpv.oneCell hs
            · rw [e1, e2]; exact hpv
      · cases h
    · cases h
  · cases h
theorem appNew_src (hm : MR G w m) (hg : Good C G w) {z : Nat} {x : AVal} {c : Value} (hx : VR G x c) {news : List (List AVal)} {vac : Option Place} (h : appNew z m x = some (news, vac)) :
    ∃ val, Src G w z c news vac val ∧ ∀ q, vac = some q → ∃ p z rows, getAt m q = some (.own p z rows) := by
  unfold appNew at h
  split at h
  · rename_i prs hprs
    split at h
    · rename_i hz
      cases h
      obtain ⟨val, hs⟩ := rowsOf_src hm hg hx hprs hz
      exact ⟨val, hs, fun q h => by cases h⟩
    · cases h
  · split at h
    · rename_i q len _
      split at h
      · rename_i z' rows hget
        split at h
        · rename_i hc
          obtain ⟨rfl, rfl, halive⟩ := hc
          simp only [Option.some.injEq, Prod.mk.injEq] at h
          obtain ⟨rfl, rfl⟩ := h
          obtain ⟨b, o, cap, cs, ty, g1, g2, g3, g4, g5, g6, g7, g8⟩ := hm q _ hget
          cases hx with
          | rsl _ _ _ ad k hxx =>
            obtain ⟨q1, q2, q3⟩ := hxx _ _ _ _ g1
            have had := q3 (.inr rfl)
            simp only [Nat.zero_mul, Nat.add_zero] at had
            subst had
            refine ⟨fun n => G.cv (q.ext (n / z') (n % z')), ⟨.inr ⟨_, k, rfl, ?_⟩, g7, ?_⟩, fun q' e => by cases e; exact ⟨_, _, _, hget⟩⟩
            · intro n hn
              have hzp : 0 < z' := by rcases Nat.eq_zero_or_pos z' with h | h; (rw [h] at hn; simp at hn); exact h
              have hi : n / z' < rows.length := (Nat.div_lt_iff_lt_mul hzp).2 hn
              have hl0 := g7 _ (List.getElem_mem hi)
              have hj : n % z' < rows[n / z'].length := by rw [hl0]; exact Nat.mod_lt _ hzp
              have := (g8 _ _ _ (cellAt_some.2 ⟨_, List.getElem?_eq_getElem hi, List.getElem?_eq_getElem hj⟩)).2
              rw [Addr.add_none]
              have e : o + n = o + n / z' * z' + n % z' := by have := divmod z' n; omega
              rw [e]
              simp [World.cell?, g3, this]
            · intro i j a ha
              have hlt := cellAt_lt g7 ha
              have e1 : (i * z' + j) / z' = i := by rw [Nat.mul_comm, Nat.mul_add_div (by omega), Nat.div_eq_of_lt hlt.2]; rfl
              have e2 : (i * z' + j) % z' = j := by rw [Nat.mul_comm, Nat.mul_add_mod, Nat.mod_eq_of_lt hlt.2]
              have hs := (g8 i j a ha).1
              have hget' : getAt m (q.ext i j) = some a := by rw [getAt_ext hget]; exact ha
              have hal : a.alive = true := by
                obtain ⟨row, h1, h2⟩ := cellAt_some.1 ha
                exact List.all_eq_true.1 (List.all_eq_true.1 halive row (List.mem_of_getElem? h1)) a (List.mem_of_getElem? h2)
              refine ⟨hs, ?_, .inr ⟨q, rfl, hm.held hget', by rw [e1, e2]⟩⟩
              rw [e1, e2]
              by_cases hp : a.isP = true
              · cases a with
                | p x => exact PV.oneCell (hm _ _ hget') hs
                | _ => simp [AVal.isP] at hp
              · exact (hm _ _ hget').oneCell (by simpa using hp) (by rintro rfl; simp [AVal.alive] at hal)
        · cases h
      · cases h
    · cases h
/-- An append with room, wherever the slice begins. -/
theorem run_append_fit (w : World) (t ty e : TypeId) (i : TypeInfo) (ht : P.underlying t = some (.slice e)) (hi : P.info? e = some i)
    (g o sLen sCap : Nat) (cur : Array Value) (ety : TypeId) (hg : w.heap[g]? = some (.cells cur ety (0, 0))) (c : Value) (n : Nat) (news : List Value)
    (hlen : (Builtin.lenOf c).run P w = .ok n w) (hnews : (Builtin.firstCells i.size n c).run P w = .ok news.toArray w) (h1 : ∀ u ∈ news, u.oneCell' = true)
    (hroom : sLen + n ≤ sCap) (hfit : o + sLen * i.size + news.length ≤ cur.size) :
    (Builtin.append_ #[t, t] ty #[.slice (some ⟨g, o, none⟩) sLen sCap, c]).run P w =
      .ok (.slice (some ⟨g, o, none⟩) (sLen + n) sCap) (w.setRow g (cur.toList.take (o + sLen * i.size) ++ news ++ cur.toList.drop (o + sLen * i.size + news.length)).toArray) := by
  have hst := run_storeCells_at P g (o + sLen * i.size) ety news 0 cur w hg (by simpa using hfit) h1
  simp only [Nat.add_zero] at hst
  simp [Builtin.append_, run_underlying ht, sizeOf, typeInfo, hi, hlen, hroom, hnews, Addr.add_none, hst]
theorem Src.len_run {z : Nat} {c : Value} {rows : List (List AVal)} {vac : Option Place} {val : Nat → Value} (h : Src G w z c rows vac val) (w' : World) :
    (Builtin.lenOf c).run P w' = .ok rows.length w' := by
  rcases h.shape with ⟨rfl, rfl⟩ | ⟨ad, k, rfl, _⟩ <;> simp [Builtin.lenOf]
def Src.list (val : Nat → Value) (n : Nat) : List Value := (List.range n).map val
theorem Src.first_run {z : Nat} {c : Value} {rows : List (List AVal)} {vac : Option Place} {val : Nat → Value} (h : Src G w z c rows vac val) (n : Nat) (hn : n ≤ rows.length) :
    (Builtin.firstCells z n c).run P w = .ok (Src.list val (n * z)).toArray w := by
  rcases h.shape with ⟨rfl, rfl⟩ | ⟨ad, k, rfl, hc⟩
  · simp at hn
    subst hn
    simp [Builtin.firstCells, Src.list]
  · refine run_firstCells_some (P := P) w z n ad _ _ _ (by simp [Src.list]) ?_
    intro j v hv
    simp only [Src.list, List.getElem?_map, Option.map_eq_some_iff] at hv
    obtain ⟨q, hq, rfl⟩ := hv
    have hlt : j < n * z := by
      have := (List.getElem?_eq_some_iff.1 hq).1
      simpa using this
    have : q = j := by
      have h2 := hq
      rw [List.getElem?_range hlt] at h2
      exact (Option.some.inj h2).symm
    subst this
    exact hc q (Nat.lt_of_lt_of_le hlt (Nat.mul_le_mul_right _ hn))
theorem Src.get {val : Nat → Value} {n q : Nat} (h : q < n) : (Src.list val n)[q]? = some (val q) := by
  simp [Src.list, h]
theorem drew_alloc_old (w : World) (o : Obj) (i : Nat) (h : i < w.heap.size) : (w.drew.alloc o).heap[i]? = w.heap[i]? := by
  show (w.heap.push o)[i]? = w.heap[i]?
  rw [Array.getElem?_push, if_neg (Nat.ne_of_lt h)]
theorem gone_vacate {old : AVal} {pl : Place} (h : getAt m pl = some old) : Gone (setAt m pl .dead) pl := fun _ _ hq hx => getAt_dead h hq hx
theorem oAppend_ok {t ty e : TypeId} {z bytes : Nat} {zero : List PVal} (ht : P.underlying t = some (.slice e)) (hsz : tySize P e = some z) (hz : tyZero P e zero = true) (hzl : zero.length = z) (hby : (P.info? e).map (·.bytes) = some bytes)
    (hm : MR G w m) (hg : Good C G w) (d : Nat) {s x : AVal} {cs cx : Value} (hs : VR G s cs) (hx : VR G x cx) {out : Out} (h : oAppend d z bytes m s x = some out) :
    OutOK C G w ((Builtin.append_ #[t, t] ty #[cs, cx]).run P w) out := by
  obtain ⟨zv, hz1, hz2, hz3⟩ := run_tyZero (w := w) hz
  obtain ⟨ie, hie, hib, his, hiz⟩ : ∃ ie, P.info? e = some ie ∧ ie.bytes = bytes ∧ ie.size = z ∧ ie.zero = some zv := by
    cases hi : P.info? e with
    | none => simp [hi] at hby
    | some ie =>
      refine ⟨ie, rfl, by simpa [hi] using hby, by simpa [tySize, hi] using hsz, by simpa [hi] using hz3⟩
  have hzvs : zv.cells.size = z := by rw [(cellsIs_ok (F := G.F) hz2).1, hzl]
  unfold oAppend at h
  split at h
  · rename_i olds vac off news vac' hold hnew
    split at h
    · rename_i hc
      obtain ⟨hc1, hc2, hc3, hc4, hc5, hc6⟩ := hc
      obtain ⟨val, hsrc, hvq⟩ := appNew_src hm hg hx hnew
      have hnl : (Src.list val (news.length * z)).length = news.length * z := by simp [Src.list]
      -- what the slice that is appended to is
      have hO : (s = .p .nilslice ∧ cs = .slice none 0 0 ∧ olds = [] ∧ vac = none ∧ off = 0) ∨
          ∃ pl rows ad k b o cap ocs oty, vac = some pl ∧ getAt m pl = some (.own false z rows) ∧ olds = rows.drop off ∧ off ≤ rows.length ∧ cs = .slice (some ad) olds.length k ∧
            G.loc pl = some ⟨b, o, cap, z⟩ ∧ k = cap - off ∧ off + olds.length ≤ cap ∧ (off < cap ∨ off = 0 → ad = ⟨b, o + off * z, none⟩) ∧
            w.heap[b]? = some (.cells ocs oty (0, 0)) ∧ o + cap * z ≤ ocs.size ∧ cap ≤ maxLen ∧ (∀ row ∈ rows, row.length = z) ∧
            (∀ i j a, cellAt rows i j = some a → a.scalar = true ∧ ocs[o + i * z + j]? = some (G.cv (pl.ext i j))) := by
        unfold appOld at hold
        split at hold
        · cases hold
          have hp := hs.out; cases hp
          exact .inl ⟨rfl, rfl, rfl, rfl, rfl⟩
        · rename_i pl off' len
          split at hold
          · rename_i z' rows hget
            split at hold
            · rename_i hcc
              obtain ⟨rfl, hl⟩ := hcc
              simp only [Option.some.injEq, Prod.mk.injEq] at hold
              obtain ⟨rfl, rfl, rfl⟩ := hold
              obtain ⟨b, o, cap, ocs, oty, g1, g2, g3, g4, g5, g6, g7, g8⟩ := hm pl _ hget
              cases hs with
              | rsl _ _ _ ad k hxx =>
                obtain ⟨q1, q2, q3⟩ := hxx _ _ _ _ g1
                have hle : (rows.drop off').length = len := by rw [List.length_drop]; omega
                exact .inr ⟨pl, rows, ad, k, b, o, cap, ocs, oty, rfl, hget, rfl, by omega, by rw [hle], g1, q2, by rw [hle]; exact q1, q3, g3, g4, g6, g7, g8⟩
            · cases hold
          · cases hold
        · cases hold
      have hrowz : ∀ row ∈ olds ++ news, row.length = z := by
        intro row hr
        rcases List.mem_append.1 hr with hr | hr
        · rcases hO with ⟨_, _, rfl, _⟩ | ⟨pl, rows, ad, k, b, o, cap, ocs, oty, _, _, rfl, _, _, _, _, _, _, _, _, _, g7, _⟩
          · simp at hr
          · exact g7 row (List.mem_of_mem_drop hr)
        · exact hsrc.len row hr
      have hcat : ∀ i j a, cellAt (olds ++ news) i j = some a → (i < olds.length ∧ cellAt olds i j = some a) ∨ (olds.length ≤ i ∧ cellAt news (i - olds.length) j = some a) := by
        intro i j a ha
        obtain ⟨row, h1, h2⟩ := cellAt_some.1 ha
        rw [List.getElem?_append] at h1
        split at h1
        · exact .inl ⟨by assumption, cellAt_some.2 ⟨row, h1, h2⟩⟩
        · exact .inr ⟨by omega, cellAt_some.2 ⟨row, h1, h2⟩⟩
      -- the memory behind the two that are vacated
      have hold_get : ∀ pl, vac = some pl → ∃ rows, getAt m pl = some (.own false z rows) ∧ olds = rows.drop off := by
        intro pl hpl
        rcases hO with ⟨_, _, _, rfl, _⟩ | ⟨pl', rows, ad, k, b, o, cap, ocs, oty, rfl, hget, rfl, _⟩
        · cases hpl
        · cases hpl; exact ⟨rows, hget, rfl⟩
      let vs : List Place := vac.toList ++ vac'.toList
      have hm2 : MR G w (vacateO (vacateO m vac) vac') ∧ ∀ v ∈ vs, Gone (vacateO (vacateO m vac) vac') v := by
        cases hv : vac with
        | none =>
          cases hv' : vac' with
          | none => exact ⟨by simpa [vacateO] using hm, by simp [vs, hv, hv']⟩
          | some q =>
            obtain ⟨p', z', rows', hq⟩ := hvq q hv'
            obtain ⟨k1, k2⟩ := vacate hm hq
            exact ⟨by simpa [vacateO] using k1, by simpa [vs, hv, hv', vacateO] using k2⟩
        | some pl =>
          obtain ⟨rows, hget, _⟩ := hold_get pl hv
          obtain ⟨k1, k2⟩ := vacate hm hget
          cases hv' : vac' with
          | none => exact ⟨by simpa [vacateO] using k1, by simpa [vs, hv, hv', vacateO] using k2⟩
          | some q =>
            obtain ⟨p', z', rows', hq⟩ := hvq q hv'
            have hne : pl.s ≠ q.s := by simpa [apart, hv, hv'] using hc3
            have hq' : getAt (setAt m pl .dead) q = some (.own p' z' rows') := by rw [getAt_set_other (fun e => hne e.symm)]; exact hq
            obtain ⟨k3, k4⟩ := vacate k1 hq'
            refine ⟨by simpa [vacateO] using k3, ?_⟩
            intro v hvm
            simp only [vs, hv, hv', Option.toList_some, List.cons_append, List.nil_append, List.mem_cons, List.not_mem_nil, or_false] at hvm
            rcases hvm with rfl | rfl
            · simpa [vacateO] using k2.set (fun e => hne e.symm) .dead
            · simpa [vacateO] using k4
      have hvsd : ∀ v ∈ vs, v.s ≠ d := by
        intro v hvm
        simp only [vs, List.mem_append, Option.mem_toList] at hvm
        rcases hvm with hv | hv
        · rw [hv] at hc4; simpa [notSite] using hc4
        · rw [hv] at hc5; simpa [notSite] using hc5
      -- where the cells come from
      let src : Nat → Nat → Option Place := fun i j => if i < olds.length then vac.map (fun pl => pl.ext (i + off) j) else vac'.map (fun q => q.ext (i - olds.length) j)
      have hsrc_under : ∀ i j sp, src i j = some sp → (∃ v ∈ vs, v.under sp) ∧ ∀ v ∈ vs, ¬ sp.under v := by
        intro i j sp hsp
        have hboth : ∀ (v0 : Place) (i0 : Nat), v0 ∈ vs → sp = v0.ext i0 j → (∀ v ∈ vs, v = v0 ∨ v.s ≠ v0.s) → (∃ v ∈ vs, v.under sp) ∧ ∀ v ∈ vs, ¬ sp.under v := by
          rintro v0 i0 hv0 rfl hall
          refine ⟨⟨v0, hv0, [(i0, j)], rfl⟩, fun v hv hu => ?_⟩
          rcases hall v hv with rfl | hne
          · exact Place.not_ext_under _ _ _ hu
          · exact hne (Place.under_s (pl := v0.ext i0 j) hu)
        have hall : ∀ v0 ∈ vs, ∀ v ∈ vs, v = v0 ∨ v.s ≠ v0.s := by
          intro v0 hv0 v hv
          simp only [vs, List.mem_append, Option.mem_toList] at hv0 hv
          rcases hv0 with h0 | h0 <;> rcases hv with h1 | h1
          · rw [h0] at h1; exact .inl (Option.some.inj h1).symm
          · rw [h0, h1] at hc3; exact .inr (fun e => by simp [apart, e] at hc3)
          · rw [h0, h1] at hc3; exact .inr (fun e => by simp [apart, e] at hc3)
          · rw [h0] at h1; exact .inl (Option.some.inj h1).symm
        simp only [src] at hsp
        split at hsp
        · simp only [Option.map_eq_some_iff] at hsp
          obtain ⟨pl, hpl, rfl⟩ := hsp
          have : pl ∈ vs := by simp [vs, hpl]
          exact hboth pl _ this rfl (hall pl this)
        · simp only [Option.map_eq_some_iff] at hsp
          obtain ⟨q, hq, rfl⟩ := hsp
          have : q ∈ vs := by simp [vs, hq]
          exact hboth q _ this rfl (hall q this)
      have hsrc_inj : ∀ i j i' j' sp sp' r r', src i j = some sp → src i' j' = some sp' → sp.app r = sp'.app r' → i = i' ∧ j = j' := by
        intro i j i' j' sp sp' r r' h1 h2 he
        have hs' : sp.s = sp'.s := (congrArg Place.s he : (sp.app r).s = (sp'.app r').s)
        have hp' : sp.path ++ r = sp'.path ++ r' := (congrArg Place.path he : (sp.app r).path = (sp'.app r').path)
        simp only [src] at h1 h2
        split at h1 <;> split at h2 <;> simp only [Option.map_eq_some_iff] at h1 h2 <;> obtain ⟨p1, e1, rfl⟩ := h1 <;> obtain ⟨p2, e2, rfl⟩ := h2
        · rw [e1] at e2; cases e2
          simp [Place.ext] at hp'
          omega
        · rw [e1, e2] at hc3; simp [apart, Place.ext] at hc3 hs'; exact absurd hs' hc3
        · rw [e1, e2] at hc3; simp [apart, Place.ext] at hc3 hs'; exact absurd hs'.symm hc3
        · rw [e1] at e2; cases e2
          simp [Place.ext] at hp'
          omega
      -- the finish, over the block that the result lies in
      have finish : ∀ (w' : World) (b o cap : Nat) (bcs : Array Value) (bty : TypeId), w'.heap[b]? = some (.cells bcs bty (0, 0)) → (∀ k, k < w.heap.size → k ≠ b → w'.heap[k]? = w.heap[k]?) → w.heap.size ≤ w'.heap.size →
          w'.os = w.os → w'.tape = w.tape → w'.output = w.output → (w.heap.size ≤ b ∨ ∃ v ∈ vs, ∃ L, G.loc v = some L ∧ L.b = b) → o + cap * z ≤ bcs.size → olds.length + news.length ≤ cap → cap ≤ maxLen →
          (∀ i j, i < olds.length → j < z → ∀ pl, vac = some pl → bcs[o + i * z + j]? = some (G.cv (pl.ext (i + off) j))) →
          (∀ q, q < news.length * z → bcs[o + olds.length * z + q]? = some (val q)) →
          (Builtin.append_ #[t, t] ty #[cs, cx]).run P w = .ok (.slice (some ⟨b, o, none⟩) (olds.length + news.length) cap) w' → ¬ (vac.isNone = true ∧ news.length = 0) →
          OutOK C G w ((Builtin.append_ #[t, t] ty #[cs, cx]).run P w) out := by
        intro w' b o cap bcs bty k1 k2 k3 k4 k5 k6 k7 k8 k9 k10 k11 k12 k13 k14
        rw [if_neg k14] at h
        cases h
        have hlen : (olds ++ news).length = olds.length + news.length := List.length_append
        have hcells : ∀ i j a, cellAt (olds ++ news) i j = some a → a.scalar = true ∧ ∃ c, bcs[o + i * z + j]? = some c ∧
            ((∃ x, a = .p x ∧ PV G.F x c) ∨ a = .dead ∨ ∃ sp, src i j = some sp ∧ Held G w sp a ∧ G.cv sp = c) := by
          intro i j a ha
          have hjz : j < z := (cellAt_lt hrowz ha).2
          rcases hcat i j a ha with ⟨hi, hao⟩ | ⟨hi, han⟩
          · rcases hO with ⟨_, _, rfl, _⟩ | ⟨pl, rows, ad, k, b0, o0, cap0, ocs, oty, hv, hget, hdrop, _, _, _, _, _, _, _, _, _, g7, g8⟩
            · simp [cellAt] at hao
            · have hrow : cellAt rows (i + off) j = some a := by
                rw [hdrop] at hao
                obtain ⟨row, h1, h2⟩ := cellAt_some.1 hao
                rw [List.getElem?_drop, Nat.add_comm] at h1
                exact cellAt_some.2 ⟨row, h1, h2⟩
              obtain ⟨q1, q2⟩ := g8 _ _ _ hrow
              refine ⟨q1, _, k11 i j hi hjz pl hv, .inr (.inr ⟨pl.ext (i + off) j, by simp [src, hi, hv], ?_, rfl⟩)⟩
              exact hm.held (by rw [getAt_ext hget]; exact hrow)
          · obtain ⟨q1, q2, q3⟩ := hsrc.cell _ _ _ han
            have hlt := cellAt_lt hsrc.len han
            have hidx : (i - olds.length) * z + j < news.length * z := by
              have : (i - olds.length + 1) * z ≤ news.length * z := Nat.mul_le_mul_right _ (by omega)
              rw [Nat.add_mul] at this; omega
            have hcell := k12 _ hidx
            have he : o + olds.length * z + ((i - olds.length) * z + j) = o + i * z + j := by
              have : olds.length * z + (i - olds.length) * z = i * z := by rw [← Nat.add_mul]; congr 1; omega
              omega
            rw [he] at hcell
            refine ⟨q1, _, hcell, ?_⟩
            rcases q3 with q3 | ⟨q, e1, e2, e3⟩
            · exact .inl q3
            · exact .inr (.inr ⟨q.ext (i - olds.length) j, by simp [src, show ¬ (i < olds.length) by omega, e1], e2, e3⟩)
        have hA := assemble_ok (C := C) (w := w) (w' := w') hm2.1 hg d vs hm2.2 hvsd b o cap z bcs bty false (olds ++ news) src k1 k2 k3 k4 k5 k6 k7 k8 (by rw [hlen]; exact k9) k10 hrowz hcells hsrc_under hsrc_inj
        obtain ⟨a1, a2, a3, a4, a5, a6, a7, a8⟩ := hA
        refine ⟨_, _, _, k13, .rsl _ _ _ _ _ fun b' o' cap' z' hL => ?_, a1, a2, by rw [a3]; exact Frz.le_refl _, fun pl hpl L hL => a5 pl (by simpa [Kill.fn] using hpl) L hL⟩
        rw [a4] at hL
        cases hL
        exact ⟨by omega, rfl, fun _ => by simp⟩
      have hgrow : ∀ old, old < olds.length + news.length → Builtin.nextslicecap (olds.length + news.length) old * ie.bytes ≤ 281474976710656 := fun old ho => growslice_fits ho (by rw [hib]; exact hc1)
      rcases hO with ⟨rfl, rfl, rfl, rfl, rfl⟩ | ⟨pl, rows, ad, k, b, o, cap, ocs, oty, hv, hget, hdrop, hoff, rfl, hL, hk, hcap, had, hheap, hocs, hmax, g7, g8⟩
      · -- nothing yet
        by_cases hn : news.length = 0
        · rw [if_pos ⟨rfl, hn⟩] at h
          cases h
          have h0 : (Builtin.append_ #[t, t] ty #[.slice none 0 0, cx]).run P w = .ok (.slice none 0 0) w := by
            have hl := hsrc.len_run (P := P) w
            have hf := hsrc.first_run (P := P) news.length (Nat.le_refl _)
            rw [hn] at hl hf
            simp [Builtin.append_, run_underlying ht, sizeOf, typeInfo, hie, hl, his, hf]
          rw [h0]
          exact OutOK.pure hm hg (.p .nilslice)
        · rcases hsrc.shape with ⟨_, e⟩ | ⟨ad', k', rfl, hcells⟩
          · rw [e] at hn; simp at hn
          · have hr := run_append_nil (P := P) w t ty e ie zv ht hie hiz ad' news.length k' (Src.list val (news.length * z)) (by rw [hnl, his])
              (by
                intro j v hv
                have hlt : j < news.length * z := by have := (List.getElem?_eq_some_iff.1 hv).1; rw [hnl] at this; exact this
                rw [Src.get hlt] at hv
                cases hv
                exact hcells j hlt)
              (by omega) (by simp at hc2; omega) (by
                rw [hib]
                simp at hc1
                omega)
            have hge := grownCap_ge w news.length 0 e
            have hcm : grownCap w news.length 0 e ≤ maxLen := grownCap_le_maxLen w news.length 0 e (by simp [maxLen] at hc2 ⊢; omega)
            refine finish _ w.heap.size 0 (grownCap w news.length 0 e) _ e (Go.heap_alloc_new w.drew _) (fun k hk hne => X.drew_alloc_old w _ k hk) (by simp) rfl rfl rfl (.inl (Nat.le_refl _)) ?_ (by simpa using hge) hcm
              (fun i j hi => by simp at hi) ?_ (by simpa using hr) (by simp [hn])
            · simp only [Array.size_append, List.size_toArray, hnl, size_zeroCells, hzvs, Nat.zero_add, ← Nat.add_mul]
              exact Nat.mul_le_mul_right _ (by omega)
            · intro q hq
              simp only [List.length_nil, Nat.zero_mul, Nat.zero_add]
              rw [Array.getElem?_append, if_pos (by simpa [hnl] using hq)]
              simpa using Src.get hq
      · -- a slice of the call's own
        have hnone : ¬ (vac.isNone = true ∧ news.length = 0) := by rw [hv]; simp
        have hkm : k ≤ maxLen := by rw [hk]; exact Nat.le_trans (Nat.sub_le _ _) hmax
        have hol : olds.length = rows.length - off := by rw [hdrop, List.length_drop]
        have holdcell : ∀ i j, i < olds.length → j < z → ocs[o + off * z + i * z + j]? = some (G.cv (pl.ext (i + off) j)) := by
          intro i j hi hj
          have hlt : i + off < rows.length := by omega
          have hl := g7 _ (List.getElem_mem hlt)
          have := (g8 (i + off) j _ (cellAt_some.2 ⟨_, List.getElem?_eq_getElem hlt, List.getElem?_eq_getElem (by rw [hl]; exact hj)⟩)).2
          rw [Nat.add_mul] at this
          rw [show o + off * z + i * z + j = o + (i * z + off * z) + j by omega]
          exact this
        by_cases hroom : olds.length + news.length ≤ k
        · have hadr : ad = ⟨b, o + off * z, none⟩ := had (by rcases hc6 with h0 | h0; exact .inr h0; exact .inl (by omega))
          subst hadr
          have hfit : o + off * z + olds.length * z + (Src.list val (news.length * z)).length ≤ ocs.size := by
            rw [hnl]
            have : (off + olds.length + news.length) * z ≤ cap * z := Nat.mul_le_mul_right _ (by omega)
            rw [Nat.add_mul, Nat.add_mul] at this
            omega
          have hr := run_append_fit (P := P) w t ty e ie ht hie b (o + off * z) olds.length k ocs oty hheap cx news.length (Src.list val (news.length * z)) (hsrc.len_run w) (by rw [his]; exact hsrc.first_run _ (Nat.le_refl _))
            (by
              intro u hu
              simp only [Src.list, List.mem_map, List.mem_range] at hu
              obtain ⟨q, hq, rfl⟩ := hu
              have hzp : 0 < z := by rcases Nat.eq_zero_or_pos z with h | h; (rw [h] at hq; simp at hq); exact h
              have hi : q / z < news.length := (Nat.div_lt_iff_lt_mul hzp).2 hq
              have hl0 := hsrc.len _ (List.getElem_mem hi)
              have hj : q % z < news[q / z].length := by rw [hl0]; exact Nat.mod_lt _ hzp
              have := (hsrc.cell _ _ _ (cellAt_some.2 ⟨_, List.getElem?_eq_getElem hi, List.getElem?_eq_getElem hj⟩)).2.1
              rw [divmod] at this
              exact this)
            hroom (by rw [his]; exact hfit)
          rw [his] at hr
          have hsp := fun q => getElem?_splice ocs.toList (Src.list val (news.length * z)) (o + off * z + olds.length * z) q (by simpa using hfit)
          refine finish _ b (o + off * z) k _ oty (setRow_heap w b ocs _ oty _ hheap) (fun q _ hne => setRow_other w b q _ hne) (by simp) rfl rfl rfl (.inr ⟨pl, by simp [vs, hv], _, hL, rfl⟩) ?_ hroom hkm ?_ ?_ hr hnone
          · simp only [List.size_toArray, List.length_append, List.length_take, List.length_drop, Array.length_toList]
            have : (off + k) * z ≤ cap * z := Nat.mul_le_mul_right _ (by omega)
            rw [Nat.add_mul] at this
            omega
          · intro i j hi hj pl' hpl'
            rw [hv] at hpl'; cases hpl'
            have hlt : o + off * z + i * z + j < o + off * z + olds.length * z := by
              have : (i + 1) * z ≤ olds.length * z := Nat.mul_le_mul_right _ (by omega)
              rw [Nat.add_mul] at this; omega
            rw [List.getElem?_toArray, hsp, if_neg (by omega)]
            simpa using holdcell i j hi hj
          · intro q hq
            rw [List.getElem?_toArray, hsp, if_pos (by rw [hnl]; omega), Nat.add_sub_cancel_left]
            exact Src.get hq
        · rcases hsrc.shape with ⟨_, e⟩ | ⟨ad', k', rfl, hcells⟩
          · exfalso
            rw [e] at hroom
            simp at hroom
            omega
          · let oldl : List Value := (List.range (olds.length * z)).map fun q => (ocs[o + off * z + q]?).getD undef
            have holl : oldl.length = olds.length * z := by simp [oldl]
            have holdq : ∀ q, q < olds.length * z → o + off * z + q < ocs.size := by
              intro q hq
              have : (off + olds.length) * z ≤ cap * z := Nat.mul_le_mul_right _ hcap
              rw [Nat.add_mul] at this
              omega
            have hr := run_append_grow (P := P) w t ty e ie zv ht hie hiz ad olds.length k oldl (by rw [holl, his])
              (by
                intro j v hjv
                have hlt : j < olds.length * z := by have := (List.getElem?_eq_some_iff.1 hjv).1; rw [holl] at this; exact this
                have hpos : 0 < olds.length := by
                  rcases Nat.eq_zero_or_pos olds.length with h0 | h0
                  · rw [h0] at hlt; simp at hlt
                  · exact h0
                have hadr : ad = ⟨b, o + off * z, none⟩ := had (.inl (by omega))
                subst hadr
                rw [Addr.add_none]
                simp only [oldl, List.getElem?_map, List.getElem?_range hlt, Option.map_some, Option.some.injEq] at hjv
                have := holdq j hlt
                simp only [World.cell?, hheap, Option.isSome_none, Bool.false_eq_true, if_false]
                rw [Array.getElem?_eq_getElem this] at hjv ⊢
                simpa using hjv)
              ad' news.length k' (Src.list val (news.length * z)) (by rw [hnl, his])
              (by
                intro j v hjv
                have hlt : j < news.length * z := by have := (List.getElem?_eq_some_iff.1 hjv).1; rw [hnl] at this; exact this
                rw [Src.get hlt] at hjv
                cases hjv
                exact hcells j hlt)
              (by omega) (by simp at hc2 ⊢; omega) (hgrow k (by omega))
            have hge := grownCap_ge w (olds.length + news.length) k e
            have hcm : grownCap w (olds.length + news.length) k e ≤ maxLen := grownCap_le_maxLen w _ k e (by simp only [maxLen]; omega)
            refine finish _ w.heap.size 0 _ _ e (Go.heap_alloc_new w.drew _) (fun q hq hne => X.drew_alloc_old w _ q hq) (by simp) rfl rfl rfl (.inl (Nat.le_refl _)) ?_ hge hcm ?_ ?_ hr hnone
            · simp only [Array.size_append, List.size_toArray, hnl, holl, size_zeroCells, hzvs, Nat.zero_add, ← Nat.add_mul]
              exact Nat.mul_le_mul_right _ (by omega)
            · intro i j hi hj pl' hpl'
              rw [hv] at hpl'; cases hpl'
              have hlt : i * z + j < olds.length * z := by
                have : (i + 1) * z ≤ olds.length * z := Nat.mul_le_mul_right _ (by omega)
                rw [Nat.add_mul] at this; omega
              rw [Nat.zero_add, Array.append_assoc, Array.getElem?_append, if_pos (by simpa [holl] using hlt)]
              simp only [List.getElem?_toArray, oldl, List.getElem?_map, List.getElem?_range hlt, Option.map_some]
              have := holdcell i j hi hj
              rw [Nat.add_assoc] at this
              rw [this]
              rfl
            · intro q hq
              rw [Nat.zero_add, Array.append_assoc, Array.getElem?_append, if_neg (by simp [holl]), Array.getElem?_append]
              simp only [List.size_toArray, holl, Nat.add_sub_cancel_left, hnl]
              rw [if_pos hq, List.getElem?_toArray]
              exact Src.get hq
    · cases h
  · cases h
end
end Go.Proofs.Ytnmnijgoggombaa.X
