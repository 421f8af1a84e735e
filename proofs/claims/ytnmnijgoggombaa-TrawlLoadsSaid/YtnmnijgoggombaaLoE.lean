/- Part 5 of the proof of one statement about the given program: what the program's code computes is carried out over abstract values, and that is proved to hold of the program in every world. -/
import Derived.Test.YtnmnijgoggombaaLoD
import Derived.ProofKit
import Derived.Below
import Derived.SizedLaws
set_option maxRecDepth 100000
namespace Go.Proofs.Ytnmnijgoggombaa.X
open Go.Proofs.Try
attribute [go_sem] samePl frzRef oAppend appOld appNew vacateO notSite apart newRoot pureRows scalarRows toP toPs toPss oFrzR frzV frz1 rowsOf oBslice oIaddr oIaddrA allPs oExtract
abbrev boxX : Place := ⟨4000000000000, 0, []⟩
abbrev ownP : Place := ⟨6000000000000, 0, []⟩
def rowsA (l : List Ld) : List (List AVal) := (rowsL l).map fun r => r.map .p
def memX (a b : Int) : Nat × List AVal := (4000000000000, [.own true 2 [[.p (.int .i64 a), .p (.int .i64 b)]]])
def longF : List Ld → Bool
  | [] => false
  | x :: l => decide (x.nm.size > 60) || longF l
theorem liftRows_rows (l : List Ld) : liftRows (rowsL l) = rowsA l := rfl
theorem rowsA_length (l : List Ld) : (rowsA l).length = l.length := by simp [rowsA, rowsL]
theorem rowsA_append (l r : List Ld) : rowsA l ++ rowsA r = rowsA (l ++ r) := by simp [rowsA, rowsL]
theorem rowsA_one (x : Ld) : rowsA [x] = [[.p (.str x.nm), .p (.int .i64 x.p), .p (.int .i64 x.a)]] := rfl
theorem toPss_lift (rows : List (List PVal)) : toPss (rows.map fun r => r.map .p) = some rows := by
  induction rows with
  | nil => rfl
  | cons r rows ih =>
    have h : toPs (r.map .p) = some r := by
      induction r with
      | nil => rfl
      | cons x r ih => simp [toPs, toP, ih]
    simp [toPss, h, ih]
theorem toPss_rowsA (l : List Ld) : toPss (rowsA l) = some (rowsL l) := toPss_lift _
theorem allPs_lift (rows : List (List PVal)) : allPs (rows.map fun r => r.map .p) = some rows := by
  induction rows with
  | nil => rfl
  | cons r rows ih =>
    have h : allP (r.map .p) = some r := by
      induction r with
      | nil => rfl
      | cons x r ih => simp [allP, ih]
    simp [allPs, h, ih]
theorem allPs_rowsA (l : List Ld) : allPs (rowsA l) = some (rowsL l) := allPs_lift _
def envX (l : List Ld) (v : AVal) (i : Nat) : Env := [(0, .p (.sl (rowsL l))), (3, .rpt boxX 0 0), (5, v), (36, .p (.sl (rowsL l))), (37, .p (.int .i64 l.length)), (38, .p (.int .i64 i))]
def obsX (r : Option (XE × Env × Mem)) : Option (XE × Option AVal × Option AVal × Option AVal × Option AVal × Mem) := r.map fun r => (r.1, lk r.2.1 0, lk r.2.1 3, lk r.2.1 4, (if r.1 matches .ret then none else lk r.2.1 5), if r.1 matches .ret then [] else r.2.2)
set_option maxHeartbeats 2000000 in
theorem own_loop (k nn : Nat) (ι : SigI) (l : List Ld) (hl : l.length ≤ 1000) (a b : Int) : ∀ (n i : Nat), 0 < i → i ≤ l.length → l.length - i < n →
    obsX (itN n (LB (R1 (k + 1) nn) ι (OT nn) 131 [0, 3, 5, 36, 37, 38] c3l0) (envX l (.rsl ownP 0 i) i) [memX a b, (6000000000000, [.own false 3 (rowsA (l.take i))])]) =
      some (if longF (l.drop i) = true then (.ret, some (.p (.sl (rowsL l))), some (.rpt boxX 0 0), some (.p (.bool true)), none, [])
        else (.exit 0, some (.p (.sl (rowsL l))), some (.rpt boxX 0 0), none, some (.rsl ownP 0 l.length), [memX a b, (6000000000000, [.own false 3 (rowsA l)])])) := by
  intro n
  induction n with
  | zero => intro i _ _ h; omega
  | succ n ih =>
    intro i h0 hi hn
    have hlen := rowsL_length l
    by_cases h : i < l.length
    · have hd : l.drop i = l[i] :: l.drop (i + 1) := List.drop_eq_getElem_cons h
      have hx : rowL l[i] = [.str l[i].nm, .int .i64 l[i].p, .int .i64 l[i].a] := rfl
      have hw : IntKind.i64.wrap ((i : Int) + 1) = (i : Int) + 1 := IntWalk.i64_in _ (by omega)
      have htl : (rowsA (l.take i)).length = i := by rw [rowsA_length, List.length_take]; omega
      have hta : rowsA (l.take i) ++ [[.p (.str l[i].nm), .p (.int .i64 l[i].p), .p (.int .i64 l[i].a)]] = rowsA (l.take (i + 1)) := by
        rw [← rowsA_one, rowsA_append, List.take_succ_eq_append_getElem h]
      rw [hd, longF]
      by_cases hbig : l[i].nm.size > 60
      · have hb' : (60 : Int) < (l[i].nm.size : Int) := by omega
        simp [itN, LB, c3l0, go_sem, envX, memX, hlen, h, rowsL_get, hx, hb', hbig, awake_R1, obsX]
      · have hb' : ¬ ((60 : Int) < (l[i].nm.size : Int)) := by omega
        have hdec : decide (l[i].nm.size > 60) = false := by simp [hbig]
        rw [hdec, Bool.false_or]
        have hcap : (i + 1) * 32 ≤ 140737488355328 ∧ i ≤ 9223372036854775806 := by omega
        have ih' := ih (i + 1) (by omega) (by omega) (by omega)
        rw [← ih']
        simp only [envX, ← hta, Int.natCast_add, Int.natCast_one]
        simp [itN, LB, c3l0, go_sem, envX, memX, hlen, h, rowsL_get, hx, hb', hw, htl, obsX, rowsA_length, liftRows, zOK, hcap]
    · have : i = l.length := by omega
      subst this
      simp [itN, LB, c3l0, go_sem, envX, obsX, longF]
theorem own_first (k nn : Nat) (ι : SigI) (l : List Ld) (hl : l.length ≤ 1000) (a b : Int) (n : Nat) (hn : l.length < n) (hne : 0 < l.length) :
    obsX (itN n (LB (R1 (k + 1) nn) ι (OT nn) 131 [0, 3, 5, 36, 37, 38] c3l0) (envX l (.p .nilslice) 0) [memX a b]) =
      some (if longF l = true then (.ret, some (.p (.sl (rowsL l))), some (.rpt boxX 0 0), some (.p (.bool true)), none, [])
        else (.exit 0, some (.p (.sl (rowsL l))), some (.rpt boxX 0 0), none, some (.rsl ownP 0 l.length), [memX a b, (6000000000000, [.own false 3 (rowsA l)])])) := by
  obtain ⟨n, rfl⟩ : ∃ m, n = m + 1 := ⟨n - 1, by omega⟩
  cases l with
  | nil => simp at hne
  | cons x l =>
    have hx : rowL x = [.str x.nm, .int .i64 x.p, .int .i64 x.a] := rfl
    have hlen : (rowsL l).length = l.length := rowsL_length l
    have hrow : rowsL (x :: l) = rowL x :: rowsL l := rfl
    have hw : IntKind.i64.wrap 1 = 1 := IntWalk.i64_in _ (by omega)
    have hpos : (0 : Int) < (l.length : Int) + 1 := by omega
    rw [longF]
    by_cases hbig : x.nm.size > 60
    · have hb' : (60 : Int) < (x.nm.size : Int) := by omega
      simp [itN, LB, c3l0, go_sem, envX, memX, hlen, hpos, hrow, hx, hb', hbig, awake_R1, obsX]
    · have hb' : ¬ ((60 : Int) < (x.nm.size : Int)) := by omega
      have hdec : decide (x.nm.size > 60) = false := by simp [hbig]
      rw [hdec, Bool.false_or]
      have ih' := own_loop k nn ι (x :: l) hl a b n 1 (by omega) hne (by omega)
      simp only [List.drop_succ_cons, List.drop_zero] at ih'
      rw [← ih']
      have hta : [[.p (.str x.nm), .p (.int .i64 x.p), .p (.int .i64 x.a)]] = rowsA ((x :: l).take 1) := rfl
      rw [← hta]
      simp [itN, LB, c3l0, go_sem, envX, memX, hlen, hpos, hrow, hx, hb', hw, liftRows, zOK]
end Go.Proofs.Ytnmnijgoggombaa.X
namespace Go.Proofs.Ytnmnijgoggombaa.X
open Go.Proofs.Try
theorem obsX_some {r : Option (XE × Env × Mem)} {x : XE} {a b c d : Option AVal} {m0 : Mem} (h : obsX r = some (x, a, b, c, d, m0)) :
    ∃ e m, r = some (x, e, m) ∧ lk e 0 = a ∧ lk e 3 = b ∧ lk e 4 = c ∧ (x = .exit 0 → lk e 5 = d ∧ m = m0) := by
  cases r with
  | none => cases h
  | some r =>
    obtain ⟨x', e, m'⟩ := r
    simp only [obsX, Option.map_some, Option.some.injEq, Prod.mk.injEq] at h
    obtain ⟨rfl, h1, h2, h3, h4, h5⟩ := h
    exact ⟨e, m', rfl, h1, h2, h3, fun hx => by subst hx; exact ⟨h4, h5⟩⟩
/-- The law's argument: a slice, or none. -/
structure LA (l : List Ld) (v : PVal) : Prop where
  eq : (v = .nilslice ∧ l = []) ∨ v = .sl (rowsL l)
theorem LA.len {l : List Ld} {v : PVal} (h : LA l v) (m : Mem) : oLen .sl m (.p v) = some (.p (.int .i64 l.length), m, .no) := by
  rcases h.eq with ⟨rfl, rfl⟩ | rfl
  · rfl
  · simp [oLen, rowsL_length]
theorem LA.check {l : List Ld} {v : PVal} (h : LA l v) (k n : Nat) (hl : l.length ≤ 1000) (hn : 10001 < n) : R1 (k + 2) n 13 [v] = some (.p (.int .i64 (checkP l))) := by
  rcases h.eq with ⟨rfl, rfl⟩ | rfl
  · obtain ⟨n', rfl⟩ : ∃ n', n = n' + 1 := ⟨n - 1, by omega⟩
    exact refcheck_nil (k + 1) n'
  · exact refcheck_run k n l hl (by omega)
theorem LA.sum {l : List Ld} {v : PVal} (h : LA l v) (k n : Nat) (hl : l.length ≤ 1000) (hn : 10001 < n) : R1 (k + 2) n 14 [v] = some (.p (.tup [.int .i64 (sumF l 0 0).1, .int .i64 (sumF l 0 0).2])) := by
  rcases h.eq with ⟨rfl, rfl⟩ | rfl
  · obtain ⟨n', rfl⟩ : ∃ n', n = n' + 1 := ⟨n - 1, by omega⟩
    exact refsum_nil (k + 1) n'
  · exact refsum_run (k + 1) n l hl (by omega)
theorem LA.floats {l : List Ld} {v : PVal} (h : LA l v) (k n : Nat) (lift arm : Int) (hl : l.length ≤ 1000) (hn : 10001 < n) (hq : w64 (lift * arm) ≠ 0) : R1 (k + 2) n 15 [v, .int .i64 lift, .int .i64 arm] = some (.p (.tup (refW (sumF l 0 0).1 (sumF l 0 0).2 lift arm))) := by
  rcases h.eq with ⟨rfl, rfl⟩ | rfl
  · exact reffloats_nil k n lift arm hn hq
  · exact reffloats_run k n l lift arm hl hn hq
/-- What the law's loop leaves. -/
theorem own_any (k nn : Nat) (ι : SigI) {l : List Ld} {v : PVal} (hv : LA l v) (hl : l.length ≤ 1000) (a b : Int) (n : Nat) (hn : l.length + 1 < n) :
    ∃ u m, (m = [memX a b] ∧ u = .p .nilslice ∧ l = [] ∨ m = [memX a b, (6000000000000, [.own false 3 (rowsA l)])] ∧ u = .rsl ownP 0 l.length) ∧
    obsX (itN n (LB (R1 (k + 1) nn) ι (OT nn) 131 [0, 3, 5, 36, 37, 38] c3l0) [(0, .p v), (3, .rpt boxX 0 0), (5, .p .nilslice), (36, .p v), (37, .p (.int .i64 l.length)), (38, .p (.int .i64 0))] [memX a b]) =
      some (if longF l = true then (.ret, some (.p v), some (.rpt boxX 0 0), some (.p (.bool true)), none, [])
        else (.exit 0, some (.p v), some (.rpt boxX 0 0), none, some u, m)) := by
  by_cases hne : 0 < l.length
  · rcases hv.eq with ⟨rfl, rfl⟩ | rfl
    · simp at hne
    · exact ⟨_, _, .inr ⟨rfl, rfl⟩, own_first k nn ι l hl a b n (by omega) hne⟩
  · have : l = [] := by cases l with | nil => rfl | cons => simp at hne
    subst this
    obtain ⟨n, rfl⟩ : ∃ m, n = m + 1 := ⟨n - 1, by omega⟩
    refine ⟨_, _, .inl ⟨rfl, rfl, rfl⟩, ?_⟩
    simp [itN, LB, c3l0, go_sem, obsX, longF, memX]
theorem rng_eq0 {x lo hi : Int} (h : ¬ x < lo) (h2 : ¬ x > hi) : rng x lo hi = 0 := by unfold rng; rw [if_neg (by omega)]
theorem rng_eq3 {x lo hi : Int} (h : x < lo ∨ x > hi) : rng x lo hi = 3 := by unfold rng; rw [if_pos h]
end Go.Proofs.Ytnmnijgoggombaa.X
namespace Go.Proofs.Ytnmnijgoggombaa.X
open Go.Proofs.Try
theorem loads_guard (k n : Nat) (l : List Ld) (a b : Int) (hg : (8 < l.length ∧ l.length ≤ 64) ∨ 66 < l.length) :
    R1 (k + 7) n 3 [.sl (rowsL l), .agg [.int .i64 a, .int .i64 b]] = some (.p (.bool true)) := by
  rw [R_eq (k + 6) n 3 _ f3 rfl]
  have hlen := rowsL_length l
  have haw := awake_R1 (k + 5) n
  have e8 : (8 : Int) < (l.length : Int) := by omega
  by_cases h64 : l.length ≤ 64
  · have e64 : (l.length : Int) ≤ 64 := by omega
    simp [f3, c3, go_sem, hlen, haw, e8, e64]
  · have e64 : ¬ ((l.length : Int) ≤ 64) := by omega
    have e66 : (66 : Int) < (l.length : Int) := by omega
    simp [f3, c3, go_sem, hlen, haw, e8, e64, e66]
theorem loads_long (k n : Nat) (l : List Ld) (a b : Int) (hl : l.length ≤ 66) (hg : ¬ (8 < l.length ∧ l.length ≤ 64)) (hn : 10001 < n) (hlong : longF l = true) :
    R1 (k + 7) n 3 [.sl (rowsL l), .agg [.int .i64 a, .int .i64 b]] = some (.p (.bool true)) := by
  rw [R_eq (k + 6) n 3 _ f3 rfl]
  have hlen := rowsL_length l
  have haw := awake_R1 (k + 5) n
  have e66 : ¬ ((66 : Int) < (l.length : Int)) := by omega
  obtain ⟨u, m, _, hx⟩ := own_any (k + 5) n (SI T aw noHI (OT n) (k + 6)) (l := l) ⟨.inr rfl⟩ (by omega) a b n (by omega)
  rw [if_pos hlong] at hx
  obtain ⟨e1, m1, g1, g2, g3, g4, _⟩ := obsX_some hx
  simp only [memX, boxX] at g1
  by_cases h8 : 8 < l.length
  · have e8 : (8 : Int) < (l.length : Int) := by omega
    have e64 : ¬ ((l.length : Int) ≤ 64) := by omega
    simp [f3, c3, go_sem, hlen, haw, e8, e64, e66, g1, g4]
  · have e8 : ¬ (8 : Int) < (l.length : Int) := by omega
    simp [f3, c3, go_sem, hlen, haw, e8, e66, g1, g4]
end Go.Proofs.Ytnmnijgoggombaa.X
namespace Go.Proofs.Ytnmnijgoggombaa.X
open Go.Proofs.Try
theorem zOK_rowsL (l : List Ld) : zOK 3 (rowsL l) = true := by
  simp [zOK, rowsL, rowL]
theorem refW_form (p m a b : Int) : ∃ x y z, refW p m a b = [two x y, .int .i64 z] := by
  unfold refW
  split
  · split
    · exact ⟨_, _, _, rfl⟩
    · exact ⟨_, _, _, rfl⟩
  · exact ⟨_, _, _, rfl⟩
set_option maxHeartbeats 3000000 in
theorem loads_bad (k n : Nat) (l : List Ld) (a b : Int) (hl : l.length ≤ 66) (hg : ¬ (8 < l.length ∧ l.length ≤ 64)) (hn : 10001 < n) (hshort : ¬ longF l = true) (hc : checkP l ≠ 0) :
    R1 (k + 7) n 3 [.sl (rowsL l), .agg [.int .i64 a, .int .i64 b]] = some (.p (.bool true)) := by
  have hs := sum_run (k + 2) n l (by omega) (by omega)
  have hch := refcheck_run (k + 4) n l (by omega) (by omega)
  have hfi : firstI [checkP l, rng a 1 1000000, rng b 1 10000] = checkP l := by simp [firstI, hc]
  have hf := floats_bad (k + 1) n l a b (by omega) (by omega) (by rw [hfi]; exact hc)
  rw [if_neg hc] at hs
  rw [hfi] at hf
  generalize checkP l = c at *
  rw [R_eq (k + 6) n 3 _ f3 rfl]
  have hlen := rowsL_length l
  have haw := awake_R1 (k + 5) n
  have e66 : ¬ ((66 : Int) < (l.length : Int)) := by omega
  have hcap : l.length * 32 ≤ 140737488355328 := by omega
  have hcap2 : l.length ≤ 9223372036854775807 := by omega
  have htake : List.take l.length (rowsA l) = rowsA l := List.take_of_length_le (by rw [rowsA_length]; omega)
  have htake2 : List.take l.length (rowsL l) = rowsL l := List.take_of_length_le (by rw [rowsL_length]; omega)
  have tb1 : Nat.testBit 3071 11 = true := by decide
  have hla := rowsA_length l
  have hz := zOK_rowsL l
  obtain ⟨u, m, hu, hx⟩ := own_any (k + 5) n (SI T aw noHI (OT n) (k + 6)) (l := l) ⟨.inr rfl⟩ (by omega) a b n (by omega)
  rw [if_neg hshort] at hx
  obtain ⟨e1, m1, g1, g2, g3, g4, g5⟩ := obsX_some hx
  obtain ⟨g5, g6⟩ := g5 rfl
  subst g6
  simp only [memX, boxX] at g1
  rcases hu with ⟨rfl, rfl, h0⟩ | ⟨rfl, rfl⟩
  · have e8 : ¬ (8 : Int) < (l.length : Int) := by rw [h0]; simp
    have hrow : rowsL l = [] := by rw [h0]; rfl
    rw [hrow] at hs hf hch g1 g2 
    have hl0 : l.length = 0 := by rw [h0]; rfl
    rw [hl0] at g1
    simp only [Int.natCast_zero] at g1
    simp [f3, c3, go_sem, hrow, haw, memX, g1, g2, g3, g5, hs, hf, hch, tb1, zOK, liftRows, two, hc]
  · by_cases h8 : 8 < l.length
    · have e8 : (8 : Int) < (l.length : Int) := by omega
      have e64 : ¬ ((l.length : Int) ≤ 64) := by omega
      simp [f3, c3, go_sem, e8, e64, hlen, haw, e66, memX, g1, g2, g3, g5, hs, hf, hch, hcap, hcap2, tb1, hla, hz, htake, htake2, liftRows_rows, allPs_rowsA, toPss_rowsA, two, hc]
    · have e8 : ¬ (8 : Int) < (l.length : Int) := by omega
      simp [f3, c3, go_sem, e8, hlen, haw, e66, memX, g1, g2, g3, g5, hs, hf, hch, hcap, hcap2, tb1, hla, hz, htake, htake2, liftRows_rows, allPs_rowsA, toPss_rowsA, two, hc]
set_option maxHeartbeats 3000000 in
theorem loads_r1 (k n : Nat) (l : List Ld) (a b : Int) (hl : l.length ≤ 66) (hg : ¬ (8 < l.length ∧ l.length ≤ 64)) (hn : 10001 < n) (hshort : ¬ longF l = true) (hc : checkP l = 0) (h1 : a < 1) :
    R1 (k + 7) n 3 [.sl (rowsL l), .agg [.int .i64 a, .int .i64 b]] = some (.p (.bool true)) := by
  have hs := sum_run (k + 2) n l (by omega) (by omega)
  have hch := refcheck_run (k + 4) n l (by omega) (by omega)
  have hrs := refsum_run (k + 5) n l (by omega) (by omega)
  have hfi : firstI [checkP l, rng a 1 1000000, rng b 1 10000] = 3 := by simp [firstI, hc, rng_eq3 (.inl h1)]
  have hf := floats_bad (k + 1) n l a b (by omega) (by omega) (by rw [hfi]; omega)
  rw [if_pos hc] at hs
  rw [hfi] at hf
  rw [hc] at hch
  generalize (sumF l 0 0).1 = p at *
  generalize (sumF l 0 0).2 = mo at *
  rw [R_eq (k + 6) n 3 _ f3 rfl]
  have hlen := rowsL_length l
  have haw := awake_R1 (k + 5) n
  have e66 : ¬ ((66 : Int) < (l.length : Int)) := by omega
  have hcap : l.length * 32 ≤ 140737488355328 := by omega
  have hcap2 : l.length ≤ 9223372036854775807 := by omega
  have htake : List.take l.length (rowsA l) = rowsA l := List.take_of_length_le (by rw [rowsA_length]; omega)
  have htake2 : List.take l.length (rowsL l) = rowsL l := List.take_of_length_le (by rw [rowsL_length]; omega)
  have tb1 : Nat.testBit 3071 11 = true := by decide
  have hla := rowsA_length l
  have hz := zOK_rowsL l
  obtain ⟨u, m, hu, hx⟩ := own_any (k + 5) n (SI T aw noHI (OT n) (k + 6)) (l := l) ⟨.inr rfl⟩ (by omega) a b n (by omega)
  rw [if_neg hshort] at hx
  obtain ⟨e1, m1, g1, g2, g3, g4, g5⟩ := obsX_some hx
  obtain ⟨g5, g6⟩ := g5 rfl
  subst g6
  simp only [memX, boxX] at g1
  rcases hu with ⟨rfl, rfl, h0⟩ | ⟨rfl, rfl⟩
  · have e8 : ¬ (8 : Int) < (l.length : Int) := by rw [h0]; simp
    have hrow : rowsL l = [] := by rw [h0]; rfl
    rw [hrow] at hs hf hch g1 g2 hrs
    have hl0 : l.length = 0 := by rw [h0]; rfl
    rw [hl0] at g1
    simp only [Int.natCast_zero] at g1
    simp [f3, c3, go_sem, hrow, haw, memX, g1, g2, g3, g5, hs, hf, hch, tb1, zOK, liftRows, two, hrs, h1]
  · by_cases h8 : 8 < l.length
    · have e8 : (8 : Int) < (l.length : Int) := by omega
      have e64 : ¬ ((l.length : Int) ≤ 64) := by omega
      simp [f3, c3, go_sem, e8, e64, hlen, haw, e66, memX, g1, g2, g3, g5, hs, hf, hch, hcap, hcap2, tb1, hla, hz, htake, htake2, liftRows_rows, allPs_rowsA, toPss_rowsA, two, hrs, h1]
    · have e8 : ¬ (8 : Int) < (l.length : Int) := by omega
      simp [f3, c3, go_sem, e8, hlen, haw, e66, memX, g1, g2, g3, g5, hs, hf, hch, hcap, hcap2, tb1, hla, hz, htake, htake2, liftRows_rows, allPs_rowsA, toPss_rowsA, two, hrs, h1]
set_option maxHeartbeats 3000000 in
theorem loads_r2 (k n : Nat) (l : List Ld) (a b : Int) (hl : l.length ≤ 66) (hg : ¬ (8 < l.length ∧ l.length ≤ 64)) (hn : 10001 < n) (hshort : ¬ longF l = true) (hc : checkP l = 0) (h1 : ¬ a < 1) (h2 : 1000000 < a) :
    R1 (k + 7) n 3 [.sl (rowsL l), .agg [.int .i64 a, .int .i64 b]] = some (.p (.bool true)) := by
  have hs := sum_run (k + 2) n l (by omega) (by omega)
  have hch := refcheck_run (k + 4) n l (by omega) (by omega)
  have hrs := refsum_run (k + 5) n l (by omega) (by omega)
  have hfi : firstI [checkP l, rng a 1 1000000, rng b 1 10000] = 3 := by simp [firstI, hc, rng_eq3 (.inr h2)]
  have hf := floats_bad (k + 1) n l a b (by omega) (by omega) (by rw [hfi]; omega)
  rw [if_pos hc] at hs
  rw [hfi] at hf
  rw [hc] at hch
  generalize (sumF l 0 0).1 = p at *
  generalize (sumF l 0 0).2 = mo at *
  rw [R_eq (k + 6) n 3 _ f3 rfl]
  have hlen := rowsL_length l
  have haw := awake_R1 (k + 5) n
  have e66 : ¬ ((66 : Int) < (l.length : Int)) := by omega
  have hcap : l.length * 32 ≤ 140737488355328 := by omega
  have hcap2 : l.length ≤ 9223372036854775807 := by omega
  have htake : List.take l.length (rowsA l) = rowsA l := List.take_of_length_le (by rw [rowsA_length]; omega)
  have htake2 : List.take l.length (rowsL l) = rowsL l := List.take_of_length_le (by rw [rowsL_length]; omega)
  have tb1 : Nat.testBit 3071 11 = true := by decide
  have hla := rowsA_length l
  have hz := zOK_rowsL l
  obtain ⟨u, m, hu, hx⟩ := own_any (k + 5) n (SI T aw noHI (OT n) (k + 6)) (l := l) ⟨.inr rfl⟩ (by omega) a b n (by omega)
  rw [if_neg hshort] at hx
  obtain ⟨e1, m1, g1, g2, g3, g4, g5⟩ := obsX_some hx
  obtain ⟨g5, g6⟩ := g5 rfl
  subst g6
  simp only [memX, boxX] at g1
  rcases hu with ⟨rfl, rfl, h0⟩ | ⟨rfl, rfl⟩
  · have e8 : ¬ (8 : Int) < (l.length : Int) := by rw [h0]; simp
    have hrow : rowsL l = [] := by rw [h0]; rfl
    rw [hrow] at hs hf hch g1 g2 hrs
    have hl0 : l.length = 0 := by rw [h0]; rfl
    rw [hl0] at g1
    simp only [Int.natCast_zero] at g1
    simp [f3, c3, go_sem, hrow, haw, memX, g1, g2, g3, g5, hs, hf, hch, tb1, zOK, liftRows, two, hrs, h1, h2]
  · by_cases h8 : 8 < l.length
    · have e8 : (8 : Int) < (l.length : Int) := by omega
      have e64 : ¬ ((l.length : Int) ≤ 64) := by omega
      simp [f3, c3, go_sem, e8, e64, hlen, haw, e66, memX, g1, g2, g3, g5, hs, hf, hch, hcap, hcap2, tb1, hla, hz, htake, htake2, liftRows_rows, allPs_rowsA, toPss_rowsA, two, hrs, h1, h2]
    · have e8 : ¬ (8 : Int) < (l.length : Int) := by omega
      simp [f3, c3, go_sem, e8, hlen, haw, e66, memX, g1, g2, g3, g5, hs, hf, hch, hcap, hcap2, tb1, hla, hz, htake, htake2, liftRows_rows, allPs_rowsA, toPss_rowsA, two, hrs, h1, h2]
set_option maxHeartbeats 3000000 in
theorem loads_r3 (k n : Nat) (l : List Ld) (a b : Int) (hl : l.length ≤ 66) (hg : ¬ (8 < l.length ∧ l.length ≤ 64)) (hn : 10001 < n) (hshort : ¬ longF l = true) (hc : checkP l = 0) (h1 : ¬ a < 1) (h2 : ¬ 1000000 < a) (h3 : b < 1) :
    R1 (k + 7) n 3 [.sl (rowsL l), .agg [.int .i64 a, .int .i64 b]] = some (.p (.bool true)) := by
  have hs := sum_run (k + 2) n l (by omega) (by omega)
  have hch := refcheck_run (k + 4) n l (by omega) (by omega)
  have hrs := refsum_run (k + 5) n l (by omega) (by omega)
  have hfi : firstI [checkP l, rng a 1 1000000, rng b 1 10000] = 3 := by simp [firstI, hc, rng_eq0 h1 h2, rng_eq3 (.inl h3)]
  have hf := floats_bad (k + 1) n l a b (by omega) (by omega) (by rw [hfi]; omega)
  rw [if_pos hc] at hs
  rw [hfi] at hf
  rw [hc] at hch
  generalize (sumF l 0 0).1 = p at *
  generalize (sumF l 0 0).2 = mo at *
  rw [R_eq (k + 6) n 3 _ f3 rfl]
  have hlen := rowsL_length l
  have haw := awake_R1 (k + 5) n
  have e66 : ¬ ((66 : Int) < (l.length : Int)) := by omega
  have hcap : l.length * 32 ≤ 140737488355328 := by omega
  have hcap2 : l.length ≤ 9223372036854775807 := by omega
  have htake : List.take l.length (rowsA l) = rowsA l := List.take_of_length_le (by rw [rowsA_length]; omega)
  have htake2 : List.take l.length (rowsL l) = rowsL l := List.take_of_length_le (by rw [rowsL_length]; omega)
  have tb1 : Nat.testBit 3071 11 = true := by decide
  have hla := rowsA_length l
  have hz := zOK_rowsL l
  obtain ⟨u, m, hu, hx⟩ := own_any (k + 5) n (SI T aw noHI (OT n) (k + 6)) (l := l) ⟨.inr rfl⟩ (by omega) a b n (by omega)
  rw [if_neg hshort] at hx
  obtain ⟨e1, m1, g1, g2, g3, g4, g5⟩ := obsX_some hx
  obtain ⟨g5, g6⟩ := g5 rfl
  subst g6
  simp only [memX, boxX] at g1
  rcases hu with ⟨rfl, rfl, h0⟩ | ⟨rfl, rfl⟩
  · have e8 : ¬ (8 : Int) < (l.length : Int) := by rw [h0]; simp
    have hrow : rowsL l = [] := by rw [h0]; rfl
    rw [hrow] at hs hf hch g1 g2 hrs
    have hl0 : l.length = 0 := by rw [h0]; rfl
    rw [hl0] at g1
    simp only [Int.natCast_zero] at g1
    simp [f3, c3, go_sem, hrow, haw, memX, g1, g2, g3, g5, hs, hf, hch, tb1, zOK, liftRows, two, hrs, h1, h2, h3]
  · by_cases h8 : 8 < l.length
    · have e8 : (8 : Int) < (l.length : Int) := by omega
      have e64 : ¬ ((l.length : Int) ≤ 64) := by omega
      simp [f3, c3, go_sem, e8, e64, hlen, haw, e66, memX, g1, g2, g3, g5, hs, hf, hch, hcap, hcap2, tb1, hla, hz, htake, htake2, liftRows_rows, allPs_rowsA, toPss_rowsA, two, hrs, h1, h2, h3]
    · have e8 : ¬ (8 : Int) < (l.length : Int) := by omega
      simp [f3, c3, go_sem, e8, hlen, haw, e66, memX, g1, g2, g3, g5, hs, hf, hch, hcap, hcap2, tb1, hla, hz, htake, htake2, liftRows_rows, allPs_rowsA, toPss_rowsA, two, hrs, h1, h2, h3]
set_option maxHeartbeats 3000000 in
theorem loads_r4 (k n : Nat) (l : List Ld) (a b : Int) (hl : l.length ≤ 66) (hg : ¬ (8 < l.length ∧ l.length ≤ 64)) (hn : 10001 < n) (hshort : ¬ longF l = true) (hc : checkP l = 0) (h1 : ¬ a < 1) (h2 : ¬ 1000000 < a) (h3 : ¬ b < 1) (h4 : 10000 < b) :
    R1 (k + 7) n 3 [.sl (rowsL l), .agg [.int .i64 a, .int .i64 b]] = some (.p (.bool true)) := by
  have hs := sum_run (k + 2) n l (by omega) (by omega)
  have hch := refcheck_run (k + 4) n l (by omega) (by omega)
  have hrs := refsum_run (k + 5) n l (by omega) (by omega)
  have hfi : firstI [checkP l, rng a 1 1000000, rng b 1 10000] = 3 := by simp [firstI, hc, rng_eq0 h1 h2, rng_eq3 (.inr h4)]
  have hf := floats_bad (k + 1) n l a b (by omega) (by omega) (by rw [hfi]; omega)
  rw [if_pos hc] at hs
  rw [hfi] at hf
  rw [hc] at hch
  generalize (sumF l 0 0).1 = p at *
  generalize (sumF l 0 0).2 = mo at *
  rw [R_eq (k + 6) n 3 _ f3 rfl]
  have hlen := rowsL_length l
  have haw := awake_R1 (k + 5) n
  have e66 : ¬ ((66 : Int) < (l.length : Int)) := by omega
  have hcap : l.length * 32 ≤ 140737488355328 := by omega
  have hcap2 : l.length ≤ 9223372036854775807 := by omega
  have htake : List.take l.length (rowsA l) = rowsA l := List.take_of_length_le (by rw [rowsA_length]; omega)
  have htake2 : List.take l.length (rowsL l) = rowsL l := List.take_of_length_le (by rw [rowsL_length]; omega)
  have tb1 : Nat.testBit 3071 11 = true := by decide
  have hla := rowsA_length l
  have hz := zOK_rowsL l
  obtain ⟨u, m, hu, hx⟩ := own_any (k + 5) n (SI T aw noHI (OT n) (k + 6)) (l := l) ⟨.inr rfl⟩ (by omega) a b n (by omega)
  rw [if_neg hshort] at hx
  obtain ⟨e1, m1, g1, g2, g3, g4, g5⟩ := obsX_some hx
  obtain ⟨g5, g6⟩ := g5 rfl
  subst g6
  simp only [memX, boxX] at g1
  rcases hu with ⟨rfl, rfl, h0⟩ | ⟨rfl, rfl⟩
  · have e8 : ¬ (8 : Int) < (l.length : Int) := by rw [h0]; simp
    have hrow : rowsL l = [] := by rw [h0]; rfl
    rw [hrow] at hs hf hch g1 g2 hrs
    have hl0 : l.length = 0 := by rw [h0]; rfl
    rw [hl0] at g1
    simp only [Int.natCast_zero] at g1
    simp [f3, c3, go_sem, hrow, haw, memX, g1, g2, g3, g5, hs, hf, hch, tb1, zOK, liftRows, two, hrs, h1, h2, h3, h4]
  · by_cases h8 : 8 < l.length
    · have e8 : (8 : Int) < (l.length : Int) := by omega
      have e64 : ¬ ((l.length : Int) ≤ 64) := by omega
      simp [f3, c3, go_sem, e8, e64, hlen, haw, e66, memX, g1, g2, g3, g5, hs, hf, hch, hcap, hcap2, tb1, hla, hz, htake, htake2, liftRows_rows, allPs_rowsA, toPss_rowsA, two, hrs, h1, h2, h3, h4]
    · have e8 : ¬ (8 : Int) < (l.length : Int) := by omega
      simp [f3, c3, go_sem, e8, hlen, haw, e66, memX, g1, g2, g3, g5, hs, hf, hch, hcap, hcap2, tb1, hla, hz, htake, htake2, liftRows_rows, allPs_rowsA, toPss_rowsA, two, hrs, h1, h2, h3, h4]
set_option maxHeartbeats 3000000 in
theorem loads_ok (k n : Nat) (l : List Ld) (a b : Int) (hl : l.length ≤ 66) (hg : ¬ (8 < l.length ∧ l.length ≤ 64)) (hn : 10001 < n) (hshort : ¬ longF l = true) (hc : checkP l = 0) (h1 : ¬ a < 1) (h2 : ¬ 1000000 < a) (h3 : ¬ b < 1) (h4 : ¬ 10000 < b) :
    R1 (k + 7) n 3 [.sl (rowsL l), .agg [.int .i64 a, .int .i64 b]] = some (.p (.bool true)) := by
  have hs := sum_run (k + 2) n l (by omega) (by omega)
  have hch := refcheck_run (k + 4) n l (by omega) (by omega)
  have hrs := refsum_run (k + 5) n l (by omega) (by omega)
  have hfi : firstI [checkP l, rng a 1 1000000, rng b 1 10000] = 0 := by simp [firstI, hc, rng_eq0 h1 h2, rng_eq0 h3 h4]
  have hq1 : a * b ≤ 1000000 * 10000 := Int.mul_le_mul (by omega) (by omega) (by omega) (by omega)
  have hq0 : 1 * 1 ≤ a * b := Int.mul_le_mul (by omega) (by omega) (by omega) (by omega)
  have hq : w64 (a * b) ≠ 0 := by rw [w64_in (by omega)]; omega
  have hf := floats_run (k + 1) n l a b (by omega) (by omega) (by omega) hq
  have hrf := reffloats_run (k + 4) n l a b (by omega) hn hq
  obtain ⟨b1, b2⟩ := check_bound hc
  rw [if_pos hc] at hs
  rw [if_pos hfi, floats_same b1 b2 (by omega) (by omega)] at hf
  rw [hc] at hch
  generalize (sumF l 0 0).1 = p at *
  generalize (sumF l 0 0).2 = mo at *
  obtain ⟨x, y, z, hw⟩ := refW_form p mo a b
  rw [hw] at hf hrf
  rw [R_eq (k + 6) n 3 _ f3 rfl]
  have hlen := rowsL_length l
  have haw := awake_R1 (k + 5) n
  have e66 : ¬ ((66 : Int) < (l.length : Int)) := by omega
  have hcap : l.length * 32 ≤ 140737488355328 := by omega
  have hcap2 : l.length ≤ 9223372036854775807 := by omega
  have htake : List.take l.length (rowsA l) = rowsA l := List.take_of_length_le (by rw [rowsA_length]; omega)
  have htake2 : List.take l.length (rowsL l) = rowsL l := List.take_of_length_le (by rw [rowsL_length]; omega)
  have tb1 : Nat.testBit 3071 11 = true := by decide
  have hla := rowsA_length l
  have hz := zOK_rowsL l
  obtain ⟨u, m, hu, hx⟩ := own_any (k + 5) n (SI T aw noHI (OT n) (k + 6)) (l := l) ⟨.inr rfl⟩ (by omega) a b n (by omega)
  rw [if_neg hshort] at hx
  obtain ⟨e1, m1, g1, g2, g3, g4, g5⟩ := obsX_some hx
  obtain ⟨g5, g6⟩ := g5 rfl
  subst g6
  simp only [memX, boxX] at g1
  rcases hu with ⟨rfl, rfl, h0⟩ | ⟨rfl, rfl⟩
  · have e8 : ¬ (8 : Int) < (l.length : Int) := by rw [h0]; simp
    have hrow : rowsL l = [] := by rw [h0]; rfl
    rw [hrow] at hs hf hch g1 g2 hrs hrf
    have hl0 : l.length = 0 := by rw [h0]; rfl
    rw [hl0] at g1
    simp only [Int.natCast_zero] at g1
    simp [f3, c3, go_sem, hrow, haw, memX, g1, g2, g3, g5, hs, hf, hch, tb1, zOK, liftRows, two, hrs, hrf, h1, h2, h3, h4]
  · by_cases h8 : 8 < l.length
    · have e8 : (8 : Int) < (l.length : Int) := by omega
      have e64 : ¬ ((l.length : Int) ≤ 64) := by omega
      simp [f3, c3, go_sem, e8, e64, hlen, haw, e66, memX, g1, g2, g3, g5, hs, hf, hch, hcap, hcap2, tb1, hla, hz, htake, htake2, liftRows_rows, allPs_rowsA, toPss_rowsA, two, hrs, hrf, h1, h2, h3, h4]
    · have e8 : ¬ (8 : Int) < (l.length : Int) := by omega
      simp [f3, c3, go_sem, e8, hlen, haw, e66, memX, g1, g2, g3, g5, hs, hf, hch, hcap, hcap2, tb1, hla, hz, htake, htake2, liftRows_rows, allPs_rowsA, toPss_rowsA, two, hrs, hrf, h1, h2, h3, h4]
end Go.Proofs.Ytnmnijgoggombaa.X
namespace Go.Proofs.Ytnmnijgoggombaa.X
open Go.Proofs.Try
set_option maxHeartbeats 3000000 in
theorem loads_n1 (k n : Nat) (a b : Int) (hn : 10001 < n) (h1 : a < 1) :
    R1 (k + 7) n 3 [.nilslice, .agg [.int .i64 a, .int .i64 b]] = some (.p (.bool true)) := by
  have hc : checkP [] = 0 := rfl
  have hs := sum_run (k + 2) n [] (by simp) (by omega)
  obtain ⟨n', hn'⟩ : ∃ n', n = n' + 1 := ⟨n - 1, by omega⟩
  have hch := refcheck_nil (k + 5) n'
  have hrs := refsum_nil (k + 5) n'
  rw [← hn'] at hch hrs
  have hfi : firstI [checkP [], rng a 1 1000000, rng b 1 10000] = 3 := by simp [firstI, hc, rng_eq3 (.inl h1)]
  have hf := floats_bad (k + 1) n [] a b (by simp) (by omega) (by rw [hfi]; omega)
  rw [hfi] at hf
  rw [if_pos hc] at hs
  rw [show rowsL [] = [] from rfl] at hs hf
  simp only [sumF] at hs 
  rw [R_eq (k + 6) n 3 _ f3 rfl]
  have haw := awake_R1 (k + 5) n
  have tb1 : Nat.testBit 3071 11 = true := by decide
  obtain ⟨u, m, hu, hx⟩ := own_any (k + 5) n (SI T aw noHI (OT n) (k + 6)) (l := []) ⟨.inl ⟨rfl, rfl⟩⟩ (by simp) a b n (by simp; omega)
  rw [if_neg (by simp [longF])] at hx
  obtain ⟨e1, m1, g1, g2, g3, g4, g5⟩ := obsX_some hx
  obtain ⟨g5, g6⟩ := g5 rfl
  subst g6
  simp only [memX, boxX, List.length_nil, Int.natCast_zero] at g1
  rcases hu with ⟨rfl, rfl, h0⟩ | ⟨rfl, rfl⟩
  · simp [f3, c3, go_sem, haw, memX, g1, g2, g3, g5, hs, hf, hch, hrs, tb1, zOK, liftRows, two, h1]
  · simp [f3, c3, go_sem, haw, memX, g1, g2, g3, g5, hs, hf, hch, hrs, tb1, zOK, liftRows, rowsA, rowsL, two, h1]
set_option maxHeartbeats 3000000 in
theorem loads_n2 (k n : Nat) (a b : Int) (hn : 10001 < n) (h1 : ¬ a < 1) (h2 : 1000000 < a) :
    R1 (k + 7) n 3 [.nilslice, .agg [.int .i64 a, .int .i64 b]] = some (.p (.bool true)) := by
  have hc : checkP [] = 0 := rfl
  have hs := sum_run (k + 2) n [] (by simp) (by omega)
  obtain ⟨n', hn'⟩ : ∃ n', n = n' + 1 := ⟨n - 1, by omega⟩
  have hch := refcheck_nil (k + 5) n'
  have hrs := refsum_nil (k + 5) n'
  rw [← hn'] at hch hrs
  have hfi : firstI [checkP [], rng a 1 1000000, rng b 1 10000] = 3 := by simp [firstI, hc, rng_eq3 (.inr h2)]
  have hf := floats_bad (k + 1) n [] a b (by simp) (by omega) (by rw [hfi]; omega)
  rw [hfi] at hf
  rw [if_pos hc] at hs
  rw [show rowsL [] = [] from rfl] at hs hf
  simp only [sumF] at hs 
  rw [R_eq (k + 6) n 3 _ f3 rfl]
  have haw := awake_R1 (k + 5) n
  have tb1 : Nat.testBit 3071 11 = true := by decide
  obtain ⟨u, m, hu, hx⟩ := own_any (k + 5) n (SI T aw noHI (OT n) (k + 6)) (l := []) ⟨.inl ⟨rfl, rfl⟩⟩ (by simp) a b n (by simp; omega)
  rw [if_neg (by simp [longF])] at hx
  obtain ⟨e1, m1, g1, g2, g3, g4, g5⟩ := obsX_some hx
  obtain ⟨g5, g6⟩ := g5 rfl
  subst g6
  simp only [memX, boxX, List.length_nil, Int.natCast_zero] at g1
  rcases hu with ⟨rfl, rfl, h0⟩ | ⟨rfl, rfl⟩
  · simp [f3, c3, go_sem, haw, memX, g1, g2, g3, g5, hs, hf, hch, hrs, tb1, zOK, liftRows, two, h1, h2]
  · simp [f3, c3, go_sem, haw, memX, g1, g2, g3, g5, hs, hf, hch, hrs, tb1, zOK, liftRows, rowsA, rowsL, two, h1, h2]
set_option maxHeartbeats 3000000 in
theorem loads_n3 (k n : Nat) (a b : Int) (hn : 10001 < n) (h1 : ¬ a < 1) (h2 : ¬ 1000000 < a) (h3 : b < 1) :
    R1 (k + 7) n 3 [.nilslice, .agg [.int .i64 a, .int .i64 b]] = some (.p (.bool true)) := by
  have hc : checkP [] = 0 := rfl
  have hs := sum_run (k + 2) n [] (by simp) (by omega)
  obtain ⟨n', hn'⟩ : ∃ n', n = n' + 1 := ⟨n - 1, by omega⟩
  have hch := refcheck_nil (k + 5) n'
  have hrs := refsum_nil (k + 5) n'
  rw [← hn'] at hch hrs
  have hfi : firstI [checkP [], rng a 1 1000000, rng b 1 10000] = 3 := by simp [firstI, hc, rng_eq0 h1 h2, rng_eq3 (.inl h3)]
  have hf := floats_bad (k + 1) n [] a b (by simp) (by omega) (by rw [hfi]; omega)
  rw [hfi] at hf
  rw [if_pos hc] at hs
  rw [show rowsL [] = [] from rfl] at hs hf
  simp only [sumF] at hs 
  rw [R_eq (k + 6) n 3 _ f3 rfl]
  have haw := awake_R1 (k + 5) n
  have tb1 : Nat.testBit 3071 11 = true := by decide
  obtain ⟨u, m, hu, hx⟩ := own_any (k + 5) n (SI T aw noHI (OT n) (k + 6)) (l := []) ⟨.inl ⟨rfl, rfl⟩⟩ (by simp) a b n (by simp; omega)
  rw [if_neg (by simp [longF])] at hx
  obtain ⟨e1, m1, g1, g2, g3, g4, g5⟩ := obsX_some hx
  obtain ⟨g5, g6⟩ := g5 rfl
  subst g6
  simp only [memX, boxX, List.length_nil, Int.natCast_zero] at g1
  rcases hu with ⟨rfl, rfl, h0⟩ | ⟨rfl, rfl⟩
  · simp [f3, c3, go_sem, haw, memX, g1, g2, g3, g5, hs, hf, hch, hrs, tb1, zOK, liftRows, two, h1, h2, h3]
  · simp [f3, c3, go_sem, haw, memX, g1, g2, g3, g5, hs, hf, hch, hrs, tb1, zOK, liftRows, rowsA, rowsL, two, h1, h2, h3]
set_option maxHeartbeats 3000000 in
theorem loads_n4 (k n : Nat) (a b : Int) (hn : 10001 < n) (h1 : ¬ a < 1) (h2 : ¬ 1000000 < a) (h3 : ¬ b < 1) (h4 : 10000 < b) :
    R1 (k + 7) n 3 [.nilslice, .agg [.int .i64 a, .int .i64 b]] = some (.p (.bool true)) := by
  have hc : checkP [] = 0 := rfl
  have hs := sum_run (k + 2) n [] (by simp) (by omega)
  obtain ⟨n', hn'⟩ : ∃ n', n = n' + 1 := ⟨n - 1, by omega⟩
  have hch := refcheck_nil (k + 5) n'
  have hrs := refsum_nil (k + 5) n'
  rw [← hn'] at hch hrs
  have hfi : firstI [checkP [], rng a 1 1000000, rng b 1 10000] = 3 := by simp [firstI, hc, rng_eq0 h1 h2, rng_eq3 (.inr h4)]
  have hf := floats_bad (k + 1) n [] a b (by simp) (by omega) (by rw [hfi]; omega)
  rw [hfi] at hf
  rw [if_pos hc] at hs
  rw [show rowsL [] = [] from rfl] at hs hf
  simp only [sumF] at hs 
  rw [R_eq (k + 6) n 3 _ f3 rfl]
  have haw := awake_R1 (k + 5) n
  have tb1 : Nat.testBit 3071 11 = true := by decide
  obtain ⟨u, m, hu, hx⟩ := own_any (k + 5) n (SI T aw noHI (OT n) (k + 6)) (l := []) ⟨.inl ⟨rfl, rfl⟩⟩ (by simp) a b n (by simp; omega)
  rw [if_neg (by simp [longF])] at hx
  obtain ⟨e1, m1, g1, g2, g3, g4, g5⟩ := obsX_some hx
  obtain ⟨g5, g6⟩ := g5 rfl
  subst g6
  simp only [memX, boxX, List.length_nil, Int.natCast_zero] at g1
  rcases hu with ⟨rfl, rfl, h0⟩ | ⟨rfl, rfl⟩
  · simp [f3, c3, go_sem, haw, memX, g1, g2, g3, g5, hs, hf, hch, hrs, tb1, zOK, liftRows, two, h1, h2, h3, h4]
  · simp [f3, c3, go_sem, haw, memX, g1, g2, g3, g5, hs, hf, hch, hrs, tb1, zOK, liftRows, rowsA, rowsL, two, h1, h2, h3, h4]
set_option maxHeartbeats 3000000 in
theorem loads_n5 (k n : Nat) (a b : Int) (hn : 10001 < n) (h1 : ¬ a < 1) (h2 : ¬ 1000000 < a) (h3 : ¬ b < 1) (h4 : ¬ 10000 < b) :
    R1 (k + 7) n 3 [.nilslice, .agg [.int .i64 a, .int .i64 b]] = some (.p (.bool true)) := by
  have hc : checkP [] = 0 := rfl
  have hs := sum_run (k + 2) n [] (by simp) (by omega)
  obtain ⟨n', hn'⟩ : ∃ n', n = n' + 1 := ⟨n - 1, by omega⟩
  have hch := refcheck_nil (k + 5) n'
  have hrs := refsum_nil (k + 5) n'
  rw [← hn'] at hch hrs
  have hfi : firstI [checkP [], rng a 1 1000000, rng b 1 10000] = 0 := by simp [firstI, hc, rng_eq0 h1 h2, rng_eq0 h3 h4]
  have hq1 : a * b ≤ 1000000 * 10000 := Int.mul_le_mul (by omega) (by omega) (by omega) (by omega)
  have hq0 : 1 * 1 ≤ a * b := Int.mul_le_mul (by omega) (by omega) (by omega) (by omega)
  have hq : w64 (a * b) ≠ 0 := by rw [w64_in (by omega)]; omega
  have hf := floats_run (k + 1) n [] a b (by simp) (by omega) (by omega) hq
  have hrf := reffloats_nil (k + 4) n a b hn hq
  rw [if_pos hfi] at hf
  simp only [sumF] at hf
  rw [floats_same (by omega) (by omega) (by omega) (by omega)] at hf
  obtain ⟨x, y, z, hw⟩ := refW_form 0 0 a b
  rw [hw] at hf hrf
  rw [if_pos hc] at hs
  rw [show rowsL [] = [] from rfl] at hs hf
  simp only [sumF] at hs 
  rw [R_eq (k + 6) n 3 _ f3 rfl]
  have haw := awake_R1 (k + 5) n
  have tb1 : Nat.testBit 3071 11 = true := by decide
  obtain ⟨u, m, hu, hx⟩ := own_any (k + 5) n (SI T aw noHI (OT n) (k + 6)) (l := []) ⟨.inl ⟨rfl, rfl⟩⟩ (by simp) a b n (by simp; omega)
  rw [if_neg (by simp [longF])] at hx
  obtain ⟨e1, m1, g1, g2, g3, g4, g5⟩ := obsX_some hx
  obtain ⟨g5, g6⟩ := g5 rfl
  subst g6
  simp only [memX, boxX, List.length_nil, Int.natCast_zero] at g1
  rcases hu with ⟨rfl, rfl, h0⟩ | ⟨rfl, rfl⟩
  · simp [f3, c3, go_sem, haw, memX, g1, g2, g3, g5, hs, hf, hch, hrs, tb1, zOK, liftRows, two, hrf, h1, h2, h3, h4]
  · simp [f3, c3, go_sem, haw, memX, g1, g2, g3, g5, hs, hf, hch, hrs, tb1, zOK, liftRows, rowsA, rowsL, two, hrf, h1, h2, h3, h4]
/-- THE LAW OF LOADS, carried out. -/
theorem loads_law (n : Nat) {l : List Ld} {v : PVal} (hv : LA l v) (a b : Int) (hn : 10001 < n) : R1 7 n 3 [v, .agg [.int .i64 a, .int .i64 b]] = some (.p (.bool true)) := by
  rcases hv.eq with ⟨rfl, rfl⟩ | rfl
  · by_cases h1 : a < 1
    · exact loads_n1 0 n a b hn h1
    by_cases h2 : 1000000 < a
    · exact loads_n2 0 n a b hn h1 h2
    by_cases h3 : b < 1
    · exact loads_n3 0 n a b hn h1 h2 h3
    by_cases h4 : 10000 < b
    · exact loads_n4 0 n a b hn h1 h2 h3 h4
    exact loads_n5 0 n a b hn h1 h2 h3 h4
  · by_cases hg : (8 < l.length ∧ l.length ≤ 64) ∨ 66 < l.length
    · exact loads_guard 0 n l a b hg
    have hl : l.length ≤ 66 := by omega
    have hg' : ¬ (8 < l.length ∧ l.length ≤ 64) := by omega
    by_cases hs : longF l = true
    · exact loads_long 0 n l a b hl hg' hn hs
    by_cases hc : checkP l = 0
    · by_cases h1 : a < 1
      · exact loads_r1 0 n l a b hl hg' hn hs hc h1
      by_cases h2 : 1000000 < a
      · exact loads_r2 0 n l a b hl hg' hn hs hc h1 h2
      by_cases h3 : b < 1
      · exact loads_r3 0 n l a b hl hg' hn hs hc h1 h2 h3
      by_cases h4 : 10000 < b
      · exact loads_r4 0 n l a b hl hg' hn hs hc h1 h2 h3 h4
      exact loads_ok 0 n l a b hl hg' hn hs hc h1 h2 h3 h4
    · exact loads_bad 0 n l a b hl hg' hn hs hc
theorem loads_ret {l : List Ld} {v : PVal} (hv : LA l v) (a b : Int) : Ret prog 3 [v, .agg [.int .i64 a, .int .i64 b]] (.p (.bool true)) := R1_ok 7 10002 _ _ _ (loads_law 10002 hv a b (by omega))
end Go.Proofs.Ytnmnijgoggombaa.X
/- What is read as data is a pure value; a law whose call comes back true keeps what was there. -/
namespace Go.Proofs.Ytnmnijgoggombaa.X
open Go.RowKit Go.ChangeShapes Go.WideShapes
/-- What a cell of plain data may hold. -/
inductive CT where
  | i (k : IntKind)
  | b
  | s
  | sl (cs : List CT)
mutual
def CV : CT → PVal → Prop
  | .i k, .int k' n => k' = k ∧ (Lit.int k n).wf = true
  | .b, .bool _ => True
  | .s, .str s => s.size ≤ maxLen
  | .sl _, .nilslice => True
  | .sl cs, .sl rows => rows.length ≤ maxLen ∧ ∀ row ∈ rows, CVs cs row
  | _, _ => False
def CVs : List CT → List PVal → Prop
  | [], [] => True
  | c :: cs, p :: ps => CV c p ∧ CVs cs ps
  | _, _ => False
end
def fieldsCT (P : Program) (r : TypeId → Option (List CT)) : Nat → List Field → Option (List CT)
  | _, [] => some []
  | off, f :: fs => if f.offset = off then match r f.type with
      | some l => if P.cellsOf f.type = l.length then match fieldsCT P r (off + l.length) fs with
          | some q => some (l ++ q)
          | none => none
        else none
      | none => none
    else none
/-- The cells of a type of plain data. -/
def cts (P : Program) : Nat → TypeId → Option (List CT)
  | 0, _ => none
  | n + 1, t => match P.underlying t with
    | some .bool => some [.b]
    | some (.int k) => some [.i k]
    | some .string => some [.s]
    | some (.slice e) => match cts P n e with
      | some l => if l.length = P.cellsOf e ∧ 0 < l.length then some [.sl l] else none
      | none => none
    | some (.struct fs) => match fieldsCT P (cts P n) 0 fs.toList with
      | some l => if l.length = P.cellsOf t then some l else none
      | none => none
    | some (.array k e) => match cts P n e with
      | some l => if l.length = P.cellsOf e ∧ k * l.length = P.cellsOf t then some (List.replicate k l).flatten else none
      | none => none
    | _ => none
theorem CVs_length : ∀ {l : List CT} {ps : List PVal}, CVs l ps → ps.length = l.length := by
  intro l
  induction l with
  | nil => intro ps h; cases ps with | nil => rfl | cons => simp [CVs] at h
  | cons c l ih => intro ps h; cases ps with | nil => simp [CVs] at h | cons p ps => simp only [CVs] at h; simp [ih h.2]
theorem CVs_append : ∀ {l q : List CT} {ps qs : List PVal}, CVs l ps → CVs q qs → CVs (l ++ q) (ps ++ qs) := by
  intro l
  induction l with
  | nil => intro q ps qs h1 h2; cases ps with | nil => simpa using h2 | cons => simp [CVs] at h1
  | cons c l ih => intro q ps qs h1 h2; cases ps with | nil => simp [CVs] at h1 | cons p ps => simp only [CVs, List.cons_append] at h1 ⊢; exact ⟨h1.1, ih h1.2 h2⟩
theorem CV_scalar {c : CT} {p : PVal} (h : CV c p) : p.scalar = true := by
  cases c <;> cases p <;> first | rfl | (simp [CV] at h)
theorem CVs_get {l : List CT} : ∀ {ps : List PVal}, CVs l ps → ∀ (i : Nat) (p : PVal), ps[i]? = some p → p.scalar = true := by
  induction l with
  | nil => intro ps h i p hp; cases ps with | nil => simp at hp | cons => simp [CVs] at h
  | cons c l ih =>
    intro ps h i p hp
    cases ps with
    | nil => simp at hp
    | cons x ps =>
      simp only [CVs] at h
      cases i with
      | zero => simp at hp; subst hp; exact CV_scalar h.1
      | succ i => exact ih h.2 i p (by simpa using hp)
theorem exists_rows {α : Type} {Q : Nat → α → Prop} : ∀ (n : Nat), (∀ i, i < n → ∃ r, Q i r) → ∃ rows : List α, rows.length = n ∧ ∀ i r, rows[i]? = some r → Q i r := by
  intro n
  induction n with
  | zero => intro _; exact ⟨[], rfl, fun i r h => by simp at h⟩
  | succ n ih =>
    intro h
    obtain ⟨rows, h1, h2⟩ := ih fun i hi => h i (by omega)
    obtain ⟨r, hr⟩ := h n (by omega)
    refine ⟨rows ++ [r], by simp [h1], fun i x hx => ?_⟩
    rw [List.getElem?_append] at hx
    split at hx
    · exact h2 i x hx
    · rename_i hi
      have hlt := (List.getElem?_eq_some_iff.1 hx).1
      simp at hlt
      have : i = n := by omega
      subst this
      simp [h1] at hx
      subst hx
      exact hr
section
variable {H : Type} {enc : TypeId × Value → H} {P : Program} {w : World} {base : Nat} {held : Bool} {F : Frz}
theorem trod_array {k : Nat} {e : TypeId} {fuel : Nat} {t : TypeId} {cs : List Value} {spare : Nat → Bool} {x : DataW H × List MemPlace} (ht : P.underlying t = some (.array k e)) (h : DataW.trod enc P w base spare held fuel t cs = some x) :
    ∃ (xs : List (DataW H × List MemPlace)) (n : Nat), fuel = n + 1 ∧ cs.length = P.cellsOf t ∧ ∀ i, i < k → ∃ y, DataW.trod enc P w base spare held n e ((cs.drop (i * P.cellsOf e)).take (P.cellsOf e)) = some y := by
  cases fuel with
  | zero => simp [DataW.trod] at h
  | succ n =>
    simp only [DataW.trod, ht] at h
    split at h
    · rename_i hl
      simp only [Option.map_eq_some_iff] at h
      obtain ⟨xs, hp, _⟩ := h
      refine ⟨xs, n, rfl, hl, fun i hi => ?_⟩
      have := mapM_some_get hp i i (by simp [hi])
      have hlen : xs.length = k := by simpa using mapM_some_length hp
      rw [List.getElem?_eq_getElem (by omega)] at this
      exact ⟨_, this⟩
    · cases h
theorem spot_none {a : Addr} {v : Value} (h : w.cell? a = some v) : a = ⟨a.block, a.off, none⟩ := by
  obtain ⟨b, o, s⟩ := a
  cases s with
  | none => rfl
  | some x =>
    exfalso
    simp only [World.cell?] at h
    split at h <;> simp at h
/-- WHAT IS READ AS PLAIN DATA IS PURE. -/
theorem trod_pv (hF : ∀ b o v, w.cell? ⟨b, o, none⟩ = some v → F.cell b o = some v) : ∀ (fuel n : Nat) (t : TypeId) (l : List CT) (cs : List Value) (x : DataW H × List MemPlace),
    cts P n t = some l → DataW.trod enc P w base (fun _ => true) held fuel t cs = some x →
    ∃ ps, CVs l ps ∧ cs.length = ps.length ∧ ∀ (i : Nat) (p : PVal) (v : Value), ps[i]? = some p → cs[i]? = some v → PV F p v := by
  intro fuel
  induction fuel with
  | zero => intro n t l cs x _ h; simp [DataW.trod] at h
  | succ fuel ih =>
    intro n t l cs x hc h
    cases n with
    | zero => simp [cts] at hc
    | succ n =>
      simp only [cts] at hc
      split at hc
      · rename_i ht
        cases hc
        obtain ⟨b, rfl, _⟩ := DataW.trod_bool ht h
        exact ⟨[.bool b], by simp [CVs, CV], rfl, fun i p v h1 h2 => by cases i <;> simp at h1 h2; subst h1 h2; exact .bool b⟩
      · rename_i k ht
        cases hc
        obtain ⟨m, rfl, _, hw⟩ := DataW.trod_int ht h
        exact ⟨[.int k m], by simp [CVs, CV, hw], rfl, fun i p v h1 h2 => by cases i <;> simp at h1 h2; subst h1 h2; exact .int k m⟩
      · rename_i ht
        cases hc
        obtain ⟨s, rfl, _, hs⟩ := DataW.trod_string ht h
        exact ⟨[.str s], by simp [CVs, CV, hs], rfl, fun i p v h1 h2 => by cases i <;> simp at h1 h2; subst h1 h2; exact .str s⟩
      · rename_i e ht
        split at hc
        · rename_i l0 hl0
          split at hc
          · rename_i hz
            cases hc
            rcases DataW.trod_slice ht h with ⟨rfl, _⟩ | ⟨a, len, cap, elems, rest, m, hfm, rfl, _, _, hle, hcap, hel, hels, hsp, _⟩
            · exact ⟨[.nilslice], by simp [CVs, CV], rfl, fun i p v h1 h2 => by cases i <;> simp at h1 h2; subst h1 h2; exact .nilslice⟩
            · cases hfm
              rw [← hz.1] at hels hsp
              generalize hzz : l0.length = z at *
              have hrow : ∀ i, i < len → ∃ row : List PVal, CVs l0 row ∧ ∀ (j : Nat) (p : PVal), row[j]? = some p → ∃ v, w.cell? ((a.add (i * z)).add j) = some v ∧ PV F p v := by
                intro i hi
                have := hels i hi
                rw [List.getElem?_eq_getElem (by omega), Option.bind_eq_some_iff] at this
                obtain ⟨cs', g1, g2⟩ := this
                obtain ⟨_, g3, g4⟩ := World.cells?_some g1
                obtain ⟨ps, k1, k2, k3⟩ := ih n e l0 cs' _ hl0 g2
                refine ⟨ps, k1, fun j p hp => ?_⟩
                have hj := (List.getElem?_eq_some_iff.1 hp).1
                have hj2 : j < cs'.length := by omega
                refine ⟨cs'[j], ?_, k3 j p _ hp (List.getElem?_eq_getElem hj2)⟩
                rw [g4 j (by omega), List.getElem?_eq_getElem hj2]
              obtain ⟨rows, r1, r2⟩ := exists_rows len hrow
              refine ⟨[.sl rows], ?_, rfl, ?_⟩
              · simp only [CVs, CV, and_true]
                refine ⟨by omega, fun row hr => ?_⟩
                obtain ⟨i, hi⟩ := List.mem_iff_getElem?.1 hr
                exact (r2 i row hi).1
              · intro i p v h1 h2
                cases i <;> simp at h1 h2
                subst h1 h2
                by_cases hc0 : cap = 0
                · subst hc0
                  have : len = 0 := by omega
                  subst this
                  have : rows = [] := List.eq_nil_of_length_eq_zero r1
                  subst this
                  exact .sl0 a
                · have hsp0 : ∃ v, w.cell? a = some v := by
                    by_cases hl0 : 0 < len
                    · have := hels 0 hl0
                      rw [List.getElem?_eq_getElem (by omega), Option.bind_eq_some_iff] at this
                      obtain ⟨cs', g1, g2⟩ := this
                      obtain ⟨_, g3, g4⟩ := World.cells?_some g1
                      have := g4 0 hz.2
                      rw [List.getElem?_eq_getElem (by omega)] at this
                      simp only [Nat.zero_mul, Addr.add, if_true] at this
                      exact ⟨_, this⟩
                    · obtain ⟨q1, q2⟩ := hsp rfl
                      have := q2 0 (by omega)
                      rw [List.getElem?_eq_getElem (by omega), Option.bind_eq_some_iff] at this
                      obtain ⟨cs', g1, g2⟩ := this
                      obtain ⟨_, g3, g4⟩ := World.cells?_some g1
                      have := g4 0 hz.2
                      rw [List.getElem?_eq_getElem (by omega), show len + 0 = 0 by omega] at this
                      simp only [Nat.zero_mul, Addr.add, if_true] at this
                      exact ⟨_, this⟩
                  obtain ⟨v0, hv0⟩ := hsp0
                  obtain ⟨b, o, s⟩ := a
                  have hs := spot_none hv0
                  simp only [Addr.mk.injEq, true_and] at hs
                  subst hs
                  rw [← r1]
                  have hcell : ∀ (i j : Nat) (row : List PVal) (p : PVal), rows[i]? = some row → row[j]? = some p → ∃ v, w.cell? ⟨b, o + i * z + j, none⟩ = some v ∧ PV F p v := by
                    intro i j row p g1 g2
                    have := (r2 i row g1).2 j p g2
                    rwa [Addr.add_none, Addr.add_none] at this
                  refine .sl rows b o cap z (fun i j => (w.cell? ⟨b, o + i * z + j, none⟩).getD undef) (by omega) ?_ ?_ ?_
                  · intro row hr
                    obtain ⟨i, hi⟩ := List.mem_iff_getElem?.1 hr
                    rw [CVs_length (r2 i row hi).1, hzz]
                  · intro i j row p g1 g2
                    obtain ⟨v, k1, k2⟩ := hcell i j row p g1 g2
                    refine ⟨CVs_get (r2 i row g1).1 j p g2, ?_⟩
                    rw [k1]
                    exact hF _ _ _ k1
                  · intro i j row p g1 g2
                    obtain ⟨v, k1, k2⟩ := hcell i j row p g1 g2
                    simp only [k1, Option.getD_some]
                    exact k2
          · cases hc
        · cases hc
      · rename_i fs ht
        split at hc
        · rename_i l0 hl0
          split at hc
          · rename_i hz
            cases hc
            obtain ⟨xs, m, hfm, _, hcl, hxl, hf⟩ := DataW.trod_struct ht h
            cases hfm
            have key : ∀ (fl : List Field) (k off : Nat) (q : List CT), (∀ i f, fl[i]? = some f → fs[k + i]? = some f) → fieldsCT P (cts P n) off fl = some q →
                off + q.length ≤ cs.length → ∃ ps, CVs q ps ∧ ∀ (i : Nat) (p : PVal) (v : Value), ps[i]? = some p → cs[off + i]? = some v → PV F p v := by
              intro fl
              induction fl with
              | nil => intro k off q _ hq _; cases hq; exact ⟨[], by simp [CVs], fun i p v h => by simp at h⟩
              | cons f fl ihf =>
                intro k off q hfl hq hoff
                simp only [fieldsCT] at hq
                split at hq
                · rename_i ho
                  split at hq
                  · rename_i lf hlf
                    split at hq
                    · rename_i hcf
                      split at hq
                      · rename_i qq hqq
                        cases hq
                        rw [List.length_append] at hoff
                        have hfk := hfl 0 f rfl
                        rw [Nat.add_zero] at hfk
                        have hi := hf k f hfk
                        have hk : k < xs.length := by
                          have := (Array.getElem?_eq_some_iff.1 hfk).1; omega
                        rw [List.getElem?_eq_getElem hk] at hi
                        obtain ⟨ps, p1, p2, p3⟩ := ih n f.type lf _ _ hlf hi
                        obtain ⟨qs, q1, q2⟩ := ihf (k + 1) (off + lf.length) qq (fun i g hg => by
                          have := hfl (i + 1) g (by simpa using hg)
                          rwa [show k + 1 + i = k + (i + 1) by omega]) hqq (by omega)
                        refine ⟨ps ++ qs, CVs_append p1 q1, fun i p v h1 h2 => ?_⟩
                        have hpl := CVs_length p1
                        rw [List.getElem?_append] at h1
                        split at h1
                        · rename_i hlt
                          refine p3 i p v h1 ?_
                          rw [List.getElem?_take, if_pos (by omega), List.getElem?_drop, ho]
                          exact h2
                        · rename_i hge
                          refine q2 (i - ps.length) p v h1 ?_
                          rw [← h2]; congr 1; omega
                      · cases hq
                    · cases hq
                  · cases hq
                · cases hq
            obtain ⟨ps, p1, p2⟩ := key fs.toList 0 0 l (fun i f hi => by simpa using hi) hl0 (by omega)
            exact ⟨ps, p1, by rw [CVs_length p1]; omega, fun i p v h1 h2 => p2 i p v h1 (by rwa [Nat.zero_add])⟩
          · cases hc
        · cases hc
      · rename_i k e ht
        split at hc
        · rename_i l0 hl0
          split at hc
          · rename_i hz
            cases hc
            obtain ⟨xs, m, hfm, hcl, hf⟩ := trod_array ht h
            cases hfm
            rw [← hz.1] at hf
            have key : ∀ (d : Nat), d ≤ k → ∃ ps, CVs (List.replicate d l0).flatten ps ∧ ∀ (i : Nat) (p : PVal) (v : Value), ps[i]? = some p → cs[i]? = some v → PV F p v := by
              intro d
              induction d with
              | zero => intro _; exact ⟨[], by simp [CVs], fun i p v h => by simp at h⟩
              | succ d ihd =>
                intro hd
                obtain ⟨ps, p1, p2⟩ := ihd (by omega)
                obtain ⟨y, hy⟩ := hf d (by omega)
                obtain ⟨qs, q1, q2, q3⟩ := ih n e l0 _ _ hl0 hy
                refine ⟨ps ++ qs, ?_, ?_⟩
                · rw [List.replicate_succ', List.flatten_append]
                  exact CVs_append p1 (by simpa using q1)
                · have hpl : ps.length = d * l0.length := by rw [CVs_length p1]; simp [List.length_flatten]
                  have hql := CVs_length q1
                  intro i p v h1 h2
                  rw [List.getElem?_append] at h1
                  split at h1
                  · exact p2 i p v h1 h2
                  · rename_i hge
                    have hlt := (List.getElem?_eq_some_iff.1 h1).1
                    refine q3 (i - ps.length) p v h1 ?_
                    rw [List.getElem?_take, if_pos (by omega), List.getElem?_drop, ← h2]
                    congr 1; omega
            obtain ⟨ps, p1, p2⟩ := key k (Nat.le_refl _)
            refine ⟨ps, p1, ?_, p2⟩
            rw [CVs_length p1, hcl, ← hz.2]
            simp [List.length_flatten]
          · cases hc
        · cases hc
      · cases hc
end
end Go.Proofs.Ytnmnijgoggombaa.X
/- A call's arguments as pure values; what a law's call does to the world. -/
namespace Go.Proofs.Ytnmnijgoggombaa.X
open Go.RowKit Go.ChangeShapes Go.WideShapes
def aggTy (P : Program) (t : TypeId) : Bool :=
  match P.underlying t with
  | some (.struct _) | some (.array _ _) => true
  | _ => false
def AV : Bool → List CT → PVal → Prop
  | true, l, .agg ps => CVs l ps
  | false, [c], p => CV c p
  | _, _, _ => False
/-- All that can be read in a world, read only. -/
def frzW (w : World) : Frz := { cell := fun b o => w.cell? ⟨b, o, none⟩, map := fun _ => none }
section
variable {H : Type} {enc : TypeId × Value → H} {P : Program} {w : World} {base : Nat} {held : Bool}
theorem arg_pv {n : Nat} {t : TypeId} {l : List CT} {r : Reach} {b0 : Nat} {v : Value} {d : DataW H} {ps : List MemPlace} (hc : cts P n t = some l) (hval : Value.okWide P w r b0 t v)
    (hd : DataW.Trod enc P w base (fun _ => true) held t v d ps) : ∃ p, AV (aggTy P t) l p ∧ PV (frzW w) p v := by
  obtain ⟨fuel, hf⟩ := hd
  obtain ⟨xs, h1, h2, h3⟩ := trod_pv (F := frzW w) (fun b o v h => h) fuel n t l _ _ hc hf
  have hlen := CVs_length h1
  cases n with
  | zero => simp [cts] at hc
  | succ n =>
    have one : ∀ c : CT, l = [c] → aggTy P t = false → v.cells = #[v] → ∃ p, AV (aggTy P t) l p ∧ PV (frzW w) p v := by
      rintro c rfl ha hv
      rw [ha]
      rw [hv] at h3 h2
      match xs, h1, h2, h3 with
      | [p], h1, _, h3 => exact ⟨p, by simpa [CVs, AV] using h1, h3 0 p v rfl rfl⟩
      | [], h1, _, _ => simp [CVs] at h1
      | _ :: _ :: _, h1, _, _ => simp [CVs] at h1
    have many : aggTy P t = true → (∃ cs, v = .agg cs) → ∃ p, AV (aggTy P t) l p ∧ PV (frzW w) p v := by
      rintro ha ⟨cs, rfl⟩
      rw [ha]
      simp only [Value.cells] at h2 h3
      refine ⟨.agg xs, h1, .agg xs cs (by simpa using h2) (fun p hp => ?_) (fun i p v h4 h5 => h3 i p v h4 (by simpa using h5))⟩
      obtain ⟨i, hi⟩ := List.mem_iff_getElem?.1 hp
      exact CVs_get h1 i p hi
    simp only [cts] at hc
    split at hc
    · rename_i ht
      cases hc
      refine one _ rfl (by simp [aggTy, ht]) ?_
      simp only [Value.okWide, ht, Cell.okWide, Cell.ok] at hval
      cases v <;> first | rfl | (simp at hval)
    · rename_i k ht
      cases hc
      refine one _ rfl (by simp [aggTy, ht]) ?_
      simp only [Value.okWide, ht, Cell.okWide, Cell.ok] at hval
      cases v <;> first | rfl | (simp at hval)
    · rename_i ht
      cases hc
      refine one _ rfl (by simp [aggTy, ht]) ?_
      simp only [Value.okWide, ht, Cell.okWide, Cell.ok] at hval
      cases v <;> first | rfl | (simp at hval)
    · rename_i e ht
      split at hc
      · split at hc
        · cases hc
          refine one _ rfl (by simp [aggTy, ht]) ?_
          simp only [Value.okWide, ht, Cell.okWide, Cell.ok] at hval
          cases v <;> first | rfl | (simp at hval)
        · cases hc
      · cases hc
    · rename_i fs ht
      refine many (by simp [aggTy, ht]) ?_
      simp only [Value.okWide, ht] at hval
      obtain ⟨cs, h, _⟩ := hval
      exact ⟨cs, h⟩
    · rename_i k e ht
      refine many (by simp [aggTy, ht]) ?_
      simp only [Value.okWide, ht] at hval
      obtain ⟨cs, h, _⟩ := hval
      exact ⟨cs, h⟩
    · cases hc
/-- What a law's call does: it comes back true, and leaves what was there. -/
theorem ret_calls {f : Nat} {ps : List PVal} {b : Bool} (h : Ret P f ps (.p (.bool b))) (w : World) {cv : Array Value} (hs : cv.size = ps.length)
    (hpv : ∀ (i : Nat) (p : PVal) (c : Value), ps[i]? = some p → cv[i]? = some c → PV (frzW w) p c) :
    Calls P f cv w fun e w' => e = .returned (.bool b) ∧ Below w.heap.size w w' := by
  have hg : Good { w0 := w, F0 := frzW w, mine := fun _ => False } { F := frzW w, loc := fun _ => none, cv := fun _ => undef } w :=
    { fz := fun b o v h => h, fzl := fun _ _ _ _ _ _ h => by simp at h, fm := fun r es h => by simp [frzW] at h, fml := fun r es h => by simp [frzW] at h
      inj := fun _ _ _ _ h => by simp at h, bnd := fun _ _ h => by simp at h, size := Nat.le_refl _, keep := fun _ _ _ => rfl, own := fun _ _ h => by simp at h
      fz0 := fun _ _ _ h => h, fm0 := fun _ _ h => h, fzn := fun _ _ _ h => .inl h, fmn := fun _ _ h => .inl h, os := rfl, tape := rfl, output := rfl }
  have hm : MR { F := frzW w, loc := fun _ => none, cv := fun _ => undef } w [] := fun pl a h => by simp [getAt, lk] at h
  refine Calls.mono (h.2 0 _ _ w cv hm hg ⟨by simpa using hs, fun i v c h1 h2 => ?_⟩ (fun t v h => by simp [lk] at h)) ?_
  · simp only [List.getElem?_map, Option.map_eq_some_iff] at h1
    obtain ⟨p, hp, rfl⟩ := h1
    exact .p (hpv i p c hp h2)
  · intro e w' he
    cases e with
    | returned c =>
      obtain ⟨G', v, h', m', a1, a2, a3, a4, rfl, _⟩ := he
      have hout := a1.out
      cases hout
      refine ⟨rfl, a3.os, a3.tape, a3.output, a3.size, fun k hk => a3.keep k hk (fun h => h)⟩
    | _ => exact he.elim
end
end Go.Proofs.Ytnmnijgoggombaa.X
namespace Go.Proofs.Ytnmnijgoggombaa.X
open Go.Proofs.Try
/-- Rows of loads. -/
theorem loads_rows : ∀ {rows : List (List PVal)}, (∀ row ∈ rows, CVs [.s, .i .i64, .i .i64] row) → ∃ l : List Ld, rows = rowsL l := by
  intro rows
  induction rows with
  | nil => intro _; exact ⟨[], rfl⟩
  | cons row rows ih =>
    intro h
    obtain ⟨l, rfl⟩ := ih fun r hr => h r (by simp [hr])
    have := h row (by simp)
    match row, this with
    | [.str s, .int k a, .int k' b], h =>
      simp only [CVs, CV, and_true] at h
      obtain ⟨_, ⟨rfl, _⟩, ⟨rfl, _⟩⟩ := h
      exact ⟨⟨s, a, b⟩ :: l, rfl⟩
theorem loads_arg {v : PVal} (h : AV false [.sl [.s, .i .i64, .i .i64]] v) : ∃ l, LA l v := by
  cases v <;> simp only [AV, CV] at h
  · exact ⟨[], ⟨.inl ⟨rfl, rfl⟩⟩⟩
  · obtain ⟨l, rfl⟩ := loads_rows h.2
    exact ⟨l, ⟨.inr rfl⟩⟩
theorem two_arg {v : PVal} (h : AV true [.i .i64, .i .i64] v) : ∃ a b, v = .agg [.int .i64 a, .int .i64 b] := by
  cases v <;> simp only [AV] at h
  rename_i ps
  match ps, h with
  | [.int k a, .int k' b], h =>
    simp only [CVs, CV, and_true] at h
    obtain ⟨⟨rfl, _⟩, ⟨rfl, _⟩⟩ := h
    exact ⟨a, b, rfl⟩
theorem loads_call {v x : PVal} (hv : AV false [.sl [.s, .i .i64, .i .i64]] v) (hx : AV true [.i .i64, .i .i64] x) : Ret prog 3 [v, x] (.p (.bool true)) := by
  obtain ⟨l, hl⟩ := loads_arg hv
  obtain ⟨a, b, rfl⟩ := two_arg hx
  exact loads_ret hl a b
end Go.Proofs.Ytnmnijgoggombaa.X
