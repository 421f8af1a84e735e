/- Part 2 of the proof of one statement about the given program: what the program's code computes is carried out over abstract values, and that is proved to hold of the program in every world. -/
import Derived.Test.YtnmnijgoggombaaLoA
import Derived.Lib.AppendZeros
import Derived.RangeFuncNested
import Derived.OrdersIn
import Derived.Scope
import Derived.RangeFuncLeaves
set_option maxRecDepth 100000
/- The operations are sound, part H: copy, clear, slicing, maps. -/
namespace Go.Proofs.Ytnmnijgoggombaa.X
open Go.RowKit
section
variable {P : Program} {C : Ctx} {G : Gh} {w : World} {m : Mem}
/-- Rows 'off' .. of an owned slice become rows 'src', all pure. -/
theorem overwrite_ok (hm : MR G w m) (hg : Good C G w) {pl : Place} {ptr : Bool} {z : Nat} {rows : List (List AVal)} (hp : getAt m pl = some (.own ptr z rows)) {b o cap : Nat} (hL : G.loc pl = some ⟨b, o, cap, z⟩)
    {cs : Array Value} {ty : TypeId} (hheap : w.heap[b]? = some (.cells cs ty (0, 0))) (hcs : o + cap * z ≤ cs.size) (hrows : rows.length ≤ cap) (hz : ∀ row ∈ rows, row.length = z)
    (off : Nat) (src : List (List PVal)) (hsz : ∀ row ∈ src, row.length = z) (hfit : off + src.length ≤ rows.length) (vals : List Value) (hvl : vals.length = src.length * z)
    (hval : ∀ i j row p, src[i]? = some row → row[j]? = some p → p.scalar = true ∧ ∃ c, vals[i * z + j]? = some c ∧ PV G.F p c) :
    ∃ G', Step C G w (w.setRow b (cs.toList.take (o + off * z) ++ vals ++ cs.toList.drop (o + off * z + vals.length)).toArray)
      (setAt m pl (.own ptr z (rows.take off ++ liftRows src ++ rows.drop (off + src.length)))) Kill.no.fn G' := by
  have hlen : (rows.take off ++ liftRows src ++ rows.drop (off + src.length)).length = rows.length := by
    simp only [List.length_append, List.length_take, List.length_drop, liftRows, List.length_map]; omega
  have hle : o + off * z + vals.length ≤ cs.size := by
    have : (off + src.length) * z ≤ cap * z := Nat.mul_le_mul_right _ (by omega)
    rw [Nat.add_mul] at this
    omega
  have hsp := fun q => getElem?_splice cs.toList vals (o + off * z) q (by simpa using hle)
  refine rewrite_ok hm hg hp hL hheap (setRow_heap w b cs _ ty _ hheap) (fun k hk => setRow_other w b k _ hk) (by simp) rfl rfl rfl ?_ hlen ?_ ?_
  · simp only [List.size_toArray, List.length_append, List.length_take, List.length_drop, Array.length_toList]; omega
  · intro row hr
    rcases List.mem_append.1 hr with hr | hr
    · rcases List.mem_append.1 hr with hr | hr
      · exact hz row (List.mem_of_mem_take hr)
      · simp only [liftRows, List.mem_map] at hr
        obtain ⟨r, hr2, rfl⟩ := hr
        simpa using hsz r hr2
    · exact hz row (List.mem_of_mem_drop hr)
  · intro i j a ha
    obtain ⟨row, h1, h2⟩ := cellAt_some.1 ha
    rw [List.append_assoc, List.getElem?_append] at h1
    have hmin : (rows.take off).length = off := by rw [List.length_take]; omega
    rw [hmin] at h1
    rw [List.getElem?_toArray, hsp]
    split at h1
    · rename_i hi
      rw [List.getElem?_take, if_pos hi] at h1
      have hold : cellAt rows i j = some a := cellAt_some.2 ⟨row, h1, h2⟩
      have hj := (cellAt_lt hz hold).2
      have : (i + 1) * z ≤ off * z := Nat.mul_le_mul_right _ (by omega)
      rw [Nat.add_mul] at this
      exact .inl ⟨hold, by rw [if_neg (by omega)]; simp⟩
    · rename_i hi
      rw [List.getElem?_append] at h1
      have hll : (liftRows src).length = src.length := by simp [liftRows]
      rw [hll] at h1
      split at h1
      · rename_i hi2
        obtain ⟨prow, p, k1, k2, rfl⟩ := cellAt_lift (cellAt_some.2 ⟨row, h1, h2⟩)
        obtain ⟨hs, c, hc, hpv⟩ := hval (i - off) j prow p k1 k2
        have hj : j < z := by rw [← hsz prow (List.mem_of_getElem? k1)]; exact (List.getElem?_eq_some_iff.1 k2).1
        have hidx : (i - off) * z + j < src.length * z := by
          have : (i - off + 1) * z ≤ src.length * z := Nat.mul_le_mul_right _ (by omega)
          rw [Nat.add_mul] at this; omega
        have he : i * z = off * z + (i - off) * z := by rw [← Nat.add_mul]; congr 1; omega
        refine .inr ⟨p, rfl, hs, c, ?_, hpv⟩
        rw [if_pos (by omega), show o + i * z + j - (o + off * z) = (i - off) * z + j by omega]
        exact hc
      · rename_i hi2
        rw [List.getElem?_drop, show off + src.length + (i - off - src.length) = i by omega] at h1
        have hold : cellAt rows i j = some a := cellAt_some.2 ⟨row, h1, h2⟩
        have : (off + src.length) * z ≤ i * z := Nat.mul_le_mul_right _ (by omega)
        rw [Nat.add_mul] at this
        exact .inl ⟨hold, by rw [if_neg (by omega)]; simp⟩
theorem Src.pv {z : Nat} {c : Value} {rows : List (List PVal)} {val : Nat → Value} (h : Src G w z c (liftRows rows) none val) {i j : Nat} {row : List PVal} {p : PVal}
    (h1 : rows[i]? = some row) (h2 : row[j]? = some p) : p.scalar = true ∧ PV G.F p (val (i * z + j)) ∧ (val (i * z + j)).oneCell' = true := by
  have hc : cellAt (liftRows rows) i j = some (.p p) := cellAt_some.2 ⟨row.map .p, by simp [liftRows, h1], by simp [h2]⟩
  obtain ⟨q1, q2, q3⟩ := h.cell i j _ hc
  refine ⟨q1, ?_, q2⟩
  rcases q3 with ⟨x, e, hx⟩ | ⟨q, e, _⟩
  · cases e; exact hx
  · cases e
theorem oCopy_ok {t u ty e : TypeId} {z : Nat} (ht : P.underlying t = some (.slice e)) (hsz : tySize P e = some z)
    (hm : MR G w m) (hg : Good C G w) {x s : AVal} {cx cs' : Value} (hx : VR G x cx) (hs : VR G s cs') {out : Out} (h : oCopy z m x s = some out) :
    OutOK C G w ((Builtin.copy_ #[t, u] ty #[cx, cs']).run P w) out := by
  unfold oCopy at h
  split at h
  · cases h
  · rename_i src hsrc
    split at h
    · rename_i pl off len
      split at h
      · rename_i z' rows hget
        split at h
        · rename_i hc
          obtain ⟨rfl, hc2, hc3⟩ := hc
          cases h
          obtain ⟨val, hS⟩ := rowsOf_src hm hg hs hsrc hc3
          obtain ⟨b, o, cap, cs, cty, g1, g2, g3, g4, g5, g6, g7, g8⟩ := hm pl _ hget
          cases hx with
          | rsl _ _ _ ad k hxx =>
            obtain ⟨q1, q2, q3⟩ := hxx _ _ _ _ g1
            have hll : (liftRows src).length = src.length := by simp [liftRows]
            have hlen := hS.len_run (P := P) w
            rw [hll] at hlen
            have hfirst := hS.first_run (P := P) (min src.length len) (by rw [hll]; omega)
            have hsl : (Src.list val (min src.length len * z')).length = min src.length len * z' := by simp [Src.list]
            have hrun : ∀ w', (storeCells ad (Src.list val (min src.length len * z'))).run P w = .ok () w' →
                (Builtin.copy_ #[t, u] ty #[.slice (some ad) len k, cs']).run P w = .ok (goInt (min src.length len : Nat)) w' := by
              intro w' hw'
              have hmn : Nat.min src.length len = min src.length len := rfl
              simp only [Builtin.copy_, List.getElem?_toArray, List.getElem?_cons_zero, List.getElem?_cons_succ, Sem.run_bind, run_underlying ht, Result.andThen_ok, hlen, hmn, run_tySize hsz, hfirst, hw', Sem.run_pure]
            by_cases hn : min src.length len = 0
            · have h0 : (storeCells ad (Src.list val (min src.length len * z'))).run P w = .ok () w := by
                rw [hn, Nat.zero_mul]; simp [Src.list, storeCells]
              rw [hrun _ h0]
              refine ⟨_, w, G, rfl, .p (.int _ _), ?_, hg, Frz.le_refl _, fun _ _ _ h => h⟩
              rw [hn]
              simp only [List.take_zero, liftRows, List.map_nil, List.append_nil, Nat.add_zero, List.take_append_drop]
              intro q a ha
              by_cases hu : pl.under q
              · obtain ⟨r, rfl⟩ := hu
                rw [getAt_set_under hget] at ha
                exact hm _ a (by rw [getAt_app, hget]; exact ha)
              · obtain ⟨y, hy, hsh⟩ := getAt_set_else (a := .own false z' rows) rfl hget hu ha
                exact (hm q y hy).move hsh (Frz.le_refl _) (fun L hL => ⟨hL, rfl⟩) rfl fun _ _ => rfl
            · have had := q3 (.inl (by omega))
              subst had
              have hone : ∀ v ∈ Src.list val (min src.length len * z'), v.oneCell' = true := by
                intro v hv
                simp only [Src.list, List.mem_map, List.mem_range] at hv
                obtain ⟨q, hq, rfl⟩ := hv
                have hzp : 0 < z' := by rcases Nat.eq_zero_or_pos z' with h | h; (rw [h] at hq; simp at hq); exact h
                have hi : q / z' < src.length := by
                  have := (Nat.div_lt_iff_lt_mul hzp).2 hq; omega
                have hl0 : src[q / z'].length = z' := by simpa using List.all_eq_true.1 hc3 _ (List.getElem_mem hi)
                have hj : q % z' < src[q / z'].length := by rw [hl0]; exact Nat.mod_lt _ hzp
                have := (hS.pv (List.getElem?_eq_getElem hi) (List.getElem?_eq_getElem hj)).2.2
                rwa [divmod] at this
              have hfit : o + off * z' + (Src.list val (min src.length len * z')).length ≤ cs.size := by
                rw [hsl]
                have : (off + min src.length len) * z' ≤ cap * z' := Nat.mul_le_mul_right _ (by omega)
                rw [Nat.add_mul] at this; omega
              have hst := run_storeCells_at P b (o + off * z') cty (Src.list val (min src.length len * z')) 0 cs w g3 (by simpa using hfit) hone
              rw [Nat.add_zero] at hst
              have htl : (src.take (min src.length len)).length = min src.length len := by rw [List.length_take]; omega
              obtain ⟨G', hG'⟩ := overwrite_ok hm hg hget g1 g3 g4 g5 g7 off (src.take (min src.length len))
                (fun row hr => by simpa using List.all_eq_true.1 hc3 row (List.mem_of_mem_take hr)) (by rw [htl]; omega) (Src.list val (min src.length len * z')) (by rw [hsl, htl])
                (fun i j row p h1 h2 => by
                  rw [List.getElem?_take] at h1
                  split at h1
                  · rename_i hi
                    obtain ⟨k1, k2, _⟩ := hS.pv h1 h2
                    have hl0 : row.length = z' := by simpa using List.all_eq_true.1 hc3 row (List.mem_of_getElem? h1)
                    have hj := (List.getElem?_eq_some_iff.1 h2).1
                    refine ⟨k1, _, Src.get ?_, k2⟩
                    have : (i + 1) * z' ≤ min src.length len * z' := Nat.mul_le_mul_right _ (by omega)
                    rw [Nat.add_mul] at this; omega
                  · cases h1)
              rw [htl] at hG'
              exact ⟨_, _, G', hrun _ hst, .p (.int _ _), hG'⟩
        · cases h
      · cases h
    · cases h
      have hp := hx.out; cases hp
      have hll : ∃ n, (Builtin.lenOf cs').run P w = .ok n w := by
        unfold rowsOf at hsrc
        split at hsrc
        · have hp := hs.out; cases hp; exact ⟨0, by simp [Builtin.lenOf]⟩
        · have hp := hs.out; cases hp <;> exact ⟨_, rfl⟩
        · cases hs with | rsl _ _ _ _ _ _ => exact ⟨_, rfl⟩
        · cases hsrc
      obtain ⟨n, hn⟩ := hll
      have hf : ∃ a, (Builtin.firstCells z 0 cs').run P w = .ok a w := by
        unfold rowsOf at hsrc
        split at hsrc
        · have hp := hs.out; cases hp; exact ⟨#[], by simp [Builtin.firstCells]⟩
        · have hp := hs.out; cases hp <;> exact ⟨#[], by simp [Builtin.firstCells, loadCells, loadCellsFrom]⟩
        · cases hs with | rsl _ _ _ _ _ _ => exact ⟨#[], by simp [Builtin.firstCells, loadCells, loadCellsFrom]⟩
        · cases hsrc
      obtain ⟨a, ha⟩ := hf
      have hmn : Nat.min n 0 = 0 := Nat.min_zero n
      have : (Builtin.copy_ #[t, u] ty #[.slice none 0 0, cs']).run P w = .ok (goInt (0 : Nat)) w := by
        simp only [Builtin.copy_, List.getElem?_toArray, List.getElem?_cons_zero, List.getElem?_cons_succ, Sem.run_bind, run_underlying ht, Result.andThen_ok, hn, hmn, run_tySize hsz, ha, Sem.run_pure]
      rw [this]
      exact OutOK.pure hm hg (.p (.int _ _))
    · cases h
theorem oClear_ok {t ty e : TypeId} {z : Nat} {zero : List PVal} (ht : P.underlying t = some (.slice e)) (hz : tyZero P e zero = true)
    (hm : MR G w m) (hg : Good C G w) {x : AVal} {cx : Value} (hx : VR G x cx) {out : Out} (h : oClear z zero m x = some out) :
    OutOK C G w ((Builtin.clear_ #[t] ty #[cx]).run P w) out := by
  obtain ⟨zv, hz1, hz2, hz3⟩ := run_tyZero (w := w) hz
  unfold oClear at h
  split at h
  · rename_i pl off len
    split at h
    · rename_i z' rows hget
      split at h
      · rename_i hc
        obtain ⟨rfl, hc2, hc3, hc4⟩ := hc
        cases h
        obtain ⟨b, o, cap, cs, cty, g1, g2, g3, g4, g5, g6, g7, g8⟩ := hm pl _ hget
        cases hx with
        | rsl _ _ _ ad k hxx =>
          obtain ⟨q1, q2, q3⟩ := hxx _ _ _ _ g1
          by_cases hn : len = 0
          · subst hn
            have : (Builtin.clear_ #[t] ty #[.slice (some ad) 0 k]).run P w = .ok (.tuple #[]) w := by
              simp [Builtin.clear_, run_underlying ht]
            rw [this]
            refine ⟨_, w, G, rfl, .p (.tup [] #[] rfl (fun i p v h => by simp at h)), ?_, hg, Frz.le_refl _, fun _ _ _ h => h⟩
            simp only [List.replicate_zero, List.append_nil, Nat.add_zero, List.take_append_drop]
            intro q a ha
            by_cases hu : pl.under q
            · obtain ⟨r, rfl⟩ := hu
              rw [getAt_set_under hget] at ha
              exact hm _ a (by rw [getAt_app, hget]; exact ha)
            · obtain ⟨y, hy, hsh⟩ := getAt_set_else (a := .own false z' rows) rfl hget hu ha
              exact (hm q y hy).move hsh (Frz.le_refl _) (fun L hL => ⟨hL, rfl⟩) rfl fun _ _ => rfl
          · have had := q3 (.inl (by omega))
            subst had
            have hzs : zv.cells.size = z' := by rw [(cellsIs_ok (F := G.F) hz2).1, hc3]
            have hzcl : (Builtin.zeroCells zv.cells len).size = len * z' := by rw [size_zeroCells, hzs]
            have hzget : ∀ i j, i < len → j < z' → ∃ p c, zero[j]? = some p ∧ (Builtin.zeroCells zv.cells len).toList[i * z' + j]? = some c ∧ p.scalar = true ∧ PV G.F p c := by
              intro i j hi hj
              have hlt : i * zero.length + j < len * z' := by
                rw [hc3]
                have : (i + 1) * z' ≤ len * z' := Nat.mul_le_mul_right _ (by omega)
                rw [Nat.add_mul] at this; omega
              obtain ⟨p, c, k1, k2, k3, k4⟩ := zeros_get hz2 (len * z') i j (by omega) hlt
              refine ⟨p, c, k1, ?_, k3, k4 _⟩
              rw [hc3] at k2
              simp only [Builtin.zeroCells, hzs, Array.getElem?_toList]
              rw [hzs] at k2
              exact k2
            have hone : ∀ v ∈ (Builtin.zeroCells zv.cells len).toList, v.oneCell' = true := by
              intro v hv
              obtain ⟨q, hq⟩ := List.mem_iff_getElem?.1 hv
              have hql : q < len * z' := by
                have := (List.getElem?_eq_some_iff.1 hq).1
                simpa [hzcl] using this
              have hzp : 0 < z' := by rcases Nat.eq_zero_or_pos z' with h | h; (rw [h] at hql; simp at hql); exact h
              obtain ⟨p, c, _, k2, k3, k4⟩ := hzget (q / z') (q % z') ((Nat.div_lt_iff_lt_mul hzp).2 hql) (Nat.mod_lt _ hzp)
              rw [divmod, hq] at k2
              cases k2
              exact k4.oneCell k3
            have hfit : o + off * z' + (Builtin.zeroCells zv.cells len).toList.length ≤ cs.size := by
              rw [Array.length_toList, hzcl]
              have : (off + len) * z' ≤ cap * z' := Nat.mul_le_mul_right _ (by omega)
              rw [Nat.add_mul] at this; omega
            have hst := run_storeCells_at P b (o + off * z') cty (Builtin.zeroCells zv.cells len).toList 0 cs w g3 (by simpa using hfit) hone
            rw [Nat.add_zero] at hst
            have hrun : (Builtin.clear_ #[t] ty #[.slice (some ⟨b, o + off * z', none⟩) len k]).run P w = .ok (.tuple #[]) (w.setRow b (cs.toList.take (o + off * z') ++ (Builtin.zeroCells zv.cells len).toList ++ cs.toList.drop (o + off * z' + (Builtin.zeroCells zv.cells len).toList.length)).toArray) := by
              cases len with
              | zero => exact absurd rfl hn
              | succ len => simp [Builtin.clear_, run_underlying ht, hz1, hst]
            obtain ⟨G', hG'⟩ := overwrite_ok hm hg hget g1 g3 g4 g5 g7 off (List.replicate len zero) (fun row hr => by rw [(List.mem_replicate.1 hr).2]; exact hc3) (by simpa using hc2)
              (Builtin.zeroCells zv.cells len).toList (by simp [hzcl])
              (fun i j row p h1 h2 => by
                have hi : i < len := by have := (List.getElem?_eq_some_iff.1 h1).1; simpa using this
                have hr := (List.mem_replicate.1 (List.mem_of_getElem? h1)).2
                subst hr
                have hj : j < z' := by rw [← hc3]; exact (List.getElem?_eq_some_iff.1 h2).1
                obtain ⟨p', c, k1, k2, k3, k4⟩ := hzget i j hi hj
                rw [h2] at k1; cases k1
                exact ⟨k3, c, k2, k4⟩)
            simp only [liftRows, List.map_replicate, List.length_replicate] at hG'
            exact ⟨_, _, G', hrun, .p (.tup [] #[] rfl (fun i p v h => by simp at h)), hG'⟩
      · cases h
    · cases h
  · cases h
    have hp := hx.out; cases hp
    have : (Builtin.clear_ #[t] ty #[.slice none 0 0]).run P w = .ok (.tuple #[]) w := by
      simp [Builtin.clear_, run_underlying ht]
    rw [this]
    exact OutOK.pure hm hg (.p (.tup [] #[] rfl (fun i p v h => by simp at h)))
  · cases h
/-- A bound of a slice expression. -/
def BndR (x : Option Int) (c : Option Value) : Prop :=
  (x = none ∧ c = none) ∨ ∃ k n, x = some n ∧ c = some (.int k n)
theorem run_bounds {isSlice : Bool} {len cap : Nat} {lo hi : Option Int} {cl ch : Option Value} (hl : BndR lo cl) (hh : BndR hi ch)
    (h0 : 0 ≤ lo.getD 0) (h1 : lo.getD 0 ≤ hi.getD len) (h2 : hi.getD len ≤ cap) :
    (Instr.sliceBounds isSlice len cap cl ch none).run P w = .ok ((lo.getD 0).toNat, (hi.getD (len : Int)).toNat, cap) w := by
  have e1 : ∀ (k : IntKind) (n : Int) (y : Nat) (code : BoundsCode), 0 ≤ n → n ≤ y → (Instr.sliceBound (.int k n) y code).run P w = .ok n.toNat w := fun k n y code a b => by
    simp [Instr.sliceBound, asIntOf, a, b]
  rcases hl with ⟨rfl, rfl⟩ | ⟨k, n, rfl, rfl⟩ <;> rcases hh with ⟨rfl, rfl⟩ | ⟨k', n', rfl, rfl⟩
  · simp [Instr.sliceBounds]
  · simp only [Option.getD_some, Option.getD_none] at *
    simp [Instr.sliceBounds, e1 k' n' cap _ h1 h2]
  · simp only [Option.getD_some, Option.getD_none] at *
    simp [Instr.sliceBounds, e1 k n len _ h0 h1]
  · simp only [Option.getD_some] at *
    have h3 : (0 : Int) ≤ n' := Int.le_trans h0 h1
    have h4 : n ≤ ((n'.toNat : Nat) : Int) := by rw [Int.toNat_of_nonneg h3]; exact h1
    simp [Instr.sliceBounds, e1 k' n' cap _ h3 h2, e1 k n n'.toNat _ h0 h4]
theorem oSlice_ok {t e : TypeId} {z : Nat} (ht : P.underlying t = some (.slice e)) (hsz : tySize P e = some z) (hm : MR G w m) (hg : Good C G w) {x : AVal} {c : Value} (hx : VR G x c)
    {lo hi : Option Int} {cl ch : Option Value} (hl : BndR lo cl) (hh : BndR hi ch) {out : Out} (h : oSlice z m x lo hi = some out) :
    OutOK C G w ((Instr.sliceAt t c cl ch none).run P w) out := by
  have red : ∀ (a : Option Addr) (len cap : Nat), 0 ≤ lo.getD 0 → lo.getD 0 ≤ hi.getD len → hi.getD len ≤ cap →
      (Instr.sliceAt t (.slice a len cap) cl ch none).run P w = .ok (.slice (if cap = (lo.getD 0).toNat then a else a.map (·.add ((lo.getD 0).toNat * z))) ((hi.getD (len : Int)).toNat - (lo.getD 0).toNat) (cap - (lo.getD 0).toNat)) w := by
    intro a len cap h0 h1 h2
    have hb := run_bounds (P := P) (w := w) (isSlice := true) hl hh h0 h1 h2
    simp only [Instr.sliceAt, Instr.slice, Sem.run_bind, run_underlying ht, Result.andThen_ok, hb, run_tySize hsz, Sem.run_pure]
  unfold oSlice at h
  split at h
  · split at h
    · rename_i hc
      cases h
      have hp := hx.out; cases hp
      have hd : hi.getD (0 : Nat) = 0 := by simpa using hc.2
      rw [red none 0 0 (by omega) (by rw [hc.1, hd]; exact Int.le_refl _) (by rw [hd]; exact Int.le_refl _)]
      rw [hc.1, hd]
      exact OutOK.pure hm hg (.p (by simpa using PV.nilslice))
    · cases h
  · rename_i rows
    split at h
    · rename_i hc
      obtain ⟨h0, h1, h2, h3⟩ := hc
      cases h
      have hp := hx.out
      cases hp with
      | sl _ b o cap z' f hcap hz' hcc hpv =>
        rw [red _ rows.length cap h0 h1 (by omega)]
        refine OutOK.pure hm hg (.p ?_)
        have hzr : ∀ row ∈ rows, row.length = z := fun row hr => by simpa using List.all_eq_true.1 h3 row hr
        have hlen : ((rows.take (hi.getD (rows.length : Int)).toNat).drop (lo.getD 0).toNat).length = (hi.getD (rows.length : Int)).toNat - (lo.getD 0).toNat := by
          rw [List.length_drop, List.length_take]; omega
        rw [← hlen]
        have hget : ∀ (i j : Nat) (row : List PVal) (p : PVal), ((rows.take (hi.getD (rows.length : Int)).toNat).drop (lo.getD 0).toNat)[i]? = some row → row[j]? = some p →
            rows[(lo.getD 0).toNat + i]? = some row := by
          intro i j row p h1 _
          rw [List.getElem?_drop, List.getElem?_take] at h1
          split at h1
          · exact h1
          · cases h1
        by_cases hcl : cap = (lo.getD 0).toNat
        · rw [if_pos hcl]
          have he : (rows.take (hi.getD (rows.length : Int)).toNat).drop (lo.getD 0).toNat = [] := by
            apply List.eq_nil_of_length_eq_zero
            rw [hlen]; omega
          rw [he]
          exact .sl [] b o _ z' f (by simp) (by simp) (fun i j row p h => by simp at h) (fun i j row p h => by simp at h)
        · rw [if_neg hcl]
          simp only [Option.map_some, Addr.add_none]
          have hzz : ∀ row ∈ rows, z' = z := fun row hr => by rw [← hz' row hr, hzr row hr]
          refine .sl _ b (o + (lo.getD 0).toNat * z) _ z (fun i j => f ((lo.getD 0).toNat + i) j) (by omega) (fun row hr => hzr row (List.mem_of_mem_take (List.mem_of_mem_drop hr))) ?_ ?_
          · intro i j row p g1 g2
            have hr := hget i j row p g1 g2
            obtain ⟨k1, k2⟩ := hcc _ j row p hr g2
            refine ⟨k1, ?_⟩
            rw [hzz row (List.mem_of_getElem? hr), Nat.add_mul] at k2
            rw [show o + (lo.getD 0).toNat * z + i * z + j = o + ((lo.getD 0).toNat * z + i * z) + j by omega]
            exact k2
          · intro i j row p g1 g2
            exact hpv _ j row p (hget i j row p g1 g2) g2
      | sl0 ad =>
        simp only [List.length_nil, Int.natCast_zero] at h1 h2
        have e0 : lo.getD 0 = 0 := by omega
        rw [red _ 0 0 h0 (by simpa using h1) (by simpa using h2), e0]
        refine OutOK.pure hm hg (.p ?_)
        have eh : (hi.getD (0 : Int)).toNat = 0 := by omega
        simpa [eh] using PV.sl0 ad
    · cases h
  · rename_i pl off len
    split at h
    · rename_i z' rows hget
      split at h
      · rename_i hc
        obtain ⟨h0, h1, h2, rfl⟩ := hc
        cases h
        obtain ⟨b, o, cap, cs, cty, g1, _⟩ := hm pl _ hget
        cases hx with
        | rsl _ _ _ ad k hxx =>
          obtain ⟨q1, q2, q3⟩ := hxx _ _ _ _ g1
          rw [red _ len k h0 h1 (by omega)]
          by_cases hcl : k = (lo.getD 0).toNat
          · rw [if_pos hcl]
            refine OutOK.pure hm hg (.rsl _ _ _ _ _ fun b' o' cap' z'' hL => ?_)
            rw [g1] at hL
            cases hL
            refine ⟨by omega, by omega, fun hor => ?_⟩
            have e0 : (lo.getD 0).toNat = 0 := by omega
            rw [e0, Nat.add_zero]
            exact q3 (by omega)
          · rw [if_neg hcl]
            simp only [Option.map_some]
            refine OutOK.pure hm hg (.rsl _ _ _ _ _ fun b' o' cap' z'' hL => ?_)
            rw [g1] at hL
            cases hL
            refine ⟨by omega, by omega, fun hor => ?_⟩
            rw [q3 (by omega), Addr.add_none, Nat.add_mul]
            congr 1
            omega
      · cases h
    · cases h
  · cases h
theorem oSsl_ok {t : TypeId} (ht : P.underlying t = some .string) (hm : MR G w m) (hg : Good C G w) {x : AVal} {c : Value} (hx : VR G x c)
    {lo hi : Option Int} {cl ch : Option Value} (hl : BndR lo cl) (hh : BndR hi ch) {out : Out} (h : oSsl m x lo hi = some out) :
    OutOK C G w ((Instr.sliceAt t c cl ch none).run P w) out := by
  unfold oSsl at h
  split at h
  · rename_i s
    split at h
    · rename_i hc
      obtain ⟨h0, h1, h2⟩ := hc
      cases h
      have hp := hx.out; cases hp
      have hb := run_bounds (P := P) (w := w) (isSlice := false) hl hh h0 h1 h2
      simp only [Instr.sliceAt, Instr.slice, Sem.run_bind, run_underlying ht, Result.andThen_ok, Option.isSome_none, Bool.false_eq_true, if_false, hb, Sem.run_pure]
      first | exact OutOK.pure hm hg (.p (.str _)) | (simp; exact OutOK.pure hm hg (.p (.str _)))
    · cases h
  · cases h
end
end Go.Proofs.Ytnmnijgoggombaa.X
/- The operations are sound, part I: maps. -/
namespace Go.Proofs.Ytnmnijgoggombaa.X
open Go.RowKit
def firstB : List (Bool × Value) → Nat → Option (Nat × Value)
  | [], _ => none
  | x :: r, i => if x.1 = true then some (i, x.2) else firstB r (i + 1)
theorem eq_of_cellEq {l : Leaf} {a b : PVal} (h : cellEq l a b = some true) : a = b := by
  cases l <;> cases a <;> cases b <;> simp [cellEq] at h
  · obtain ⟨rfl, rfl⟩ := h; rfl
  · subst h; rfl
  · rename_i s t
    rw [← beq_iff_eq, ← beq_toListBytes] at h
    have : s = t := by
      obtain ⟨⟨x⟩⟩ := s
      obtain ⟨⟨y⟩⟩ := t
      have h' : ((⟨x⟩ : Array UInt8) == ⟨y⟩) = true := h
      have := eq_of_beq h'
      rw [this]
    rw [this]
theorem eq_of_cellsEq {ls : List Leaf} {avs bs : List PVal} (h : cellsEq ls avs bs = some true) : avs = bs := by
  induction ls generalizing avs bs with
  | nil => cases avs <;> cases bs <;> simp [cellsEq] at h ⊢
  | cons l ls ih =>
    cases avs <;> cases bs <;> simp only [cellsEq] at h <;> try cases h
    rename_i a r b q
    cases hc : cellEq l a b with
    | none => simp [hc] at h
    | some x =>
      cases hr : cellsEq ls r q with
      | none => simp [hc, hr] at h
      | some y =>
        simp [hc, hr] at h
        obtain ⟨rfl, rfl⟩ := h
        rw [eq_of_cellEq hc, ih hr]
section
variable {P : Program} {F : Frz} {w : World}
/-- A type that keys may have: its leaves; several cells, if it is a struct or an array. -/
def keyTy (P : Program) (t : TypeId) (ls : List Leaf) : Bool := leaves P 10000 t == some ls && (tyAgg P t == some false || (tyAgg P t == some true && ls.length != 1))
theorem keyEq_formed {t : TypeId} {ls : List Leaf} (ht : keyTy P t ls = true) {a b : PVal} {r : Bool} (h : keyEq ls a b = some r) {c d : Value} (ha : PV F a c) (hb : PV F b d) :
    ∃ avs bs, Formed P F t c avs ∧ Formed P F t d bs ∧ cellsEq ls avs bs = some r ∧ avs.length = ls.length := by
  simp only [keyTy, Bool.and_eq_true, beq_iff_eq, Bool.or_eq_true, bne_iff_ne, ne_eq] at ht
  obtain ⟨hl, hag⟩ := ht
  unfold keyEq at h
  split at h
  · rename_i l
    have hf : tyAgg P t = some false := by
      rcases hag with h | ⟨_, h⟩
      · exact h
      · simp at h
    exact ⟨[a], [b], .inr ⟨hf, a, rfl, ha⟩, .inr ⟨hf, b, rfl, hb⟩, by simp [cellsEq, h], rfl⟩
  · rename_i avs bs hne
    have ht : tyAgg P t = some true := by
      rcases hag with h | ⟨h, _⟩
      · obtain ⟨ag, h1, h2⟩ := leaves_agg hl
        rw [h] at h1; cases h1
        have := h2 rfl
        match ls, this with
        | [l], _ => exact absurd rfl (hne l)
      · exact h
    cases ha with
    | agg _ cv hs hc hp =>
      cases hb with
      | agg _ dv hs' hc' hp' =>
        exact ⟨avs, bs, .inl ⟨ht, cv, rfl, hs, hp⟩, .inl ⟨ht, dv, rfl, hs', hp'⟩, h, (cellsEq_length h).1⟩
  · cases h
theorem eq_of_keyEq {ls : List Leaf} {a b : PVal} (h : keyEq ls a b = some true) : a = b := by
  unfold keyEq at h
  split at h
  · exact eq_of_cellEq h
  · rw [eq_of_cellsEq h]
  · cases h
/-- A key of such a type is hashed without a word. -/
theorem checkKey_leaves (empty : Bool) : ∀ (d e : Nat) (t : TypeId) (ls : List Leaf), leaves P d t = some ls → ∀ (x : Value) (ps : List PVal), ps.length = ls.length →
    Formed P F t x ps → (Instr.checkKey empty (d + e) t x).run P w = .ok () w := by
  intro d
  induction d with
  | zero => intro e t ls h; simp [leaves] at h
  | succ d ih =>
    intro e t ls h x ps hl hx
    rw [show d + 1 + e = d + e + 1 by omega]
    simp only [leaves] at h
    cases hu : P.underlying t with
    | none => simp [hu] at h
    | some dd =>
      have hagg : tyAgg P t = some (aggD dd) := by simp [tyAgg, hu]
      cases dd <;> simp only [hu] at h <;> try (cases h; done)
      case bool => simp [Instr.checkKey, run_underlying hu]
      case int k0 => simp [Instr.checkKey, run_underlying hu]
      case string => simp [Instr.checkKey, run_underlying hu]
      case struct fs =>
        rcases hx with ⟨_, xs, rfl, sx, rx⟩ | ⟨h1, _⟩
        · split at h
          · cases h
          · have key : ∀ (l : List Field) (off : Nat) (ls : List Leaf), leafFs P (leaves P d) l off = some ls → off + ls.length ≤ ps.length →
                (forIn l PUnit.unit (fun f _ => do
                  if f.name ≠ "_" then Instr.checkKey empty (d + e) f.type (← part f.type xs f.offset)
                  pure (ForInStep.yield PUnit.unit)) : Sem PUnit).run P w = .ok PUnit.unit w := by
              intro l
              induction l with
              | nil => intro off ls _ _; simp
              | cons f l ihl =>
                intro off ls hl hp
                simp only [leafFs] at hl
                split at hl
                · cases hl
                · rename_i hn
                  have hname : f.name ≠ "_" := fun e => hn (.inl e)
                  have hoff : f.offset = off := Classical.byContradiction fun e => hn (.inr e)
                  cases hg : leaves P d f.type with
                  | none => simp [hg] at hl
                  | some ls1 =>
                    simp only [hg] at hl
                    split at hl
                    · rename_i hsz
                      simp only [Option.map_eq_some_iff] at hl
                      obtain ⟨ls2, hl2, rfl⟩ := hl
                      simp only [List.length_append] at hp
                      obtain ⟨ag, hag, h1⟩ := leaves_agg hg
                      obtain ⟨a, pa, fa⟩ := formed_part (P := P) (F := F) (w := w) hag hsz sx rx (off := off) (by omega) h1
                      have hr := ih e f.type ls1 hg a _ (by rw [List.length_take, List.length_drop]; omega) fa
                      have hrest := ihl (off + ls1.length) ls2 hl2 (by omega)
                      simp only [List.forIn_cons, hname, ne_eq, not_false_eq_true, if_true, Sem.run_bind, hoff, pa, hr, Result.andThen_ok, Sem.run_pure]
                      exact hrest
                    · cases hl
            have := key fs.toList 0 ls h (by omega)
            simp only [Instr.checkKey, Sem.run_bind, run_underlying hu, Result.andThen_ok]
            rw [← Array.forIn_toList]
            simp only [this]
            rfl
        · rw [hagg] at h1; cases h1
      case array n el =>
        rcases hx with ⟨_, xs, rfl, sx, rx⟩ | ⟨h1, _⟩
        · cases hg : leaves P d el with
          | none => simp [hg] at h
          | some ls1 =>
            simp only [hg] at h
            split at h
            · rename_i hsz
              cases h
              obtain ⟨ag, hag, h1⟩ := leaves_agg hg
              have hlen : ps.length = n * ls1.length := by
                simpa using hl
              have key : ∀ (k s : Nat), (s + k) * ls1.length ≤ ps.length →
                  (forIn (List.range' s k) PUnit.unit (fun i _ => do
                    Instr.checkKey empty (d + e) el (← part el xs (i * (← sizeOf el)))
                    pure (ForInStep.yield PUnit.unit)) : Sem PUnit).run P w = .ok PUnit.unit w := by
                intro k
                induction k with
                | zero => intro s _; simp
                | succ k ihk =>
                  intro s hp
                  have em : (s + (k + 1)) * ls1.length = s * ls1.length + ls1.length + k * ls1.length := by rw [Nat.add_mul, Nat.add_mul]; omega
                  have em2 : (s + 1 + k) * ls1.length = s * ls1.length + ls1.length + k * ls1.length := by rw [Nat.add_mul, Nat.add_mul]; omega
                  obtain ⟨a, pa, fa⟩ := formed_part (P := P) (F := F) (w := w) hag hsz sx rx (off := s * ls1.length) (by omega) h1
                  have hr := ih e el ls1 hg a _ (by rw [List.length_take, List.length_drop]; omega) fa
                  have hrest := ihk (s + 1) (by omega)
                  simp only [List.range'_succ, List.forIn_cons, Sem.run_bind, run_tySize hsz, pa, hr, Result.andThen_ok, Sem.run_pure]
                  exact hrest
              have := key n 0 (by rw [Nat.zero_add]; omega)
              simp only [Instr.checkKey, Sem.run_bind, run_underlying hu, Result.andThen_ok, Std.Legacy.Range.forIn_eq_forIn_range', Std.Legacy.Range.size, Nat.sub_zero, Nat.add_one_sub_one, Nat.div_one]
              rw [this]
              rfl
            · cases h
        · rw [hagg] at h1; cases h1
/-- The entries' keys held against one key, in order. -/
theorem findAsking_ok {kt : TypeId} {ls : List Leaf} (hl : keyTy P kt ls = true) {k : PVal} {c : Value} (hk : PV F k c) :
    ∀ (es : List (PVal × PVal)) (ev : List MapEntry) (bs : List Bool) (i : Nat), ev.length = es.length → bs.length = es.length →
    (∀ (j : Nat) (e : PVal × PVal) (v : MapEntry), es[j]? = some e → ev[j]? = some v → PV F e.1 v.key) →
    (∀ (j : Nat) (e : PVal × PVal) (b : Bool), es[j]? = some e → bs[j]? = some b → keyEq ls k e.1 = some b) →
    (Instr.findAsking kt c ev i).run P w = .ok (firstB (bs.zip (ev.map (·.val))) i) w := by
  intro es
  induction es with
  | nil =>
    intro ev bs i h1 h2 _ _
    have := List.eq_nil_of_length_eq_zero h1
    subst this
    simp [Instr.findAsking, firstB]
  | cons e es ih =>
    intro ev bs i h1 h2 h3 h4
    cases ev with
    | nil => simp at h1
    | cons v ev =>
      cases bs with
      | nil => simp at h2
      | cons b bs =>
        have q1 := h3 0 e v (by simp) (by simp)
        have q3 := h4 0 e b (by simp) (by simp)
        obtain ⟨avs, bs', f1, f2, f3, _⟩ := keyEq_formed hl q3 hk q1
        have hl' : leaves P 10000 kt = some ls := by
          simp only [keyTy, Bool.and_eq_true, beq_iff_eq] at hl
          exact hl.1
        have heq : (Op.equal kt c v.key).run P w = .ok b w :=
          equalIn_leaves (P := P) (F := F) (w := w) 10000 0 kt ls hl' c v.key avs bs' b f1 f2 f3
        have hrest := ih ev bs (i + 1) (by simpa using h1) (by simpa using h2) (fun j e' v' a b' => h3 (j + 1) e' v' (by simpa using a) (by simpa using b')) (fun j e' b' a c' => h4 (j + 1) e' b' (by simpa using a) (by simpa using c'))
        simp only [Instr.findAsking, Sem.run_bind, heq, Result.andThen_ok, List.map_cons, List.zip_cons_cons, firstB]
        cases b with
        | true => simp
        | false => simpa using hrest
/-- The keys of plain types are found at once. -/
theorem findNow_ok {d : TypeDesc} {l : Leaf} (hd : (d = .bool ∧ l = .b) ∨ (∃ k, d = .int k ∧ l = .i) ∨ (d = .string ∧ l = .s)) {k : PVal} {c : Value} (hk : PV F k c) :
    ∀ (es : List (PVal × PVal)) (ev : List MapEntry) (bs : List Bool) (i : Nat), ev.length = es.length → bs.length = es.length →
    (∀ (j : Nat) (e : PVal × PVal) (v : MapEntry), es[j]? = some e → ev[j]? = some v → PV F e.1 v.key) →
    (∀ (j : Nat) (e : PVal × PVal) (b : Bool), es[j]? = some e → bs[j]? = some b → cellEq l k e.1 = some b) →
    Instr.findNow d c ev i = some (firstB (bs.zip (ev.map (·.val))) i) := by
  intro es
  induction es with
  | nil =>
    intro ev bs i h1 h2 _ _
    have := List.eq_nil_of_length_eq_zero h1
    subst this
    simp [Instr.findNow, firstB]
  | cons e es ih =>
    intro ev bs i h1 h2 h3 h4
    cases ev with
    | nil => simp at h1
    | cons v ev =>
      cases bs with
      | nil => simp at h2
      | cons b bs =>
        have q1 := h3 0 e v (by simp) (by simp)
        have q3 := h4 0 e b (by simp) (by simp)
        have hs : Instr.sameNow d c v.key = some b := by
          rcases hd with ⟨rfl, rfl⟩ | ⟨k0, rfl, rfl⟩ | ⟨rfl, rfl⟩
          · obtain ⟨e1, e2⟩ := e
            cases k <;> cases e1 <;> simp [cellEq] at q3
            cases hk; simp only at q1; cases hv : v.key <;> rw [hv] at q1 <;> cases q1
            simp [Instr.sameNow, q3]
          · obtain ⟨e1, e2⟩ := e
            cases k <;> cases e1 <;> simp [cellEq] at q3
            cases hk; simp only at q1; cases hv : v.key <;> rw [hv] at q1 <;> cases q1
            simp [Instr.sameNow, q3]
          · obtain ⟨e1, e2⟩ := e
            cases k <;> cases e1 <;> simp [cellEq] at q3
            cases hk; simp only at q1; cases hv : v.key <;> rw [hv] at q1 <;> cases q1
            simp only [Instr.sameNow, beq_toListBytes, q3]
        have hrest := ih ev bs (i + 1) (by simpa using h1) (by simpa using h2) (fun j e' v' a b' => h3 (j + 1) e' v' (by simpa using a) (by simpa using b')) (fun j e' b' a c' => h4 (j + 1) e' b' (by simpa using a) (by simpa using c'))
        simp only [Instr.findNow, hs, List.map_cons, List.zip_cons_cons, firstB]
        cases b with
        | true => simp
        | false => simpa using hrest
/-- A key is found, or not: whatever the kind of its type. -/
theorem findKey_ok {kt : TypeId} {ls : List Leaf} (hl : keyTy P kt ls = true) {k : PVal} {c : Value} (hk : PV F k c)
    (es : List (PVal × PVal)) (ev : List MapEntry) (bs : List Bool) (h1 : ev.length = es.length) (h2 : bs.length = es.length)
    (h3 : ∀ (j : Nat) (e : PVal × PVal) (v : MapEntry), es[j]? = some e → ev[j]? = some v → PV F e.1 v.key)
    (h4 : ∀ (j : Nat) (e : PVal × PVal) (b : Bool), es[j]? = some e → bs[j]? = some b → keyEq ls k e.1 = some b) :
    (Instr.findKey kt c ev).run P w = .ok (firstB (bs.zip (ev.map (·.val))) 0) w := by
  have hask := findAsking_ok (w := w) hl hk es ev bs 0 h1 h2 h3 h4
  have hl' : leaves P (9999 + 1) kt = some ls := by
    simp only [keyTy, Bool.and_eq_true, beq_iff_eq] at hl
    exact hl.1
  generalize 9999 = dd at hl'
  simp only [leaves] at hl'
  cases hu : P.underlying kt with
  | none => simp [hu] at hl'
  | some d =>
    have hgo : ∀ r, Instr.findNow d c ev 0 = some r → r = firstB (bs.zip (ev.map (·.val))) 0 → (Instr.findKey kt c ev).run P w = .ok (firstB (bs.zip (ev.map (·.val))) 0) w := by
      intro r hr he
      simp only [Instr.findKey, Sem.run_bind, run_underlying hu, Result.andThen_ok, hr, Sem.run_pure, he]
    have hno : Instr.findNow d c ev 0 = none → (Instr.findKey kt c ev).run P w = .ok (firstB (bs.zip (ev.map (·.val))) 0) w := by
      intro hr
      simp only [Instr.findKey, Sem.run_bind, run_underlying hu, Result.andThen_ok, hr]
      exact hask
    have plain : ∀ l : Leaf, ((d = .bool ∧ l = .b) ∨ (∃ k, d = .int k ∧ l = .i) ∨ (d = .string ∧ l = .s)) → ls = [l] → (Instr.findKey kt c ev).run P w = .ok (firstB (bs.zip (ev.map (·.val))) 0) w := by
      intro l hd hls
      subst hls
      exact hgo _ (findNow_ok hd hk es ev bs 0 h1 h2 h3 fun j e b a hb => h4 j e b a hb) rfl
    cases d <;> simp only [hu] at hl' <;> try (cases hl'; done)
    case bool => cases hl'; exact plain .b (.inl ⟨rfl, rfl⟩) rfl
    case int k0 => cases hl'; exact plain .i (.inr (.inl ⟨k0, rfl, rfl⟩)) rfl
    case string => cases hl'; exact plain .s (.inr (.inr ⟨rfl, rfl⟩)) rfl
    case struct fs =>
      cases ev with
      | nil => exact hgo none rfl (by cases bs <;> simp [firstB])
      | cons v ev => exact hno (by simp [Instr.findNow, Instr.sameNow])
    case array n e =>
      cases ev with
      | nil => exact hgo none rfl (by cases bs <;> simp [firstB])
      | cons v ev => exact hno (by simp [Instr.findNow, Instr.sameNow])
/-- The key itself is hashed without a word. -/
theorem checkKey_ok {kt : TypeId} {ls : List Leaf} (hl : keyTy P kt ls = true) {k : PVal} {c : Value} (hk : PV F k c) {r : Bool} (h : keyEq ls k k = some r) (empty : Bool) :
    (Instr.checkKey empty 10000 kt c).run P w = .ok () w := by
  obtain ⟨avs, bs, f1, _, _, f4⟩ := keyEq_formed hl h hk hk
  have hl' : leaves P 10000 kt = some ls := by
    simp only [keyTy, Bool.and_eq_true, beq_iff_eq] at hl
    exact hl.1
  exact checkKey_leaves (F := F) empty 10000 0 kt ls hl' c avs f4 f1
theorem mapGet_spec {ls : List Leaf} {k : PVal} : ∀ (es : List (PVal × PVal)) (r : Option PVal), mapGet ls es k = some r →
    ∃ bs : List Bool, bs.length = es.length ∧ (∀ (j : Nat) (e : PVal × PVal) (b : Bool), es[j]? = some e → bs[j]? = some b → keyEq ls k e.1 = some b) ∧
      ∀ (ev : List MapEntry) (i : Nat), ev.length = es.length → (∀ (j : Nat) (e : PVal × PVal) (v : MapEntry), es[j]? = some e → ev[j]? = some v → PV F e.2 v.val) →
        (r = none ∧ firstB (bs.zip (ev.map (·.val))) i = none) ∨ ∃ x n c, r = some x ∧ firstB (bs.zip (ev.map (·.val))) i = some (n, c) ∧ PV F x c := by
  intro es
  induction es with
  | nil =>
    intro r h
    simp [mapGet] at h
    subst h
    exact ⟨[], rfl, fun j e b a => by simp at a, fun ev i _ _ => .inl ⟨rfl, by simp [firstB]⟩⟩
  | cons e es ih =>
    intro r h
    simp only [mapGet] at h
    cases hk : keyEq ls k e.1 with
    | none => simp [hk] at h
    | some b =>
      cases hr : mapGet ls es k with
      | none => simp [hk, hr] at h
      | some r' =>
        simp [hk, hr] at h
        obtain ⟨bs, g1, g2, g3⟩ := ih r' hr
        refine ⟨b :: bs, by simp [g1], ?_, ?_⟩
        · intro j e' b' a c
          cases j with
          | zero => simp at a c; subst a c; exact hk
          | succ j => exact g2 j e' b' (by simpa using a) (by simpa using c)
        · intro ev i hl hv
          cases ev with
          | nil => simp at hl
          | cons v ev =>
            simp only [List.map_cons, List.zip_cons_cons, firstB]
            cases b with
            | true =>
              simp at h
              subst h
              exact .inr ⟨e.2, i, v.val, rfl, by simp, hv 0 e v (by simp) (by simp)⟩
            | false =>
              simp at h
              subst h
              simpa using g3 ev (i + 1) (by simpa using hl) (fun j e' v' a c => hv (j + 1) e' v' (by simpa using a) (by simpa using c))
end
section
variable {P : Program} {C : Ctx} {G : Gh} {w : World} {m : Mem}
/-- A map's type: its keys' leaves. -/
def mapKey (P : Program) (t : TypeId) (ls : List Leaf) : Option (TypeId × TypeId) :=
  match P.underlying t with
  | some (.map k e) => if keyTy P k ls = true then some (k, e) else none
  | _ => none
theorem mapKey_spec {t k e : TypeId} {ls : List Leaf} (h : mapKey P t ls = some (k, e)) : P.underlying t = some (.map k e) ∧ keyTy P k ls = true := by
  unfold mapKey at h
  split at h
  · split at h
    · rename_i hu hk; cases h; exact ⟨by assumption, by assumption⟩
    · cases h
  · cases h
def zeroIs (P : Program) (e : TypeId) (zero : PVal) : Bool :=
  match (P.info? e).bind (·.zero) with
  | some z => valIs zero z
  | none => false
theorem run_zeroIs {e : TypeId} {zero : PVal} (h : zeroIs P e zero = true) : ∃ z, (zeroValue e).run P w = .ok z w ∧ ∀ F, PV F zero z := by
  unfold zeroIs at h
  cases hz : (P.info? e).bind (·.zero) with
  | none => simp [hz] at h
  | some z =>
    simp only [hz] at h
    cases hi : P.info? e with
    | none => simp [hi] at hz
    | some i =>
      simp only [hi, Option.bind_some] at hz
      exact ⟨z, by simp [zeroValue, typeInfo, hi, hz], fun F => valIs_ok h⟩
theorem pv_bool {F : Frz} {v : PVal} {c : Value} (b : Bool) (h : PV F v c) : PV F (.tup [v, .bool b]) (.tuple #[c, .bool b]) := by
  refine .tup _ _ rfl ?_
  intro i p u h1 h2
  match i with
  | 0 => simp at h1 h2; subst h1 h2; exact h
  | 1 => simp at h1 h2; subst h1 h2; exact .bool b
  | i + 2 => simp at h1
theorem oLookup_ok {t k e : TypeId} {ls : List Leaf} {zero : PVal} {ok : Bool} (ht : mapKey P t ls = some (k, e)) (hz : zeroIs P e zero = true) (hm : MR G w m) (hg : Good C G w)
    {x y : AVal} {c d : Value} (hx : VR G x c) (hy : VR G y d) {out : Out} (h : oLookup ls zero ok m x y = some out) : OutOK C G w ((Instr.lookup t c d ok).run P w) out := by
  obtain ⟨hu, hkt⟩ := mapKey_spec ht
  obtain ⟨z, hz1, hz2⟩ := run_zeroIs (P := P) (w := w) hz
  unfold oLookup at h
  split at h
  · rename_i es key hes
    split at h
    · rename_i r0 r hk0 hget
      cases h
      have hkey := hy.out
      -- the entries
      have hent : ∃ ev : Array MapEntry, ((c = .map none ∧ ev = #[]) ∨ ∃ r clock, c = .map (some r) ∧ (getObj r).run P w = .ok (.map ev clock) w) ∧ ev.size = es.length ∧
          ∀ (i : Nat) (e : PVal × PVal) (v : MapEntry), es[i]? = some e → ev[i]? = some v → PV G.F e.1 v.key ∧ PV G.F e.2 v.val := by
        unfold entriesOf at hes
        split at hes
        · cases hes
          have hp := hx.out; cases hp
          exact ⟨#[], .inl ⟨rfl, rfl⟩, rfl, fun i e v h => by simp at h⟩
        · cases hes
          have hp := hx.out
          cases hp with
          | mp _ r ev hr hs hk hv =>
            obtain ⟨clock, hh⟩ := hg.fm r ev hr
            exact ⟨ev, .inr ⟨r, clock, rfl, by simp [getObj, Sem.run, hh]⟩, hs, fun i e v a b => ⟨hk i e v a b, hv i e v a b⟩⟩
        · rename_i pl
          split at hes
          · rename_i es' hgt
            cases hes
            obtain ⟨r, ev, clock, g1, g2, g3, g4, g5, _⟩ := hm pl _ hgt
            cases hx with
            | rmp _ _ hxx =>
              have := hxx _ _ _ _ g1
              subst this
              exact ⟨ev, .inr ⟨_, clock, rfl, by simp [getObj, Sem.run, g3]⟩, g4, fun i e v a b => ⟨(g5 i e v a b).1, (g5 i e v a b).2.1⟩⟩
          · cases hes
        · cases hes
      obtain ⟨ev, hev, hsz, hpv⟩ := hent
      obtain ⟨bs, b1, b2, b3⟩ := mapGet_spec (F := G.F) es r hget
      have hlen : ev.toList.length = es.length := by simpa using hsz
      have hfind := findKey_ok (P := P) (F := G.F) (w := w) hkt hkey es ev.toList bs hlen b1 (fun j e v a b => (hpv j e v a (by simpa using b)).1) b2
      have hchk := checkKey_ok (P := P) (F := G.F) (w := w) hkt hkey hk0 ev.isEmpty
      have hrun : ∀ (v : Value) (b : Bool), (∃ o, firstB (bs.zip (ev.toList.map (·.val))) 0 = o ∧ ((o = none ∧ v = z ∧ b = false) ∨ ∃ n, o = some (n, v) ∧ b = true)) →
          (Instr.lookup t c d ok).run P w = .ok (if ok = true then .tuple #[v, .bool b] else v) w := by
        rintro v b ⟨o, ho, hcase⟩
        rw [ho] at hfind
        rcases hev with ⟨rfl, rfl⟩ | ⟨r1, clock, rfl, hgo⟩
        · simp only [Instr.lookup, Sem.run_bind, run_underlying hu, Result.andThen_ok, Sem.run_pure, hchk, hfind]
          rcases hcase with ⟨rfl, rfl, rfl⟩ | ⟨n, rfl, rfl⟩
          · simp only [Sem.run_bind, hz1, Result.andThen_ok, Sem.run_pure]
            try (cases ok <;> rfl)
          · try (cases ok <;> rfl)
        · simp only [Instr.lookup, Sem.run_bind, run_underlying hu, Result.andThen_ok, Sem.run_pure, hgo, hchk, hfind]
          rcases hcase with ⟨rfl, rfl, rfl⟩ | ⟨n, rfl, rfl⟩
          · simp only [Sem.run_bind, hz1, Result.andThen_ok, Sem.run_pure]
            try (cases ok <;> rfl)
          · try (cases ok <;> rfl)
      rcases b3 ev.toList 0 hlen (fun j e v a b => (hpv j e v a (by simpa using b)).2) with ⟨rfl, hn⟩ | ⟨x', n, c', rfl, hn, hp⟩
      · rw [hrun z false ⟨_, hn, .inl ⟨rfl, rfl, rfl⟩⟩]
        cases ok
        · exact OutOK.pure hm hg (.p (hz2 _))
        · exact OutOK.pure hm hg (.p (pv_bool false (hz2 _)))
      · rw [hrun c' true ⟨_, hn, .inr ⟨n, rfl, rfl⟩⟩]
        cases ok
        · exact OutOK.pure hm hg (.p hp)
        · exact OutOK.pure hm hg (.p (pv_bool true hp))
    · cases h
  · cases h
theorem mapPut_spec {ls : List Leaf} {k v : PVal} : ∀ (es es' : List (PVal × PVal)), mapPut ls es k v = some es' →
    ∃ bs : List Bool, bs.length = es.length ∧ (∀ (j : Nat) (e : PVal × PVal) (b : Bool), es[j]? = some e → bs[j]? = some b → keyEq ls k e.1 = some b) ∧
      ∀ (vs : List Value) (i : Nat), vs.length = es.length → (firstB (bs.zip vs) i = none ∧ es' = es ++ [(k, v)]) ∨
        ∃ n c, firstB (bs.zip vs) i = some (i + n, c) ∧ n < es.length ∧ es' = es.set n (k, v) ∧ ∃ e, es[n]? = some e ∧ e.1 = k := by
  intro es
  induction es with
  | nil =>
    intro es' h
    simp [mapPut] at h
    subst h
    exact ⟨[], rfl, fun j e b a => by simp at a, fun vs i _ => .inl ⟨by simp [firstB], rfl⟩⟩
  | cons e es ih =>
    intro es' h
    simp only [mapPut] at h
    cases hk : keyEq ls k e.1 with
    | none => simp [hk] at h
    | some b =>
      cases hr : mapPut ls es k v with
      | none => simp [hk, hr] at h
      | some q =>
        simp [hk, hr] at h
        obtain ⟨bs, g1, g2, g3⟩ := ih q hr
        refine ⟨b :: bs, by simp [g1], ?_, ?_⟩
        · intro j e' b' a c
          cases j with
          | zero => simp at a c; subst a c; exact hk
          | succ j => exact g2 j e' b' (by simpa using a) (by simpa using c)
        · intro vs i hl
          cases vs with
          | nil => simp at hl
          | cons u vs =>
            simp only [List.zip_cons_cons, firstB]
            cases b with
            | true =>
              simp at h
              subst h
              exact .inr ⟨0, u, by simp, by simp, by simp, e, by simp, (eq_of_keyEq hk).symm⟩
            | false =>
              simp at h
              subst h
              rcases g3 vs (i + 1) (by simpa using hl) with ⟨h1, rfl⟩ | ⟨n, c, h1, h2, rfl, e', h3, h4⟩
              · exact .inl ⟨by simpa using h1, rfl⟩
              · refine .inr ⟨n + 1, c, by simpa [Nat.add_assoc, Nat.add_comm 1 n] using h1, by simpa using h2, by simp, e', by simpa using h3, h4⟩
theorem sameBits_cell {F : Frz} {l : Leaf} {a b : PVal} {r : Bool} (h : cellEq l a b = some r) {c d : Value} (hc : PV F a c) (hd : PV F a d) (n : Nat) : Instr.sameBits n c d = true := by
  cases l <;> cases a <;> cases b <;> simp [cellEq] at h <;> cases hc <;> cases hd
  · cases n <;> simp [Instr.sameBits]
  · cases n <;> simp [Instr.sameBits]
  · cases n <;> (simp only [Instr.sameBits]; rw [beq_toListBytes]; simp)
theorem sameBits_key {F : Frz} {ls : List Leaf} {a : PVal} {r : Bool} (h : keyEq ls a a = some r) {c d : Value} (hc : PV F a c) (hd : PV F a d) : Instr.sameBits 10000 c d = true := by
  by_cases hagg : ∃ avs, a = .agg avs
  · obtain ⟨avs, rfl⟩ := hagg
    have h' : cellsEq ls avs avs = some r := by
      unfold keyEq at h
      split at h
      · rename_i l _ _
        cases l <;> simp [cellEq] at h
      · simp_all
      · cases h
    have hcells : ∀ (ls : List Leaf) (avs bs : List PVal) (r : Bool), cellsEq ls avs bs = some r → ∀ (i : Nat) (p : PVal), avs[i]? = some p → ∃ l q b, cellEq l p q = some b := by
      intro ls
      induction ls with
      | nil => intro avs bs r h i p hp; cases avs <;> cases bs <;> simp [cellsEq] at h; simp at hp
      | cons l ls ih =>
        intro avs bs r h i p hp
        cases avs <;> cases bs <;> simp only [cellsEq] at h <;> try cases h
        rename_i x xs y ys
        cases hxy : cellEq l x y with
        | none => simp [hxy] at h
        | some b =>
          cases hr : cellsEq ls xs ys with
          | none => simp [hxy, hr] at h
          | some b' =>
            cases i with
            | zero => simp at hp; subst hp; exact ⟨l, y, b, hxy⟩
            | succ i => exact ih xs ys b' hr i p (by simpa using hp)
    cases hc with
    | agg _ cv hs hsc hp =>
      cases hd with
      | agg _ dv hs' hsc' hp' =>
        have hgen : ∀ n, Instr.sameBits (n + 1) (.agg cv) (.agg dv) = true := by
          intro n
          simp only [Instr.sameBits, Bool.and_eq_true, beq_iff_eq]
          refine ⟨by rw [hs, hs'], ?_⟩
          rw [List.all_eq_true]
          intro x hx
          obtain ⟨i, hi⟩ := List.mem_iff_getElem?.1 hx
          rw [List.getElem?_zip_eq_some] at hi
          obtain ⟨h1, h2⟩ := hi
          have hlt : i < avs.length := by
            have := (List.getElem?_eq_some_iff.1 h1).1
            simp at this; omega
          obtain ⟨l, q, b, hcell⟩ := hcells ls avs avs r h' i _ (List.getElem?_eq_getElem hlt)
          exact sameBits_cell hcell (hp i _ _ (List.getElem?_eq_getElem hlt) (by simpa using h1)) (hp' i _ _ (List.getElem?_eq_getElem hlt) (by simpa using h2)) n
        exact hgen 9999
  · have h' : ∃ l b, cellEq l a b = some r := by
      unfold keyEq at h
      split at h
      · exact ⟨_, _, h⟩
      · exact absurd ⟨_, rfl⟩ hagg
      · cases h
    obtain ⟨l, b, hl⟩ := h'
    exact sameBits_cell hl hc hd _
/-- A MAP REWRITTEN in its block. -/
theorem mapWrite_ok (hm : MR G w m) (hg : Good C G w) {pl : Place} {es es' : List (PVal × PVal)} (hp : getAt m pl = some (.omap es)) {r : Nat} (hL : G.loc pl = some ⟨r, 0, 0, 0⟩) {ev' : Array MapEntry} {clock' : Nat}
    {w' : World} (hheap : w'.heap[r]? = some (.map ev' clock')) (hother : ∀ k, k ≠ r → w'.heap[k]? = w.heap[k]?) (hsize : w'.heap.size = w.heap.size) (hos : w'.os = w.os) (htape : w'.tape = w.tape) (hout : w'.output = w.output)
    (hs : ev'.size = es'.length) (he : ∀ (i : Nat) (e : PVal × PVal) (v : MapEntry), es'[i]? = some e → ev'[i]? = some v → PV G.F e.1 v.key ∧ PV G.F e.2 v.val ∧ v.born = i)
    (hd : clock' = ev'.size) :
    Step C G w w' (setAt m pl (.omap es')) Kill.no.fn G := by
  obtain ⟨r0, ev, clock, g1, g2, g3, g4, g5, g6⟩ := hm pl _ hp
  rw [hL] at g1; cases g1
  have hnb : ∀ q L, G.loc q = some L → q ≠ pl → L.b ≠ r := fun q L h hne e => hne (hg.inj q pl L _ h hL e)
  refine ⟨?_, ?_, Frz.le_refl _, fun _ _ _ h => h⟩
  · intro q x' hx
    by_cases hu : pl.under q
    · obtain ⟨p, rfl⟩ := hu
      rw [getAt_set_under hp] at hx
      cases p with
      | nil =>
        simp only [sub, Option.some.injEq] at hx
        subst hx
        rw [Place.app_nil]
        exact ⟨r, ev', clock', hL, g2, hheap, hs, he, hd⟩
      | cons c p => simp [sub] at hx
    · obtain ⟨y, hy, hsh⟩ := getAt_set_else (a := .omap es') rfl hp hu hx
      have hne : q ≠ pl := fun e => hu (e ▸ Place.under_refl _)
      exact (hm q y hy).move hsh (Frz.le_refl _) (fun L hLq => ⟨hLq, hother _ (hnb q L hLq hne)⟩) rfl fun _ _ => rfl
  · refine ⟨?_, hg.fzl, ?_, hg.fml, hg.inj, ?_, by rw [hsize]; exact hg.size, ?_, hg.own, hg.fz0, hg.fm0, hg.fzn, hg.fmn, hos.trans hg.os, htape.trans hg.tape, hout.trans hg.output⟩
    · intro b1 o1 v hv
      rw [World.cell?_of_block (hother b1 (fun e => hg.fzl b1 o1 v hv pl _ hL e.symm))]
      exact hg.fz b1 o1 v hv
    · intro r' es1 hr
      rw [hother r' (fun e => hg.fml r' es1 hr pl _ hL e.symm)]
      exact hg.fm r' es1 hr
    · intro q L h; rw [hsize]; exact hg.bnd q L h
    · intro k hk hmine
      have hne : k ≠ r := by
        intro e
        subst e
        rcases hg.own pl _ hL with h | h
        · simp at h; omega
        · exact hmine h
      rw [hother k hne]
      exact hg.keep k hk hmine
theorem oMapset_ok {t k e : TypeId} {ls : List Leaf} (ht : mapKey P t ls = some (k, e)) (hm : MR G w m) (hg : Good C G w)
    {x y v : AVal} {c d u : Value} (hx : VR G x c) (hy : VR G y d) (hv : VR G v u) {out : Out} (h : oMapset ls m x y v = some out) : OutOKU C G w ((Instr.mapUpdate t c d u).run P w) out := by
  obtain ⟨hu, hkt⟩ := mapKey_spec ht
  unfold oMapset at h
  split at h
  · rename_i pl key val
    split at h
    · rename_i r0 es hk0 hget
      simp only [Option.map_eq_some_iff] at h
      obtain ⟨es', hput, rfl⟩ := h
      have hkey := hy.out
      have hval := hv.out
      obtain ⟨r', ev, clock, g1, g2, g3, g4, g5, g6⟩ := hm pl _ hget
      cases hx with
      | rmp _ r hxx =>
        have := hxx _ _ _ _ g1
        subst this
        obtain ⟨bs, b1, b2, b3⟩ := mapPut_spec es es' hput
        have hlen : ev.toList.length = es.length := by simpa using g4
        have hfind := findKey_ok (P := P) (F := G.F) (w := w) hkt hkey es ev.toList bs hlen b1 (fun j e v a b => (g5 j e v a (by simpa using b)).1) b2
        have hchk := checkKey_ok (P := P) (F := G.F) (w := w) hkt hkey hk0 false
        have hgo : (getObj r).run P w = .ok (.map ev clock) w := by simp [getObj, Sem.run, g3]
        have hset : ∀ o, (setObj r o).run P w = .ok () { w with heap := w.heap.setIfInBounds r o } := fun o => by simp [setObj, Sem.run, g3]
        have hlt : r < w.heap.size := (Array.getElem?_eq_some_iff.1 g3).1
        rcases b3 (ev.toList.map (·.val)) 0 (by simpa using g4) with ⟨hn, rfl⟩ | ⟨n, c', hn, hnl, rfl, e', he', hek⟩
        · rw [hn] at hfind
          refine ⟨{ w with heap := w.heap.setIfInBounds r (.map (ev.push { key := d, val := u, born := clock }) (clock + 1)) }, G, ?_, ?_⟩
          · simp only [Instr.mapUpdate, Sem.run_bind, run_underlying hu, Result.andThen_ok, hgo, hchk, hfind]
            exact hset _
          · refine mapWrite_ok (ev' := ev.push { key := d, val := u, born := clock }) (clock' := clock + 1) hm hg hget g1 (by simp [hlt]) (fun q hq => Array.getElem?_setIfInBounds_ne (fun e => hq e.symm)) (by simp) rfl rfl rfl (by simp [g4]) ?_ ?_
            · intro i e v h1 h2
              rw [List.getElem?_append] at h1
              rw [Array.getElem?_push] at h2
              split at h1
              · rename_i hi
                rw [if_neg (by omega)] at h2
                obtain ⟨q1, q2, q3⟩ := g5 i e v h1 h2
                exact ⟨q1, q2, q3⟩
              · rename_i hi
                have hi' : i = es.length := by
                  have := (List.getElem?_eq_some_iff.1 h1).1
                  simp at this; omega
                subst hi'
                rw [if_pos (by omega)] at h2
                simp at h1 h2
                subst h1 h2
                exact ⟨hkey, hval, by rw [g6]; exact g4⟩
            · simp [g6]
        · rw [hn, Nat.zero_add] at hfind
          have hnlt : n < ev.size := by omega
          have hold := g5 n e' _ he' (Array.getElem?_eq_getElem hnlt)
          have hsame : Instr.sameBits 10000 (ev[n]'hnlt).key d = true := sameBits_key hk0 (hek ▸ hold.1) hkey
          have hstay : (Instr.keyThatStays (ev[n]'hnlt).key d).run P w = .ok d w := by simp [Instr.keyThatStays, hsame]
          have hkk : ((ev[n]?).map (·.key)).getD d = (ev[n]'hnlt).key := by simp [hnlt]
          refine ⟨{ w with heap := w.heap.setIfInBounds r (.map (ev.modify n fun e => { e with key := d, val := u }) clock) }, G, ?_, ?_⟩
          · simp only [Instr.mapUpdate, Sem.run_bind, run_underlying hu, Result.andThen_ok, hgo, hchk, hfind, hkk, hstay]
            exact hset _
          · refine mapWrite_ok (ev' := ev.modify n fun e => { e with key := d, val := u }) (clock' := clock) hm hg hget g1 (by simp [hlt]) (fun q hq => Array.getElem?_setIfInBounds_ne (fun e => hq e.symm)) (by simp) rfl rfl rfl (by simp [g4]) ?_ ?_
            · intro i e v h1 h2
              rw [Array.getElem?_modify] at h2
              by_cases hin : n = i
              · subst hin
                simp only [if_true, Array.getElem?_eq_getElem hnlt, Option.map_some, Option.some.injEq] at h2
                subst h2
                simp [hnl] at h1
                subst h1
                exact ⟨hkey, hval, hold.2.2⟩
              · rw [if_neg hin] at h2
                rw [List.getElem?_set_ne hin] at h1
                exact g5 i e v h1 h2
            · simpa using g6
    · cases h
  · cases h
/-- A NEW MAP at a site. -/
theorem mkmap_ok {t : TypeId} (hm : MR G w m) (hg : Good C G w) (d : Nat) : OutOK C G w ((Instr.makeMap t none).run P w) (.rmp ⟨d, 0, []⟩, (d, [.omap []]) :: m, .site d) := by
  let G' : Gh := { F := G.F
                   loc := fun q => if q.s = d then (if q.k = 0 ∧ q.path = [] then some ⟨w.heap.size, 0, 0, 0⟩ else none) else G.loc q
                   cv := fun q => if q.s = d then .map (some w.heap.size) else G.cv q }
  have hr : (Instr.makeMap t none).run P w = .ok (.map (some w.heap.size)) (w.alloc (.map #[] 0)) := by
    simp [Instr.makeMap]
  have hroot : G'.loc ⟨d, 0, []⟩ = some ⟨w.heap.size, 0, 0, 0⟩ := by simp [G']
  have hold : ∀ k, k < w.heap.size → (w.alloc (.map #[] 0)).heap[k]? = w.heap[k]? := fun k hk => by
    show (w.heap.push _)[k]? = _
    rw [Array.getElem?_push, if_neg (by omega)]
  have hl : ∀ q L, G'.loc q = some L → (q = ⟨d, 0, []⟩ ∧ L.b = w.heap.size) ∨ (q.s ≠ d ∧ G.loc q = some L) := by
    intro q L h
    simp only [G'] at h
    split at h
    · rename_i hs
      split at h
      · rename_i hk
        cases h
        left
        obtain ⟨s, k, path⟩ := q
        simp only at hs hk
        obtain ⟨rfl, rfl⟩ := hk
        subst hs
        exact ⟨rfl, rfl⟩
      · cases h
    · exact .inr ⟨by assumption, h⟩
  refine ⟨_, _, G', hr, .rmp _ _ fun b o cap z hL => by rw [hroot] at hL; cases hL; rfl, ?_, ?_, Frz.le_refl _, ?_⟩
  · intro q x' hx
    by_cases hq : q.s = d
    · obtain ⟨s, k, path⟩ := q
      simp only at hq
      subst hq
      simp only [getAt, lk, if_true, Option.bind_some] at hx
      cases k with
      | succ k => simp at hx
      | zero =>
        simp only [List.getElem?_cons_zero, Option.bind_some] at hx
        cases path with
        | nil =>
          simp only [sub, Option.some.injEq] at hx
          subst hx
          exact ⟨w.heap.size, #[], 0, hroot, by simp [G'], show (w.heap.push (Obj.map #[] 0))[w.heap.size]? = some (Obj.map #[] 0) from Array.getElem?_push_size, rfl, (fun i e v h => by simp at h), rfl⟩
        | cons c r => simp [sub] at hx
    · have hx0 : getAt m q = some x' := by simpa [getAt, lk, hq] using hx
      exact (hm q x' hx0).move (SameShape.refl _) (Frz.le_refl _) (fun L hL => ⟨by simp [G', hq, hL], hold _ (hg.bnd q L hL)⟩) (by simp [G', hq]) (fun i j => by simp [G', Place.ext, hq])
  · refine ⟨?_, ?_, ?_, ?_, ?_, ?_, Nat.le_trans hg.size (by simp), ?_, ?_, hg.fz0, hg.fm0, hg.fzn, hg.fmn, hg.os, hg.tape, hg.output⟩
    · intro b1 o1 v hv
      have h1 := hg.fz b1 o1 v hv
      rw [World.cell?_of_block (hold b1 (World.block_lt_of_cell? w _ h1))]
      exact h1
    · intro b1 o1 v hv q L hL
      rcases hl q L hL with ⟨_, e⟩ | ⟨_, h⟩
      · have := World.block_lt_of_cell? w _ (hg.fz b1 o1 v hv)
        simp at this; omega
      · exact hg.fzl b1 o1 v hv q L h
    · intro r es hr'
      obtain ⟨cl, hc⟩ := hg.fm r es hr'
      exact ⟨cl, by rw [hold r (Array.getElem?_eq_some_iff.1 hc).1]; exact hc⟩
    · intro r es hr' q L hL
      rcases hl q L hL with ⟨_, e⟩ | ⟨_, h⟩
      · obtain ⟨cl, hc⟩ := hg.fm r es hr'
        have := (Array.getElem?_eq_some_iff.1 hc).1
        omega
      · exact hg.fml r es hr' q L h
    · intro q q' L L' h h' e
      rcases hl q L h with ⟨rfl, e1⟩ | ⟨_, h1⟩ <;> rcases hl q' L' h' with ⟨rfl, e2⟩ | ⟨_, h2⟩
      · rfl
      · have := hg.bnd q' L' h2; omega
      · have := hg.bnd q L h1; omega
      · exact hg.inj q q' L L' h1 h2 e
    · intro q L h
      rcases hl q L h with ⟨_, e⟩ | ⟨_, h1⟩
      · simp [e]
      · have := hg.bnd q L h1; simp; omega
    · intro k hk hmine
      rw [hold k (Nat.lt_of_lt_of_le hk hg.size)]
      exact hg.keep k hk hmine
    · intro q L h
      rcases hl q L h with ⟨_, e⟩ | ⟨_, h1⟩
      · left; rw [e]; exact hg.size
      · exact hg.own q L h1
  · intro pl hpl L hL
    rcases hl pl L hL with ⟨rfl, _⟩ | ⟨_, h⟩
    · simp [Kill.fn] at hpl
    · exact h
end
end Go.Proofs.Ytnmnijgoggombaa.X
/- Freezing what the slots lead to; contracts of functions; calls. -/
namespace Go.Proofs.Ytnmnijgoggombaa.X
open Go.RowKit
def samePl (p q : Place) : Bool := p.s == q.s && p.k == q.k && p.path == q.path
theorem samePl_eq {p q : Place} (h : samePl p q = true) : p = q := by
  obtain ⟨a, b, c⟩ := p; obtain ⟨a', b', c'⟩ := q
  simp [samePl] at h
  obtain ⟨⟨rfl, rfl⟩, rfl⟩ := h
  rfl
/-- What a way to the frozen place becomes. -/
def frzRef (pl : Place) (x : PVal) : AVal → AVal
  | .rsl q off len => if samePl q pl = true then (match x with
    | .sl rows => if off + len ≤ rows.length ∧ (off < rows.length ∨ off = 0) then .p (.sl ((rows.drop off).take len)) else .rsl q off len
    | _ => .rsl q off len) else .rsl q off len
  | .rpt q i j => if samePl q pl = true then (match x with
    | .sl rows => .p (.pt rows i j)
    | .pt rows 0 0 => .p (.pt rows i j)
    | _ => .rpt q i j) else .rpt q i j
  | .rmp q => if samePl q pl = true then (match x with
    | .mp es => .p (.mp es)
    | _ => .rmp q) else .rmp q
  | v => v
mutual
def frzV (pl : Place) (x : PVal) : AVal → AVal
  | .agg cs => mkAgg (frzL pl x cs)
  | .tup cs => mkTup (frzL pl x cs)
  | v => frzRef pl x v
def frzL (pl : Place) (x : PVal) : List AVal → List AVal
  | [] => []
  | a :: l => frzV pl x a :: frzL pl x l
end
theorem frzL_eq (pl : Place) (x : PVal) (l : List AVal) : frzL pl x l = l.map (frzV pl x) := by
  induction l with
  | nil => rfl
  | cons a l ih => simp [frzL, ih]
theorem VR.mkTup {G : Gh} {cs : List AVal} {cv : Array Value} (hs : cv.size = cs.length)
    (h : ∀ (i : Nat) (a : AVal) (v : Value), cs[i]? = some a → cv[i]? = some v → VR G a v) : VR G (X.mkTup cs) (.tuple cv) := by
  unfold X.mkTup
  cases hp : allP cs with
  | none => exact .tup cs cv hs h
  | some ps =>
    have := allP_spec hp
    subst this
    refine .p (.tup ps cv (by simpa using hs) ?_)
    intro i p v h1 h2
    have := h i (.p p) v (by simp [h1]) h2
    cases this with
    | p h => exact h
theorem frzRef_scalar {pl : Place} {x : PVal} {a : AVal} (h : a.scalar = true) : (frzV pl x a).scalar = true := by
  cases a <;> first | (simp [AVal.scalar] at h; done) | skip
  · exact h
  · rfl
  · rfl
  · simp only [frzV, frzRef]; split <;> first | rfl | (split <;> first | rfl | (split <;> rfl))
  · simp only [frzV, frzRef]; split <;> first | rfl | (split <;> rfl)
  · simp only [frzV, frzRef]; split <;> first | rfl | (split <;> rfl)
  · rfl
  · rfl
  · rfl
  · rfl
  · rfl
  · rfl
section
variable {C : Ctx} {G : Gh} {w : World} {m : Mem} {e : Env}
theorem rows_z {z : Nat} {arows : List (List AVal)} {rows : List (List PVal)} (h : toPss arows = some rows) (h7 : ∀ row ∈ arows, row.length = z) : ∀ row ∈ rows, row.length = z := by
  intro row hr
  obtain ⟨i, hi⟩ := List.mem_iff_getElem?.1 hr
  obtain ⟨arow, ha1, ha2⟩ := (toPss_get h).2 i row hi
  rw [(toPs_get ha2).1]
  exact h7 arow (List.mem_of_getElem? ha1)
/-- The cells of a frozen block. -/
structure Cells (F : Frz) (rows : List (List PVal)) (b o z : Nat) (f : Nat → Nat → Value) : Prop where
  hz : ∀ row ∈ rows, row.length = z
  hc : ∀ (i j : Nat) (row : List PVal) (p : PVal), rows[i]? = some row → row[j]? = some p → p.scalar = true ∧ F.cell b (o + i * z + j) = some (f i j)
  h : ∀ (i j : Nat) (row : List PVal) (p : PVal), rows[i]? = some row → row[j]? = some p → PV F p (f i j)
theorem cells_of {F : Frz} {rows : List (List PVal)} {b o z z' : Nat} {f : Nat → Nat → Value} (h0 : ∀ row ∈ rows, row.length = z) (hz : ∀ row ∈ rows, row.length = z')
    (hc : ∀ (i j : Nat) (row : List PVal) (p : PVal), rows[i]? = some row → row[j]? = some p → p.scalar = true ∧ F.cell b (o + i * z' + j) = some (f i j))
    (h : ∀ (i j : Nat) (row : List PVal) (p : PVal), rows[i]? = some row → row[j]? = some p → PV F p (f i j)) : Cells F rows b o z f := by
  refine ⟨h0, ?_, h⟩
  intro i j row p h1 h2
  have : z = z' := (h0 row (List.mem_of_getElem? h1)).symm.trans (hz row (List.mem_of_getElem? h1))
  subst this
  exact hc i j row p h1 h2
theorem frozen_cells (hm : MR G w m) (hg : Good C G w) {pl : Place} {ptr : Bool} {z : Nat} {arows : List (List AVal)} {rows : List (List PVal)} (ha : getAt m pl = some (.own ptr z arows)) (hx : toPss arows = some rows) :
    ∃ b o cap f, G.loc pl = some ⟨b, o, cap, z⟩ ∧ rows.length ≤ cap ∧ Cells (G.froze w pl).F rows b o z f := by
  have hx' : toP (.own ptr z arows) = some (if ptr then .pt rows 0 0 else .sl rows) := by cases ptr <;> simp [toP, hx]
  obtain ⟨_, _, _, hpv, _⟩ := freeze_ok hg pl hm ha hx' (by cases ptr <;> rfl)
  obtain ⟨b, o, cap, cs, ty, h1, h2, h3, h4, h5, h6, h7, h8⟩ := hm pl _ ha
  have hz := rows_z hx h7
  rw [h2] at hpv
  refine ⟨b, o, cap, ?_⟩
  cases ptr with
  | true =>
    simp only [if_true] at hpv
    generalize had : (⟨b, o, none⟩ : Addr) = ad at hpv
    cases hpv with
    | pt _ _ _ b' o' z' f hz' hc hp =>
      simp only [Nat.zero_mul, Nat.add_zero, Addr.mk.injEq, and_true] at had
      obtain ⟨rfl, rfl⟩ := had
      exact ⟨f, h1, by rw [(toPss_get hx).1]; exact h5, cells_of hz hz' hc hp⟩
  | false =>
    simp only [Bool.false_eq_true, if_false] at hpv
    generalize arows.length = al at hpv
    cases hpv with
    | sl _ b' o' cap' z' f hcap hz' hc hp => exact ⟨f, h1, by rw [(toPss_get hx).1]; exact h5, cells_of hz hz' hc hp⟩
    | sl0 ad => exact ⟨fun _ _ => undef, h1, by simp, cells_of (z' := z) hz (by simp) (fun i j row p h => by simp at h) (fun i j row p h => by simp at h)⟩
theorem frzRef_ok (hm : MR G w m) (hg : Good C G w) {pl : Place} {a : AVal} {x : PVal} (ha : getAt m pl = some a) (hx : toP a = some x) (hs : x.scalar = true) (hp : ∀ y, a ≠ .p y) {v : AVal} {c : Value}
    (hv : VR G v c) (hv' : VR (G.froze w pl) v c) : VR (G.froze w pl) (frzRef pl x v) c := by
  obtain ⟨_, _, _, hpv, _⟩ := freeze_ok hg pl hm ha hx hs
  cases hv with
  | p => exact hv'
  | unk => exact hv'
  | rit => exact hv'
  | agg => exact hv'
  | tup => exact hv'
  | rsl q off len ad k hh =>
    simp only [frzRef]
    split
    · rename_i hq
      obtain rfl := samePl_eq hq
      split
      · rename_i rows _
        split
        · rename_i hlen
          cases a with
          | own ptr z arows =>
            cases ptr with
            | true => simp [toP] at hx
            | false =>
              simp only [toP, Option.map_eq_some_iff, PVal.sl.injEq, exists_eq_right] at hx
              obtain ⟨b, o, cap, f, h1, h5, hC⟩ := frozen_cells hm hg ha hx
              obtain ⟨g1, g2, g3⟩ := hh _ _ _ _ h1
              have had := g3 (by omega)
              subst had
              subst g2
              have hlen' : len = ((rows.drop off).take len).length := by
                rw [List.length_take, List.length_drop]; omega
              have hget : ∀ (i : Nat) (row : List PVal), ((rows.drop off).take len)[i]? = some row → rows[off + i]? = some row := by
                intro i row hi
                rw [List.getElem?_take] at hi
                split at hi
                · rwa [List.getElem?_drop] at hi
                · cases hi
              have key : VR (G.froze w q) (.p (.sl ((rows.drop off).take len))) (.slice (some ⟨b, o + off * z, none⟩) ((rows.drop off).take len).length (cap - off)) := by
                refine .p (.sl _ b (o + off * z) (cap - off) z (fun i j => f (off + i) j) (by omega) ?_ ?_ ?_)
                · intro row hrow
                  exact hC.hz row (List.mem_of_mem_drop (List.mem_of_mem_take hrow))
                · intro i j row p h1 h2
                  have := hget i row h1
                  obtain ⟨q1, q2⟩ := hC.hc (off + i) j row p this h2
                  refine ⟨q1, ?_⟩
                  rw [← q2]
                  congr 1
                  rw [Nat.add_mul]; omega
                · intro i j row p h1 h2
                  exact hC.h (off + i) j row p (hget i row h1) h2
              rw [← hlen'] at key
              exact key
          | p y => exact absurd rfl (hp y)
          | _ => simp [toP] at hx
        · exact hv'
      · exact hv'
    · exact hv'
  | rpt q i j ad hh =>
    simp only [frzRef]
    split
    · rename_i hq
      obtain rfl := samePl_eq hq
      cases a with
      | own ptr z arows =>
        cases hr : toPss arows with
        | none => cases ptr <;> simp [toP, hr] at hx
        | some rows =>
          obtain ⟨b, o, cap, f, h1, h5, hC⟩ := frozen_cells hm hg ha hr
          have had := hh _ _ _ _ h1
          subst had
          have key : VR (G.froze w q) (.p (.pt rows i j)) (.pointer (some ⟨b, o + i * z + j, none⟩)) := .p (.pt rows i j b o z f hC.hz hC.hc hC.h)
          cases ptr with
          | true => simp only [toP, hr, Option.map_some, Option.some.injEq] at hx; subst hx; exact key
          | false => simp only [toP, hr, Option.map_some, Option.some.injEq] at hx; subst hx; exact key
      | p y => exact absurd rfl (hp y)
      | omap es => simp only [toP, Option.some.injEq] at hx; subst hx; exact hv'
      | _ => simp [toP] at hx
    · exact hv'
  | rmp q rr hh =>
    simp only [frzRef]
    split
    · rename_i hq
      obtain rfl := samePl_eq hq
      split
      · rename_i es _
        cases a with
        | omap es' =>
          simp only [toP, Option.some.injEq, PVal.mp.injEq] at hx
          subst hx
          obtain ⟨r, ev, clock, h1, h2, _⟩ := hm q _ ha
          have := hh _ _ _ _ h1
          subst this
          rw [h2] at hpv
          exact .p hpv
        | p y => exact absurd rfl (hp y)
        | own ptr z arows => cases ptr <;> simp [toP] at hx
        | _ => simp [toP] at hx
      · exact hv'
    · exact hv'
theorem frzV_ok (hm : MR G w m) (hg : Good C G w) {pl : Place} {a : AVal} {x : PVal} (ha : getAt m pl = some a) (hx : toP a = some x) (hs : x.scalar = true) (hp : ∀ y, a ≠ .p y) {v : AVal} {c : Value}
    (hv : VR G v c) : VR (G.froze w pl) (frzV pl x v) c := by
  obtain ⟨_, _, hle, hpv, hl⟩ := freeze_ok hg pl hm ha hx hs
  induction hv with
  | agg cs cv hs hc _ ih =>
    simp only [frzV, frzL_eq]
    refine VR.mkAgg (by simpa using hs) ?_ ?_
    · intro b hb
      obtain ⟨b', hb', rfl⟩ := List.mem_map.1 hb
      exact frzRef_scalar (hc b' hb')
    · intro i b v h1 h2
      rw [List.getElem?_map] at h1
      simp only [Option.map_eq_some_iff] at h1
      obtain ⟨b', hb', rfl⟩ := h1
      exact ih i b' v hb' h2
  | tup cs cv hs _ ih =>
    simp only [frzV, frzL_eq]
    refine VR.mkTup (by simpa using hs) ?_
    intro i b v h1 h2
    rw [List.getElem?_map] at h1
    simp only [Option.map_eq_some_iff] at h1
    obtain ⟨b', hb', rfl⟩ := h1
    exact ih i b' v hb' h2
  | p h => exact .p (h.mono hle)
  | unk c h => exact .unk c h
  | rit q mq mb ad h h' => exact (VR.rit q mq mb ad h h').mono' hle hl
  | rsl q off len ad k hh => exact frzRef_ok hm hg ha hx hs hp (.rsl q off len ad k hh) ((VR.rsl q off len ad k hh).mono' hle hl)
  | rpt q i j ad hh => exact frzRef_ok hm hg ha hx hs hp (.rpt q i j ad hh) ((VR.rpt q i j ad hh).mono' hle hl)
  | rmp q rr hh => exact frzRef_ok hm hg ha hx hs hp (.rmp q rr hh) ((VR.rmp q rr hh).mono' hle hl)
def AVal.isOwn : AVal → Bool
  | .own _ _ _ => true
  | .omap _ => true
  | _ => false
end
end Go.Proofs.Ytnmnijgoggombaa.X
/- The operations are sound, part J: a slice that is read only from the first. -/
namespace Go.Proofs.Ytnmnijgoggombaa.X
open Go.RowKit
section
variable {P : Program} {C : Ctx} {G : Gh} {w : World} {m : Mem}
theorem lk_some_bound {m : Mem} {s : Nat} {cs : List AVal} (h : lk m s = some cs) : s ≤ (m.map (·.1)).foldr max 0 := by
  induction m with
  | nil => simp [lk] at h
  | cons x m ih =>
    simp only [lk] at h
    simp only [List.map_cons, List.foldr_cons]
    split at h
    · rename_i hs; subst hs; exact Nat.le_max_left _ _
    · exact Nat.le_trans (ih h) (Nat.le_max_right _ _)
/-- A site that is not there. -/
def freshOf (m : Mem) : Nat := (m.map (·.1)).foldr max 0 + 1
theorem freshOf_none (m : Mem) : lk m (freshOf m) = none := by
  cases h : lk m (freshOf m) with
  | none => rfl
  | some cs => have := lk_some_bound h; unfold freshOf at this; omega
/-- What was made at a fresh site is told to be read only, and forgotten. -/
theorem fout {w' : World} {d : Nat} (hd : lk m d = none) {a v : AVal} {x y : PVal} {c : Value} {G' : Gh} (hs : Step C G w w' ((d, [a]) :: m) (Kill.site d).fn G') (hv : VR G' v c)
    (hx : toP a = some x) (ho : a.isOwn = true) (hy : frzV ⟨d, 0, []⟩ x v = .p y) : ∃ G'', VR G'' (.p y) c ∧ Step C G w w' m Kill.no.fn G'' := by
  have ha : getAt ((d, [a]) :: m) ⟨d, 0, []⟩ = some a := by simp [getAt, lk, sub]
  have hsx : x.scalar = true := by
    cases a <;> simp [AVal.isOwn] at ho
    · rename_i ptr _ _
      cases ptr <;> simp only [toP, Option.map_eq_some_iff] at hx <;> obtain ⟨_, _, rfl⟩ := hx <;> rfl
    · simp only [toP, Option.some.injEq] at hx; subst hx; rfl
  have hp : ∀ y, a ≠ .p y := fun y e => by subst e; simp [AVal.isOwn] at ho
  obtain ⟨h1, h2, hle, hpv, hl⟩ := freeze_ok hs.good ⟨d, 0, []⟩ hs.mr ha hx hsx
  have hvr := frzV_ok hs.mr hs.good ha hx hsx hp hv
  rw [hy] at hvr
  let G2 : Gh := { F := (G'.froze w' ⟨d, 0, []⟩).F, loc := fun q => if q.s = d then none else (G'.froze w' ⟨d, 0, []⟩).loc q, cv := (G'.froze w' ⟨d, 0, []⟩).cv }
  have hloc : ∀ q L, G2.loc q = some L → q.s ≠ d ∧ (G'.froze w' ⟨d, 0, []⟩).loc q = some L := by
    intro q L h
    simp only [G2] at h
    split at h
    · cases h
    · exact ⟨by assumption, h⟩
  refine ⟨G2, .p hvr.out, ?_, ?_, ?_, ?_⟩
  · intro q z hz
    have hqd : q.s ≠ d := by
      rintro rfl
      simp [getAt, hd] at hz
    have hz' : getAt (setAt ((d, [a]) :: m) ⟨d, 0, []⟩ (.p x)) q = some z := by
      rw [getAt_set_other (by exact hqd)]
      simp only [getAt, lk]
      rw [if_neg hqd]
      exact hz
    refine (h1 q z hz').move (SameShape.refl _) (Frz.le_refl _) (fun L hL => ⟨by simp only [G2]; rw [if_neg hqd]; exact hL, rfl⟩) rfl (fun _ _ => rfl)
  · exact ⟨h2.fz, fun b o v hv q L hL => h2.fzl b o v hv q L (hloc q L hL).2, h2.fm, fun r es hr q L hL => h2.fml r es hr q L (hloc q L hL).2,
      fun q q' L L' h h' e => h2.inj q q' L L' (hloc q L h).2 (hloc q' L' h').2 e, fun q L h => h2.bnd q L (hloc q L h).2, h2.size, h2.keep, fun q L h => h2.own q L (hloc q L h).2,
      h2.fz0, h2.fm0, h2.fzn, h2.fmn, h2.os, h2.tape, h2.output⟩
  · exact ⟨fun b o v h => hle.cell b o v (hs.le.cell b o v h), fun r es h => hle.map r es (hs.le.map r es h)⟩
  · intro q _ L hL
    obtain ⟨k1, k2⟩ := hloc q L hL
    exact hs.loc q (by simpa [Kill.fn] using k1) L (hl q L k2)
theorem toPs_of_allP {l : List AVal} {ps : List PVal} (h : allP l = some ps) : toPs l = some ps ∧ (l.all (·.isP)) = true := by
  induction l generalizing ps with
  | nil => simp [allP] at h; subst h; exact ⟨rfl, rfl⟩
  | cons a l ih =>
    cases a with
    | p x =>
      simp only [allP, Option.map_eq_some_iff] at h
      obtain ⟨qs, h1, rfl⟩ := h
      obtain ⟨i1, i2⟩ := ih h1
      exact ⟨by simp [toPs, toP, i1], by rw [List.all_cons, i2]; rfl⟩
    | _ => simp [allP] at h
theorem toPss_of_allPs {l : List (List AVal)} {ps : List (List PVal)} (h : allPs l = some ps) : toPss l = some ps ∧ pureRows l = true := by
  induction l generalizing ps with
  | nil => simp [allPs] at h; subst h; exact ⟨rfl, rfl⟩
  | cons a l ih =>
    simp only [allPs, Option.bind_eq_some_iff, Option.map_eq_some_iff] at h
    obtain ⟨x, h1, qs, h2, rfl⟩ := h
    obtain ⟨i1, i2⟩ := ih h2
    obtain ⟨j1, j2⟩ := toPs_of_allP h1
    refine ⟨by simp [toPss, j1, i1], ?_⟩
    simp only [pureRows, List.all_cons, Bool.and_eq_true] at i2 ⊢
    exact ⟨j2, i2⟩
theorem oFslice_ok {t e : TypeId} {z n : Nat} {zero : List PVal} (ht : P.underlying t = some (.slice e)) (hsz : tySize P e = some z) (hz : tyZero P e zero = true) (hn : n * z ≤ 16777216)
    (hm : MR G w m) (hg : Good C G w) {ps : List (Nat × Value)} {avs : List (Nat × AVal)} (hl : ps.length = avs.length)
    (hp : ∀ (k i i' : Nat) (c : Value) (v : AVal), ps[k]? = some (i, c) → avs[k]? = some (i', v) → i = i' ∧ VR G v c)
    {out : Out} (h : oFslice z n zero m avs = some out) : OutOK C G w ((Instr.buildSlice t n ps.toArray).run P w) out := by
  simp only [oFslice, Option.map_eq_some_iff] at h
  obtain ⟨prows, hpr, rfl⟩ := h
  unfold fsl at hpr
  split at hpr
  · rename_i rows hrows
    split at hpr
    · rename_i hc
      obtain ⟨hc1, hc2, hc3⟩ := hc
      obtain ⟨hx, hpure⟩ := toPss_of_allPs hpr
      have hrz : ∀ row ∈ List.replicate n (zero.map AVal.p), row.length = z := by
        intro row hr
        rw [(List.mem_replicate.1 hr).2]
        simpa using hc2
      obtain ⟨g1, _, _⟩ := putParts_spec avs _ rows hrz hrows
      have hnl : rows.length = n := by simpa using g1
      have hb : oBslice (freshOf m) z n zero m avs = some (.rsl ⟨freshOf m, 0, []⟩ 0 n, (freshOf m, [.own false z rows]) :: m, .site (freshOf m)) := by
        unfold oBslice newRoot
        simp [hrows, hc1, hc2, hc3, hpure]
      obtain ⟨c, w', G', q1, q2, q3⟩ := oBslice_ok ht hsz hz hn hm hg (freshOf m) hl hp hb
      have hlen : prows.length = n := by rw [(toPss_get hx).1, hnl]
      obtain ⟨G2, r1, r2⟩ := fout (freshOf_none m) q3 q2 (x := .sl prows) (y := .sl prows) (by simp [toP, hx]) rfl (by
        simp only [frzV, frzRef, samePl, beq_self_eq_true, Bool.and_self, if_true]
        rw [if_pos ⟨by omega, .inr trivial⟩, List.drop_zero, List.take_of_length_le (by omega)])
      exact ⟨c, w', G2, q1, r1, r2⟩
    · cases hpr
  · cases hpr
end
end Go.Proofs.Ytnmnijgoggombaa.X
/- The operations are sound, part K: iterators over strings, entries of maps, appends in place. -/
namespace Go.Proofs.Ytnmnijgoggombaa.X
open Go.RowKit
section
variable {P : Program} {C : Ctx} {G : Gh} {w : World} {m : Mem}
/-- A NEW OBJECT at a site. -/
theorem newObj_ok (hm : MR G w m) (hg : Good C G w) (d : Nat) (ob : Obj) (new : AVal) (c : Value)
    (hnew : ∀ G' : Gh, G'.F = G.F → G'.loc ⟨d, 0, []⟩ = some ⟨w.heap.size, 0, 0, 0⟩ → G'.cv ⟨d, 0, []⟩ = c → HR G' (w.alloc ob) ⟨d, 0, []⟩ new) (hsub : ∀ a p, sub (a :: p) new = none) :
    ∃ G', Step C G w (w.alloc ob) ((d, [new]) :: m) (Kill.site d).fn G' ∧ G'.loc ⟨d, 0, []⟩ = some ⟨w.heap.size, 0, 0, 0⟩ := by
  let G' : Gh := { F := G.F
                   loc := fun q => if q.s = d then (if q.k = 0 ∧ q.path = [] then some ⟨w.heap.size, 0, 0, 0⟩ else none) else G.loc q
                   cv := fun q => if q.s = d then c else G.cv q }
  have hroot : G'.loc ⟨d, 0, []⟩ = some ⟨w.heap.size, 0, 0, 0⟩ := by simp [G']
  have hold : ∀ k, k < w.heap.size → (w.alloc ob).heap[k]? = w.heap[k]? := fun k hk => by
    show (w.heap.push _)[k]? = _
    rw [Array.getElem?_push, if_neg (by omega)]
  have hl : ∀ q L, G'.loc q = some L → (q = ⟨d, 0, []⟩ ∧ L.b = w.heap.size) ∨ (q.s ≠ d ∧ G.loc q = some L) := by
    intro q L h
    simp only [G'] at h
    split at h
    · rename_i hs
      split at h
      · rename_i hk
        cases h
        left
        obtain ⟨s, k, path⟩ := q
        simp only at hs hk
        obtain ⟨rfl, rfl⟩ := hk
        subst hs
        exact ⟨rfl, rfl⟩
      · cases h
    · exact .inr ⟨by assumption, h⟩
  refine ⟨G', ⟨?_, ?_, Frz.le_refl _, ?_⟩, hroot⟩
  · intro q x' hx
    by_cases hq : q.s = d
    · obtain ⟨s, k, path⟩ := q
      simp only at hq
      subst hq
      simp only [getAt, lk, if_true, Option.bind_some] at hx
      cases k with
      | succ k => simp at hx
      | zero =>
        simp only [List.getElem?_cons_zero, Option.bind_some] at hx
        cases path with
        | nil =>
          simp only [sub, Option.some.injEq] at hx
          subst hx
          exact hnew G' rfl hroot (by simp [G'])
        | cons c r => rw [hsub] at hx; cases hx
    · have hx0 : getAt m q = some x' := by simpa [getAt, lk, hq] using hx
      exact (hm q x' hx0).move (SameShape.refl _) (Frz.le_refl _) (fun L hL => ⟨by simp [G', hq, hL], hold _ (hg.bnd q L hL)⟩) (by simp [G', hq]) (fun i j => by simp [G', Place.ext, hq])
  · refine ⟨?_, ?_, ?_, ?_, ?_, ?_, Nat.le_trans hg.size (by simp), ?_, ?_, hg.fz0, hg.fm0, hg.fzn, hg.fmn, hg.os, hg.tape, hg.output⟩
    · intro b1 o1 v hv
      have h1 := hg.fz b1 o1 v hv
      rw [World.cell?_of_block (hold b1 (World.block_lt_of_cell? w _ h1))]
      exact h1
    · intro b1 o1 v hv q L hL
      rcases hl q L hL with ⟨_, e⟩ | ⟨_, h⟩
      · have := World.block_lt_of_cell? w _ (hg.fz b1 o1 v hv)
        simp at this; omega
      · exact hg.fzl b1 o1 v hv q L h
    · intro r es hr'
      obtain ⟨cl, hc⟩ := hg.fm r es hr'
      exact ⟨cl, by rw [hold r (Array.getElem?_eq_some_iff.1 hc).1]; exact hc⟩
    · intro r es hr' q L hL
      rcases hl q L hL with ⟨_, e⟩ | ⟨_, h⟩
      · obtain ⟨cl, hc⟩ := hg.fm r es hr'
        have := (Array.getElem?_eq_some_iff.1 hc).1
        omega
      · exact hg.fml r es hr' q L h
    · intro q q' L L' h h' e
      rcases hl q L h with ⟨rfl, e1⟩ | ⟨_, h1⟩ <;> rcases hl q' L' h' with ⟨rfl, e2⟩ | ⟨_, h2⟩
      · rfl
      · have := hg.bnd q' L' h2; omega
      · have := hg.bnd q L h1; omega
      · exact hg.inj q q' L L' h1 h2 e
    · intro q L h
      rcases hl q L h with ⟨_, e⟩ | ⟨_, h1⟩
      · simp [e]
      · have := hg.bnd q L h1; simp; omega
    · intro k hk hmine
      rw [hold k (Nat.lt_of_lt_of_le hk hg.size)]
      exact hg.keep k hk hmine
    · intro q L h
      rcases hl q L h with ⟨_, e⟩ | ⟨_, h1⟩
      · left; rw [e]; exact hg.size
      · exact hg.own q L h1
  · intro pl hpl L hL
    rcases hl pl L hL with ⟨rfl, _⟩ | ⟨_, h⟩
    · simp [Kill.fn] at hpl
    · exact h
/-- AN OBJECT REWRITTEN in its block. -/
theorem objWrite_ok (hm : MR G w m) (hg : Good C G w) {pl : Place} {old new : AVal} (hp : getAt m pl = some old) (hs : new.scalar = true) (hsub : ∀ a p, sub (a :: p) new = none) {r : Nat} (hL : G.loc pl = some ⟨r, 0, 0, 0⟩)
    {w' : World} (hnew : HR G w' pl new) (hlt : r < w.heap.size) (hother : ∀ k, k ≠ r → w'.heap[k]? = w.heap[k]?) (hsize : w'.heap.size = w.heap.size) (hos : w'.os = w.os) (htape : w'.tape = w.tape) (hout : w'.output = w.output) :
    Step C G w w' (setAt m pl new) Kill.no.fn G := by
  have hnb : ∀ q L, G.loc q = some L → q ≠ pl → L.b ≠ r := fun q L h hne e => hne (hg.inj q pl L _ h hL e)
  refine ⟨?_, ?_, Frz.le_refl _, fun _ _ _ h => h⟩
  · intro q x' hx
    by_cases hu : pl.under q
    · obtain ⟨p, rfl⟩ := hu
      rw [getAt_set_under hp] at hx
      cases p with
      | nil =>
        simp only [sub, Option.some.injEq] at hx
        subst hx
        rw [Place.app_nil]
        exact hnew
      | cons c p => rw [hsub] at hx; cases hx
    · obtain ⟨y, hy, hsh⟩ := getAt_set_else (a := new) hs hp hu hx
      have hne : q ≠ pl := fun e => hu (e ▸ Place.under_refl _)
      exact (hm q y hy).move hsh (Frz.le_refl _) (fun L hLq => ⟨hLq, hother _ (hnb q L hLq hne)⟩) rfl fun _ _ => rfl
  · refine ⟨?_, hg.fzl, ?_, hg.fml, hg.inj, ?_, by rw [hsize]; exact hg.size, ?_, hg.own, hg.fz0, hg.fm0, hg.fzn, hg.fmn, hos.trans hg.os, htape.trans hg.tape, hout.trans hg.output⟩
    · intro b1 o1 v hv
      rw [World.cell?_of_block (hother b1 (fun e => hg.fzl b1 o1 v hv pl _ hL e.symm))]
      exact hg.fz b1 o1 v hv
    · intro r' es1 hr
      rw [hother r' (fun e => hg.fml r' es1 hr pl _ hL e.symm)]
      exact hg.fm r' es1 hr
    · intro q L h; rw [hsize]; exact hg.bnd q L h
    · intro k hk hmine
      have hne : k ≠ r := by
        intro e
        subst e
        rcases hg.own pl _ hL with h | h
        · simp at h; omega
        · exact hmine h
      rw [hother k hne]
      exact hg.keep k hk hmine
theorem run_setObj {r : Nat} {ev : Array MapEntry} {ck : Nat} (h : w.heap[r]? = some (.map ev ck)) (o : Obj) : (setObj r o).run P w = .ok () { w with heap := w.heap.setIfInBounds r o } := by simp [setObj, Sem.run, h]
theorem oSrange_ok {t : TypeId} (ht : P.underlying t = some .string) (hm : MR G w m) (hg : Good C G w) (d : Nat) {x : AVal} {c : Value} (hx : VR G x c) {out : Out} (h : oSrange d m x = some out) :
    OutOK C G w ((Instr.range t c).run P w) out := by
  unfold oSrange at h
  split at h
  · rename_i s
    cases h
    have hp := hx.out
    cases hp
    obtain ⟨G', h1, h2⟩ := newObj_ok (C := C) hm hg d (.stringIter s 0) (.siter s 0) (.pointer (some ⟨w.heap.size, 0, none⟩))
      (fun G' _ a b => ⟨w.heap.size, a, b, show (w.heap.push (Obj.stringIter s 0))[w.heap.size]? = some (Obj.stringIter s 0) from Array.getElem?_push_size⟩) (fun a p => rfl)
    refine ⟨.pointer (some ⟨w.heap.size, 0, none⟩), w.alloc (.stringIter s 0), G', ?_, .rpt _ _ _ _ fun b o cap z hL => ?_, h1⟩
    · simp [Instr.range, run_underlying ht, Sem.run_bind]
    · rw [h2] at hL; cases hL; simp
  · cases h
theorem oSnext_ok {t : TypeId} (hm : MR G w m) (hg : Good C G w) {x : AVal} {c : Value} (hx : VR G x c) {out : Out} (h : oSnext m x = some out) :
    OutOK C G w ((Instr.next c true t).run P w) out := by
  unfold oSnext at h
  split at h
  · rename_i pl
    split at h
    · rename_i s pos hget
      obtain ⟨r, g1, g2, g3⟩ := hm pl _ hget
      cases hx with
      | rpt _ _ _ ad hh =>
        have had := hh _ _ _ _ g1
        simp only [Nat.zero_mul, Nat.add_zero] at had
        subst had
        have hlt := (Array.getElem?_eq_some_iff.1 g3).1
        split at h
        · rename_i hpos
          cases h
          refine ⟨.tuple #[.bool true, goInt pos, .int .i32 (Utf8.decode s pos).1], { w with heap := w.heap.setIfInBounds r (.stringIter s (pos + (Utf8.decode s pos).2)) }, G, ?_, .p ?_, ?_⟩
          · simp [Instr.next, getObj, setObj, Sem.run, Sem.run_bind, g3, hpos, Result.andThen]
          · refine .tup _ _ rfl ?_
            intro i p v h1 h2
            match i with
            | 0 => simp at h1 h2; subst h1 h2; exact .bool _
            | 1 => simp at h1 h2; subst h1 h2; exact .int _ _
            | 2 => simp at h1 h2; subst h1 h2; exact .int _ _
            | i + 3 => simp at h1
          · exact objWrite_ok hm hg hget rfl (fun a p => rfl) g1 ⟨r, g1, g2, by simp [hlt]⟩ hlt (fun q hq => Array.getElem?_setIfInBounds_ne (fun e => hq e.symm)) (by simp) rfl rfl rfl
        · rename_i hpos
          cases h
          refine ⟨.tuple #[.bool false], w, G, ?_, .p ?_, Step.refl hm hg⟩
          · simp [Instr.next, getObj, Sem.run, Sem.run_bind, g3, hpos, Result.andThen]
          · refine .tup _ _ rfl ?_
            intro i p v h1 h2
            match i with
            | 0 => simp at h1 h2; subst h1 h2; exact .bool _
            | i + 1 => simp at h1
    · cases h
  · cases h
theorem mapIdx_spec {ls : List Leaf} {k : PVal} : ∀ (es : List (PVal × PVal)) (bs : List Bool) (vs : List Value) (i : Nat), bs.length = es.length → vs.length = es.length →
    (∀ (j : Nat) (e : PVal × PVal) (b : Bool), es[j]? = some e → bs[j]? = some b → keyEq ls k e.1 = some b) →
    (firstB (bs.zip vs) i = none ∧ mapIdx ls es k = some es.length) ∨ ∃ n c, firstB (bs.zip vs) i = some (i + n, c) ∧ mapIdx ls es k = some n ∧ n < es.length ∧ vs[n]? = some c := by
  intro es
  induction es with
  | nil => intro bs vs i h1 h2 _; left; cases bs <;> simp_all [firstB, mapIdx]
  | cons e es ih =>
    intro bs vs i h1 h2 h3
    cases bs with
    | nil => simp at h1
    | cons b bs =>
      cases vs with
      | nil => simp at h2
      | cons u vs =>
        have hk := h3 0 e b (by simp) (by simp)
        simp only [List.zip_cons_cons, firstB, mapIdx, hk]
        cases b with
        | true => exact .inr ⟨0, u, by simp, by simp, by simp, by simp⟩
        | false =>
          rcases ih bs vs (i + 1) (by simpa using h1) (by simpa using h2) (fun j e b a c => h3 (j + 1) e b (by simpa using a) (by simpa using c)) with ⟨q1, q2⟩ | ⟨n, c, q1, q2, q3, q4⟩
          · exact .inl ⟨by simpa using q1, by simp [q2]⟩
          · exact .inr ⟨n + 1, c, by simpa [Nat.add_assoc, Nat.add_comm 1 n] using q1, by simp [q2], by simpa using q3, by simpa using q4⟩
theorem oMentry_ok {t k e : TypeId} {ls : List Leaf} {zero : PVal} (ht : mapKey P t ls = some (k, e)) (hz : zeroIs P e zero = true) (hm : MR G w m) (hg : Good C G w)
    {x y : AVal} {c d : Value} (hx : VR G x c) (hy : VR G y d) {out : Out} (h : oMentry ls zero m x y = some out) : OutOK C G w ((Instr.mapEntry t c d).run P w) out := by
  obtain ⟨hu, hkt⟩ := mapKey_spec ht
  obtain ⟨z, hz1, hz2⟩ := run_zeroIs (P := P) (w := w) hz
  unfold oMentry at h
  split at h
  · rename_i pl key
    split at h
    · rename_i r0 es hk0 hget
      split at h
      · rename_i n hidx
        split at h
        · rename_i es' hput
          cases h
          have hkey := hy.out
          obtain ⟨r', ev, clock, g1, g2, g3, g4, g5, g6⟩ := hm pl _ hget
          cases hx with
          | rmp _ r hxx =>
            have := hxx _ _ _ _ g1
            subst this
            obtain ⟨bs, b1, b2, b3⟩ := mapPut_spec es es' hput
            have hlen : ev.toList.length = es.length := by simpa using g4
            have hfind := findKey_ok (P := P) (F := G.F) (w := w) hkt hkey es ev.toList bs hlen b1 (fun j e v a b => (g5 j e v a (by simpa using b)).1) b2
            have hchk := checkKey_ok (P := P) (F := G.F) (w := w) hkt hkey hk0 false
            have hgo : (getObj r).run P w = .ok (.map ev clock) w := by simp [getObj, Sem.run, g3]
            have hset := fun o => run_setObj (P := P) g3 o
            have hlt : r < w.heap.size := (Array.getElem?_eq_some_iff.1 g3).1
            have tupR : ∀ (p : PVal) (v : Value) (n : Nat), PV G.F p v → VR G (.p (.tup [p, .int .i64 n])) (.tuple #[v, goInt n]) := by
              intro p v n hp
              refine .p (.tup _ _ rfl ?_)
              intro i q u h1 h2
              match i with
              | 0 => simp at h1 h2; subst h1 h2; exact hp
              | 1 => simp at h1 h2; subst h1 h2; exact .int _ _
              | i + 2 => simp at h1
            rcases mapIdx_spec es bs (ev.toList.map (·.val)) 0 b1 (by simpa using g4) b2 with ⟨i1, i2⟩ | ⟨n', c', i1, i2, i3, i4⟩
            · rw [i2] at hidx; cases hidx
              rcases b3 (ev.toList.map (·.val)) 0 (by simpa using g4) with ⟨hn, rfl⟩ | ⟨n2, c2, hn, _⟩
              · have hgz : es[es.length]? = none := by simp
                simp only [hgz, Option.map_none, Option.getD_none]
                rw [hn] at hfind
                refine ⟨.tuple #[z, goInt clock], { w with heap := w.heap.setIfInBounds r (.map (ev.push { key := d, val := z, born := clock }) (clock + 1)) }, G, ?_, ?_, ?_⟩
                · simp only [Instr.mapEntry, Sem.run_bind, run_underlying hu, Result.andThen_ok, hgo, hchk, hfind, hz1, hset, Sem.run_pure]
                · rw [g6, g4]; exact tupR _ _ _ (hz2 _)
                · refine mapWrite_ok (ev' := ev.push { key := d, val := z, born := clock }) (clock' := clock + 1) hm hg hget g1 (by simp [hlt]) (fun q hq => Array.getElem?_setIfInBounds_ne (fun e => hq e.symm)) (by simp) rfl rfl rfl (by simp [g4]) ?_ ?_
                  · intro i e v h1 h2
                    rw [List.getElem?_append] at h1
                    rw [Array.getElem?_push] at h2
                    split at h1
                    · rename_i hi
                      rw [if_neg (by omega)] at h2
                      exact g5 i e v h1 h2
                    · rename_i hi
                      have hi' : i = es.length := by
                        have := (List.getElem?_eq_some_iff.1 h1).1
                        simp at this; omega
                      subst hi'
                      rw [if_pos (by omega)] at h2
                      simp at h1 h2
                      subst h1 h2
                      exact ⟨hkey, hz2 _, by rw [g6]; exact g4⟩
                  · simp [g6]
              · rw [i1] at hn; cases hn
            · have hnn : n = n' := by rw [i2] at hidx; exact (Option.some.inj hidx).symm
              subst hnn
              rcases b3 (ev.toList.map (·.val)) 0 (by simpa using g4) with ⟨hn, _⟩ | ⟨n2, c2, hn, hnl, rfl, e', he', hek⟩
              · rw [i1] at hn; cases hn
              · rw [i1] at hn
                simp only [Nat.zero_add, Option.some.injEq, Prod.mk.injEq] at hn
                obtain ⟨hn1, hn2⟩ := hn
                subst hn1 hn2
                simp only [he', Option.map_some, Option.getD_some]
                rw [i1, Nat.zero_add] at hfind
                have hnlt : n < ev.size := by omega
                have hold := g5 n e' _ he' (Array.getElem?_eq_getElem hnlt)
                have hc' : c' = (ev[n]'hnlt).val := by simp [hnlt] at i4; exact i4.symm
                have hsame : Instr.sameBits 10000 (ev[n]'hnlt).key d = true := sameBits_key hk0 (hek ▸ hold.1) hkey
                have hstay : (Instr.keyThatStays (ev[n]'hnlt).key d).run P w = .ok d w := by simp [Instr.keyThatStays, hsame]
                have hkk : ((ev[n]?).map (·.key)).getD d = (ev[n]'hnlt).key := by simp [hnlt]
                have hbb : ((ev[n]?).map (fun x => (x.born : Int))).getD 0 = n := by simp [hnlt, hold.2.2]
                refine ⟨.tuple #[c', goInt n], { w with heap := w.heap.setIfInBounds r (.map (ev.modify n fun e => { e with key := d }) clock) }, G, ?_, ?_, ?_⟩
                · simp only [Instr.mapEntry, Sem.run_bind, run_underlying hu, Result.andThen_ok, hgo, hchk, hfind, hkk, hstay, hset, hbb, Sem.run_pure]
                · rw [hc']; exact tupR _ _ _ hold.2.1
                · refine mapWrite_ok (ev' := ev.modify n fun e => { e with key := d }) (clock' := clock) hm hg hget g1 (by simp [hlt]) (fun q hq => Array.getElem?_setIfInBounds_ne (fun e => hq e.symm)) (by simp) rfl rfl rfl (by simp [g4]) ?_ ?_
                  · intro i e v h1 h2
                    rw [Array.getElem?_modify] at h2
                    by_cases hin : n = i
                    · subst hin
                      simp only [if_true, Array.getElem?_eq_getElem hnlt, Option.map_some, Option.some.injEq] at h2
                      subst h2
                      simp [hnl] at h1
                      subst h1
                      exact ⟨hkey, hold.2.1, hold.2.2⟩
                    · rw [if_neg hin] at h2
                      rw [List.getElem?_set_ne hin] at h1
                      exact g5 i e v h1 h2
                  · simpa using g6
        · cases h
      · cases h
    · cases h
  · cases h
theorem oMestore_ok {t : TypeId} (hm : MR G w m) (hg : Good C G w) {x s v : AVal} {c cs u : Value} (hx : VR G x c) (hs : VR G s cs) (hv : VR G v u) {out : Out} (h : oMestore m x s v = some out) :
    OutOKU C G w ((Instr.entryStore t c cs u).run P w) out := by
  unfold oMestore at h
  split at h
  · rename_i pl kk n val
    split at h
    · rename_i es hget
      split at h
      · rename_i hn
        cases h
        obtain ⟨hn0, hn1⟩ := hn
        have hval := hv.out
        have hsv := hs.out
        cases hsv
        obtain ⟨r', ev, clock, g1, g2, g3, g4, g5, g6⟩ := hm pl _ hget
        cases hx with
        | rmp _ r hxx =>
          have := hxx _ _ _ _ g1
          subst this
          have hlt : r < w.heap.size := (Array.getElem?_eq_some_iff.1 g3).1
          have hgo : (getObj r).run P w = .ok (.map ev clock) w := by simp [getObj, Sem.run, g3]
          have hnl : n.toNat < ev.size := by omega
          have hborn : ∀ (i : Nat) (hi : i < ev.size), (ev[i]'hi).born = i := fun i hi => (g5 i _ _ (List.getElem?_eq_getElem (by omega)) (Array.getElem?_eq_getElem hi)).2.2
          have hfi : ev.findIdx? (fun e => (e.born : Int) == n) = some n.toNat := by
            rw [Array.findIdx?_eq_some_iff_getElem]
            refine ⟨hnl, ?_, ?_⟩
            · rw [hborn]; simp; omega
            · intro j hj
              rw [hborn]
              simp; omega
          refine ⟨{ w with heap := w.heap.setIfInBounds r (.map (ev.modify n.toNat fun e => { e with val := u }) clock) }, G, ?_, ?_⟩
          · simp only [Instr.entryStore, Sem.run_bind, hgo, Result.andThen_ok, asInt, asIntOf, Sem.run_pure, hfi]
            exact run_setObj g3 _
          · refine mapWrite_ok (ev' := ev.modify n.toNat fun e => { e with val := u }) (clock' := clock) hm hg hget g1 (by simp [hlt]) (fun q hq => Array.getElem?_setIfInBounds_ne (fun e => hq e.symm)) (by simp) rfl rfl rfl (by simp [g4]) ?_ ?_
            · intro i e v h1 h2
              rw [Array.getElem?_modify] at h2
              by_cases hin : n.toNat = i
              · subst hin
                rw [if_pos rfl, Option.map_eq_some_iff] at h2
                obtain ⟨v0, k2, rfl⟩ := h2
                cases k1 : es[n.toNat]? with
                | none => simp [k1] at h1
                | some e0 =>
                  simp [k1] at h1
                  subst h1
                  have := g5 _ e0 v0 k1 k2
                  exact ⟨this.1, hval, this.2.2⟩
              · rw [if_neg hin] at h2
                exact g5 i e v (by simpa [List.getElem?_modify, hin] using h1) h2
            · simpa using g6
      · cases h
    · cases h
  · cases h
theorem oAppin_ok {t ty e : TypeId} {z : Nat} (ht : P.underlying t = some (.slice e)) (hsz : tySize P e = some z) (hm : MR G w m) (hg : Good C G w) {s x : AVal} {cs cx : Value} (hs : VR G s cs) (hx : VR G x cx) {out : Out} (h : oAppin z m s x = some out) :
    OutOK C G w ((Builtin.append_ #[t, t] ty #[cs, cx]).run P w) out := by
  obtain ⟨ie, hie, his⟩ : ∃ ie, P.info? e = some ie ∧ ie.size = z := by
    cases hi : P.info? e with
    | none => simp [tySize, hi] at hsz
    | some ie => exact ⟨ie, rfl, by simpa [tySize, hi] using hsz⟩
  unfold oAppin at h
  split at h
  · rename_i pl off len
    split at h
    · rename_i z' rows news hget hnews
      split at h
      · rename_i hc
        cases h
        obtain ⟨rfl, hz, hfit, hoff⟩ := hc
        obtain ⟨b, o, cap, ocs, oty, g1, g2, g3, g4, g5, g6, g7, g8⟩ := hm pl _ hget
        obtain ⟨val, hsrc⟩ := rowsOf_src hm hg hx hnews hz
        cases hs with
        | rsl _ _ _ ad k hxx =>
          obtain ⟨q1, q2, q3⟩ := hxx _ _ _ _ g1
          have had := q3 (hoff.imp (fun h => by omega) id)
          subst had
          have hnl : (Src.list val (news.length * z')).length = news.length * z' := by simp [Src.list]
          have hll : (liftRows news).length = news.length := by simp [liftRows]
          have hmul : (off + len + news.length) * z' ≤ cap * z' := Nat.mul_le_mul_right _ (by omega)
          rw [Nat.add_mul, Nat.add_mul] at hmul
          have hone : ∀ u ∈ Src.list val (news.length * z'), u.oneCell' = true := by
            intro u hu
            simp only [Src.list, List.mem_map, List.mem_range] at hu
            obtain ⟨q, hq, rfl⟩ := hu
            have hzp : 0 < z' := by rcases Nat.eq_zero_or_pos z' with h | h; (rw [h] at hq; simp at hq); exact h
            have hi : q / z' < (liftRows news).length := by rw [hll]; exact (Nat.div_lt_iff_lt_mul hzp).2 hq
            have hl0 := hsrc.len _ (List.getElem_mem hi)
            have hj : q % z' < (liftRows news)[q / z'].length := by rw [hl0]; exact Nat.mod_lt _ hzp
            have := (hsrc.cell _ _ _ (cellAt_some.2 ⟨_, List.getElem?_eq_getElem hi, List.getElem?_eq_getElem hj⟩)).2.1
            rw [divmod] at this
            exact this
          have hr := run_append_fit (P := P) w t ty e ie ht hie b (o + off * z') len k ocs oty g3 cx news.length (Src.list val (news.length * z')) (by have := hsrc.len_run (P := P) w; rwa [hll] at this) (by rw [his]; exact hsrc.first_run _ (by omega)) hone (by omega) (by rw [his, hnl]; omega)
          rw [his, show o + off * z' + len * z' = o + (off + len) * z' by rw [Nat.add_mul]; omega] at hr
          have hzn : ∀ row ∈ news, row.length = z' := by
            intro row hrow
            have := hsrc.len (row.map .p) (by simp only [liftRows, List.mem_map]; exact ⟨row, hrow, rfl⟩)
            simpa using this
          obtain ⟨G', hst⟩ := overwrite_ok (C := C) hm hg hget g1 g3 g4 g5 g7 (off + len) news hzn hfit (Src.list val (news.length * z')) hnl (fun i j row p h1 h2 => by
            obtain ⟨a1, a2, _⟩ := hsrc.pv h1 h2
            have hi := (List.getElem?_eq_some_iff.1 h1).1
            have hj := (List.getElem?_eq_some_iff.1 h2).1
            have hl := hzn row (List.mem_of_getElem? h1)
            have hidx : i * z' + j < news.length * z' := by
              have : (i + 1) * z' ≤ news.length * z' := Nat.mul_le_mul_right _ (by omega)
              rw [Nat.add_mul] at this; omega
            exact ⟨a1, _, Src.get hidx, a2⟩)
          have hvr : VR G' (.rsl pl off (len + news.length)) (.slice (some ⟨b, o + off * z', none⟩) (len + news.length) k) := by
            refine .rsl _ _ _ _ _ fun b' o' cap' z'' hL => ?_
            have hL0 := hst.loc pl rfl _ hL
            rw [g1] at hL0
            cases hL0
            exact ⟨by omega, q2, fun _ => rfl⟩
          exact ⟨_, _, G', hr, hvr, hst⟩
      · cases h
    · cases h
  · cases h
theorem oSlc3_ok {t e : TypeId} (ht : P.underlying t = some (.slice e)) {z : Nat} (hsz : tySize P e = some z) (hm : MR G w m) (hg : Good C G w) {x lo hi mx : AVal} {c cl ch cm : Value} (hx : VR G x c) (h1 : VR G lo cl) (h2 : VR G hi ch) (h3 : VR G mx cm)
    {out : Out} (h : oSlc3 m x lo hi mx = some out) : OutOK C G w ((Instr.sliceAt t c (some cl) (some ch) (some cm)).run P w) out := by
  unfold oSlc3 at h
  split at h
  · rename_i pl off len l hh k e1 e2 e3
    split at h
    · rename_i z' rows hget
      split at h
      · rename_i hc
        cases h
        obtain ⟨c1, c2, c3, c4⟩ := hc
        have num : ∀ {a : AVal} {n : Int} {v : Value}, intOf? a = some n → VR G a v → ∃ kk, v = .int kk n := by
          intro a n v ha hv
          unfold intOf? at ha
          split at ha
          · cases ha; have := hv.out; cases this; exact ⟨_, rfl⟩
          · cases ha
        obtain ⟨kl, rfl⟩ := num e1 h1
        obtain ⟨kh, rfl⟩ := num e2 h2
        obtain ⟨km, rfl⟩ := num e3 h3
        obtain ⟨b, o, cap, ocs, oty, g1, g2, g3, g4, g5, g6, g7, g8⟩ := hm pl _ hget
        cases hx with
        | rsl _ _ _ ad kk hxx =>
          obtain ⟨q1, q2, q3⟩ := hxx _ _ _ _ g1
          have b1 : k ≤ (kk : Int) := by omega
          have b2 : hh ≤ max k 0 := by omega
          have b3 : l ≤ max hh 0 := by omega
          have hrun : (Instr.sliceAt t (.slice (some ad) len kk) (some (.int kl l)) (some (.int kh hh)) (some (.int km k))).run P w =
              .ok (.slice (if k.toNat = l.toNat then some ad else some (ad.add (l.toNat * z))) (hh.toNat - l.toNat) (k.toNat - l.toNat)) w := by
            simp [Instr.sliceAt, Instr.slice, Instr.sliceBounds, Instr.sliceBound, asIntOf, Sem.run_bind, run_underlying ht, Result.andThen, run_tySize hsz, b1, b2, b3, c1, show 0 ≤ hh by omega, show 0 ≤ k by omega]
          refine ⟨_, w, G, hrun, .unk _ rfl, Step.refl hm hg⟩
      · cases h
    · cases h
  · cases h
end
end Go.Proofs.Ytnmnijgoggombaa.X
/- The operations are sound, part L: an append of zeros to nothing. -/
namespace Go.Proofs.Ytnmnijgoggombaa.X
open Go.RowKit
section
variable {P : Program} {C : Ctx} {G : Gh} {w : World} {m : Mem}
theorem oFrzR_ok {r : Result Value} {d : Nat} {o out : Out} (ho : OutOK C G w r o) (h : oFrzR d (some o) = some out) : OutOK C G w r out := by
  obtain ⟨c, w', G', h1, h2, h3⟩ := ho
  unfold oFrzR at h
  split at h
  · rename_i pl off len m' k he
    cases he
    split at h
    · rename_i z rows hget
      split at h
      · rename_i hc
        obtain ⟨rfl, rfl, _⟩ := hc
        split at h
        · rename_i prs hprs
          cases h
          have hx : toP (.own false z rows) = some (.sl prs) := by simp [toP, hprs]
          obtain ⟨k1, k2, k3, k4, k5⟩ := freeze_ok h3.good pl h3.mr hget hx rfl
          have hcv : c = G'.cv pl := refOf_unique (h3.mr pl _ hget) rfl rfl h2
          refine ⟨c, w', _, h1, .p (by rw [hcv]; exact k4), k1, k2, ⟨fun b o v hv => k3.cell b o v (h3.le.cell b o v hv), fun r es hr => k3.map r es (h3.le.map r es hr)⟩, fun q hq L hL => h3.loc q hq L (k5 q L hL)⟩
        · cases h
      · cases h
    · cases h
  · rename_i v m' k he
    cases he
    cases h
    exact ⟨c, w', G', h1, h2, h3⟩
  · cases h
theorem oAppz_ok {t tn ty e : TypeId} {kn : IntKind} {z bytes : Nat} {zero : List PVal} (ht : P.underlying t = some (.slice e)) (htn : P.underlying tn = some (.int kn)) (hsz : tySize P e = some z) (hz : tyZero P e zero = true) (hby : (P.info? e).map (·.bytes) = some bytes)
    (hm : MR G w m) (hg : Good C G w) (d : Nat) {x y : AVal} {c c' : Value} (hx : VR G x c) (hy : VR G y c') {out : Out} (h : oAppz d z bytes zero m x y = some out) :
    OutOK C G w ((Builtin.append_ #[t, tn] ty #[c, c']).run P w) out := by
  obtain ⟨zv, hz1, hz2, hz3⟩ := run_tyZero (w := w) hz
  unfold oAppz at h
  split at h
  · rename_i l hl
    have hc := hx.out
    cases hc
    obtain ⟨k2, rfl⟩ := asIntOf_of hy hl
    split at h
    · rename_i hc
      obtain ⟨h0, h1, h2, h3, h4, h5⟩ := hc
      cases h
      obtain ⟨ie, hie, hib⟩ : ∃ ie, P.info? e = some ie ∧ ie.bytes = bytes := by
        cases hi : P.info? e with
        | none => simp [hi] at hby
        | some ie => simp [hi] at hby; exact ⟨ie, rfl, hby⟩
      have his : ie.size = z := by simpa [tySize, hie] using hsz
      obtain ⟨n, rfl⟩ : ∃ n : Nat, l = n := ⟨l.toNat, by omega⟩
      have hiz : ie.zero = some zv := by simpa [hie] using hz3
      have hn : 0 < n := by omega
      have hge := grownCap_ge w n 0 e
      have hcm : grownCap w n 0 e ≤ maxLen := grownCap_le_maxLen w n 0 e (by simp [maxLen]; omega)
      have hr := Lib.run_append_nil_zeros (P := P) w t tn ty e ie zv k2 kn ht htn hie hiz n hn (by omega) h3 (by
        rw [hib]
        have : ((n * bytes : Nat) : Int) ≤ 140737488355328 := by rw [Int.natCast_mul]; exact h2
        omega)
      have hzl : zero.length = z := h4
      have hzvs : zv.cells.size = z := by rw [(cellsIs_ok (F := ⟨fun _ _ => none, fun _ => none⟩) hz2).1]; exact hzl
      obtain ⟨G', s, lc, _⟩ := create_ok (w' := w.drew.alloc (.cells (Builtin.zeroCells zv.cells n ++ Builtin.zeroCells zv.cells (grownCap w n 0 e - n)) e)) (cs := Builtin.zeroCells zv.cells n ++ Builtin.zeroCells zv.cells (grownCap w n 0 e - n)) (ty := e) hm hg d rfl rfl rfl rfl false z (grownCap w n 0 e) (List.replicate n (zero.map .p))
        (by
          simp only [Array.size_append, size_zeroCells, hzvs, ← Nat.add_mul]
          exact Nat.mul_le_mul_right _ (by omega)) (by simp; omega) hcm
        (by intro row hr; rw [(List.mem_replicate.1 hr).2]; simpa using hzl)
        (fun i j a ha => by
          obtain ⟨row, g1, g2⟩ := cellAt_some.1 ha
          have hi : i < n := by have := (List.getElem?_eq_some_iff.1 g1).1; simpa using this
          have hrow : row = zero.map .p := by rw [(List.mem_replicate.1 (List.mem_of_getElem? g1)).2]
          subst hrow
          simp only [List.getElem?_map, Option.map_eq_some_iff] at g2
          obtain ⟨p, hpp, rfl⟩ := g2
          have hj : j < zero.length := (List.getElem?_eq_some_iff.1 hpp).1
          have hlt : i * z + j < n * z := by
            have : (i + 1) * z ≤ n * z := Nat.mul_le_mul_right _ (by omega)
            rw [Nat.add_mul] at this
            omega
          obtain ⟨p', c, q1, q2, q3, q4⟩ := zeros_get hz2 (n * z) i j hj (by rw [hzl]; exact hlt)
          rw [hpp] at q1; cases q1
          rw [hzl] at q2
          refine ⟨q3, c, ?_, .inl ⟨p, rfl, q4 _⟩⟩
          rw [Array.getElem?_append, if_pos (by rw [size_zeroCells, hzvs]; exact hlt)]
          unfold Builtin.zeroCells
          rw [hzvs]
          rw [hzvs] at q2
          exact q2)
      refine ⟨_, _, G', hr, .rsl _ _ _ _ _ fun b o cap z' hL => ?_, s⟩
      rw [lc] at hL
      cases hL
      exact ⟨by simpa using hge, rfl, fun _ => by simp⟩
    · cases h
  · cases h
end
end Go.Proofs.Ytnmnijgoggombaa.X
/- When a resolved operation stands for the program's own; then it does to the machine what it does to the abstract state. -/
namespace Go.Proofs.Ytnmnijgoggombaa.X
open Go.RowKit
def argIs : Operand → Arg → Bool
  | .tmp t, .s t' => t == t' && Nat.ble t 999999
  | .const v, .c x => valIs x v
  | .func f, .c (.fn f' [] []) => f == f'
  | _, _ => false
def argsIs : List Operand → List Arg → Bool
  | [], [] => true
  | o :: os, a :: avs => argIs o a && argsIs os avs
  | _, _ => false
def argOIs : Option Operand → Option Arg → Bool
  | none, none => true
  | some o, some a => argIs o a
  | _, _ => false
def partsIs (P : Program) (t : TypeId) : List (Nat × Operand) → List (Nat × Nat × Arg) → Bool
  | [], [] => true
  | (i, o) :: os, (off, n, a) :: avs => partOK P t i off n && argIs o a && partsIs P t os avs
  | _, _ => false
def rowsIs : List (Nat × Operand) → List (Nat × Arg) → Bool
  | [], [] => true
  | (i, o) :: os, (i', a) :: avs => i == i' && argIs o a && rowsIs os avs
  | _, _ => false
def under (P : Program) (t : TypeId) (f : TypeDesc → Bool) : Bool :=
  match P.underlying t with
  | some d => f d
  | none => false
def sliceOf (P : Program) (t : TypeId) : Option TypeId :=
  match P.underlying t with
  | some (.slice e) => some e
  | _ => none
theorem sliceOf_spec {P : Program} {t e : TypeId} (h : sliceOf P t = some e) : P.underlying t = some (.slice e) := by
  unfold sliceOf at h
  split at h
  · cases h; assumption
  · cases h
def arrayOf (P : Program) (t : TypeId) : Option (Nat × TypeId) :=
  match P.underlying t with
  | some (.array n e) => some (n, e)
  | _ => none
theorem arrayOf_spec {P : Program} {t e : TypeId} {n : Nat} (h : arrayOf P t = some (n, e)) : P.underlying t = some (.array n e) := by
  unfold arrayOf at h
  split at h
  · cases h; assumption
  · cases h
def fieldOf (P : Program) (t : TypeId) (f : Nat) : Option Field :=
  match P.underlying t with
  | some (.struct fs) => fs[f]?
  | _ => none
theorem fieldOf_spec {P : Program} {t : TypeId} {f : Nat} {fd : Field} (h : fieldOf P t f = some fd) : ∃ fs, P.underlying t = some (.struct fs) ∧ fs[f]? = some fd := by
  unfold fieldOf at h
  split at h
  · exact ⟨_, by assumption, h⟩
  · cases h
def callIs (P : Program) (c : Call) (r : ROp) : Bool :=
  match c.callee, r with
  | .builtin .len, .len k a => match c.argTypes.toList, c.args.toList with
    | [t], [x] => under P t (lenD k) && argIs x a
    | _, _ => false
  | .builtin .append, .append z bytes zero a b => match c.argTypes.toList, c.args.toList with
    | [t, t'], [x, y] => match sliceOf P t with
      | some e => t == t' && tySize P e == some z && ((P.info? e).map (·.bytes)) == some bytes && tyZero P e zero && zero.length == z && argIs x a && argIs y b
      | none => false
    | _, _ => false
  | .builtin .append, .appendF z bytes zero a b => match c.argTypes.toList, c.args.toList with
    | [t, t'], [x, y] => match sliceOf P t with
      | some e => t == t' && tySize P e == some z && ((P.info? e).map (·.bytes)) == some bytes && tyZero P e zero && zero.length == z && argIs x a && argIs y b
      | none => false
    | _, _ => false
  | .builtin .append, .appin z a b => match c.argTypes.toList, c.args.toList with
    | [t, t'], [x, y] => match sliceOf P t with
      | some e => t == t' && tySize P e == some z && argIs x a && argIs y b
      | none => false
    | _, _ => false
  | .builtin .append, .appz z bytes zero a b => match c.argTypes.toList, c.args.toList with
    | [t, t'], [x, y] => match sliceOf P t with
      | some e => under P t' (fun d => match d with | .int _ => true | _ => false) && tySize P e == some z && ((P.info? e).map (·.bytes)) == some bytes && tyZero P e zero && argIs x a && argIs y b
      | none => false
    | _, _ => false
  | .builtin .cap, .cap a => match c.argTypes.toList, c.args.toList with
    | [t], [x] => (sliceOf P t).isSome && argIs x a
    | _, _ => false
  | .builtin .copy, .copy z a b => match c.argTypes.toList, c.args.toList with
    | [t, _], [x, y] => match sliceOf P t with
      | some e => tySize P e == some z && argIs x a && argIs y b
      | none => false
    | _, _ => false
  | .builtin .clear, .clear _ zero a => match c.argTypes.toList, c.args.toList with
    | [t], [x] => match sliceOf P t with
      | some e => tyZero P e zero && argIs x a
      | none => false
    | _, _ => false
  | .builtin .max, .minmax true avs => argsIs c.args.toList avs
  | .builtin .min, .minmax false avs => argsIs c.args.toList avs
  | _, _ => false
def opIs (P : Program) (o : Op) (r : ROp) : Bool :=
  match o, r with
  | .move x, .mv a => argIs x a
  | .assign x, .mv a => argIs x a
  | .alloc t, .alloc cells => tyZero P t cells
  | .box _ x, .box a => argIs x a
  | .load t x, .load n ag a => tySize P t == some n && tyAgg P t == some ag && argIs x a
  | .store t x v, .store n a b => tySize P t == some n && argIs x a && argIs v b
  | .fieldAddr t x f, .faddr off a => match fieldOf P t f with
    | some fd => fd.offset == off && (match tySize P fd.type with | some k => k != 0 | none => false) && argIs x a
    | none => false
  | .indexAddr t x i, .iaddr z none a b => match sliceOf P t with
    | some e => tySize P e == some z && argIs x a && argIs i b
    | none => false
  | .indexAddr t x i, .iaddr z (some len) a b => match arrayOf P t with
    | some (n, e) => n == len && tySize P e == some z && argIs x a && argIs i b
    | none => false
  | .field t x f, .field off n ag a => match fieldOf P t f with
    | some fd => fd.offset == off && tyAgg P fd.type == some ag && tySize P fd.type == some n && argIs x a
    | none => false
  | .index t x i, .aindex len z ag a b => match arrayOf P t with
    | some (n, e) => n == len && tyAgg P e == some ag && tySize P e == some z && argIs x a && argIs i b
    | none => false
  | .index t x i, .sindex a b => under P t (fun d => match d with | .string => true | _ => false) && argIs x a && argIs i b
  | .binOp op _ x y _, .bin op' a b => op == op' && argIs x a && argIs y b
  | .binOp op t x y _, .eq k neg a b => op == (if neg then .neq else .eql) && eqD P k t && argIs x a && argIs y b
  | .unOp op _ x, .un op' a => op == op' && argIs x a
  | .build t parts, .build zero ps => tyZero P t zero && (placesOf P t).isSome && partsIs P t parts.toList ps
  | .buildSlice t n parts, .bslice z n' zero ps => match sliceOf P t with
    | some e => n == n' && tySize P e == some z && tyZero P e zero && decide (n' * z ≤ 16777216) && rowsIs parts.toList ps
    | none => false
  | .buildSlice t n parts, .fslice z n' zero ps => match sliceOf P t with
    | some e => n == n' && tySize P e == some z && tyZero P e zero && decide (n' * z ≤ 16777216) && rowsIs parts.toList ps
    | none => false
  | .makeSlice t l c, .mkslice z bytes zero a b => match sliceOf P t with
    | some e => tySize P e == some z && tyZero P e zero && ((P.info? e).map (·.bytes)) == some bytes && argIs l a && argIs c b
    | none => false
  | .makeMap _ none, .mkmap => true
  | .lookup t x k ok, .lookup ls zero ok' a b => match mapKey P t ls with
    | some (_, e) => ok == ok' && zeroIs P e zero && argIs x a && argIs k b
    | none => false
  | .mapUpdate t x k v, .mapset ls a b c => (mapKey P t ls).isSome && argIs x a && argIs k b && argIs v c
  | .insert t x k v, .mapset ls a b c => (mapKey P t ls).isSome && argIs x a && argIs k b && argIs v c
  | .extract x i, .extract i' a => i == i' && argIs x a
  | .slice t x lo hi none, .slc z a l h => match sliceOf P t with
    | some e => tySize P e == some z && argIs x a && argOIs lo l && argOIs hi h
    | none => false
  | .slice t x lo hi none, .ssl a l h => under P t (fun d => match d with | .string => true | _ => false) && argIs x a && argOIs lo l && argOIs hi h
  | .makeFunc (.func f) first caps, .fn f' us cs => f == f' && argsIs first.toList us && argsIs caps.toList cs
  | .pick c x y, .pick a b d => argIs c a && argIs x b && argIs y d
  | .convert src dst x, .conv (some k) a => under P src (fun _ => true) && under P dst (fun d => match d with | .int k' => k == k' | _ => false) && argIs x a
  | .convert src dst x, .conv none a => under P src (fun _ => true) && under P dst (fun d => match d with | .string => true | _ => false) && argIs x a
  | .nilCheck x, .nilchk a => argIs x a
  | .range t x, .srange a => under P t (fun d => match d with | .string => true | _ => false) && argIs x a
  | .next x true, .snext a => argIs x a
  | .mapEntry t x k, .mentry ls zero a b => match mapKey P t ls with
    | some (_, e) => zeroIs P e zero && argIs x a && argIs k b
    | none => false
  | .entryStore _ x s v, .mestore a b c => argIs x a && argIs s b && argIs v c
  | .slice t x (some lo) (some hi) (some mx), .slc3 a l h k => match sliceOf P t with
    | some e => (tySize P e).isSome && argIs x a && argIs lo l && argIs hi h && argIs mx k
    | none => false
  | .range t x, .mrg a => under P t (fun d => match d with | .map _ _ => true | _ => false) && argIs x a
  | .next x false, .mnx a => argIs x a
  | .entry x, .ment a => argIs x a
  | .call c, r => callIs P c r
  | _, _ => false
end Go.Proofs.Ytnmnijgoggombaa.X
/- Each resolved operation that stands for the program's own does to the machine what it does to the abstract state. -/
namespace Go.Proofs.Ytnmnijgoggombaa.X
open Go.RowKit
section
variable {P : Program} {C : Ctx} {G : Gh} {w : World} {m : Mem} {e : Env} {a : Act}
theorem arg_ok {o : Operand} {x : Arg} (h : argIs o x = true) (he : ER C G e a.tmps) {v : AVal} (hv : evA e x = some v) : VR G v (a.eval o) := by
  unfold argIs at h
  split at h
  · rename_i t t'
    simp only [Bool.and_eq_true, beq_iff_eq] at h
    obtain ⟨rfl, h⟩ := h
    have hlt := Nat.lt_succ_of_le (Nat.le_of_ble_eq_true h)
    obtain ⟨c, h1, h2⟩ := he _ _ hv
    rw [slotOf_lt hlt] at h1
    simpa [Act.eval, h1] using h2
  · cases hv
    exact .p (valIs_ok h)
  · rename_i f f'
    obtain rfl := beq_iff_eq.1 h
    cases hv
    exact .p (.fn _ [] [] #[] #[] rfl rfl (by simp) (by simp))
  · cases h
theorem args_ok (he : ER C G e a.tmps) : ∀ {os : List Operand} {xs : List Arg}, argsIs os xs = true → ∀ {vs : List AVal}, evAs e xs = some vs →
    (os.map a.eval).length = vs.length ∧ ∀ (i : Nat) (v : AVal) (c : Value), vs[i]? = some v → (os.map a.eval)[i]? = some c → VR G v c := by
  intro os
  induction os with
  | nil =>
    intro xs h vs hv
    cases xs with
    | nil => simp [evAs] at hv; subst hv; simp
    | cons => simp [argsIs] at h
  | cons o os ih =>
    intro xs h vs hv
    cases xs with
    | nil => simp [argsIs] at h
    | cons x xs =>
      simp only [argsIs, Bool.and_eq_true] at h
      simp only [evAs, Option.bind_eq_some_iff, Option.map_eq_some_iff] at hv
      obtain ⟨v, h1, vs', h2, rfl⟩ := hv
      obtain ⟨i1, i2⟩ := ih h.2 h2
      refine ⟨by simp [i1], ?_⟩
      intro i u c hu hc
      cases i with
      | zero => simp at hu hc; subst hu hc; exact arg_ok h.1 he h1
      | succ i => exact i2 i u c (by simpa using hu) (by simpa using hc)
theorem ev1_some {x : Arg} {f : AVal → Option Out} {out : Out} (h : ev1 e x f = some out) : ∃ v, evA e x = some v ∧ f v = some out := by
  unfold ev1 at h
  split at h
  · exact ⟨_, by assumption, h⟩
  · cases h
theorem ev2_some {x y : Arg} {f : AVal → AVal → Option Out} {out : Out} (h : ev2 e x y f = some out) :
    ∃ v u, evA e x = some v ∧ evA e y = some u ∧ f v u = some out := by
  obtain ⟨v, h1, h2⟩ := ev1_some h
  obtain ⟨u, h3, h4⟩ := ev1_some h2
  exact ⟨v, u, h1, h3, h4⟩
theorem ev3_some {x y z : Arg} {f : AVal → AVal → AVal → Option Out} {out : Out} (h : ev3 e x y z f = some out) :
    ∃ v u t, evA e x = some v ∧ evA e y = some u ∧ evA e z = some t ∧ f v u t = some out := by
  obtain ⟨v, h1, h2⟩ := ev1_some h
  obtain ⟨u, h3, h4⟩ := ev1_some h2
  obtain ⟨t, h5, h6⟩ := ev1_some h4
  exact ⟨v, u, t, h1, h3, h5, h6⟩
theorem evs_some {xs : List Arg} {f : List AVal → Option Out} {out : Out} (h : evs e xs f = some out) : ∃ vs, evAs e xs = some vs ∧ f vs = some out := by
  unfold evs at h
  split at h
  · exact ⟨_, by assumption, h⟩
  · cases h
theorem intOf_spec {v : AVal} {n : Int} (h : intOf? v = some n) : ∃ k, v = .p (.int k n) := by
  unfold intOf? at h
  split at h
  · cases h; exact ⟨_, rfl⟩
  · cases h
theorem evB_some {o : Option Operand} {x : Option Arg} (hx : argOIs o x = true) (he : ER C G e a.tmps) {f : Option Int → Option Out} {out : Out} (h : evB e x f = some out) :
    ∃ n, BndR n (o.map a.eval) ∧ f n = some out := by
  unfold evB at h
  split at h
  · cases o with
    | none => exact ⟨none, .inl ⟨rfl, rfl⟩, h⟩
    | some o => simp [argOIs] at hx
  · cases o with
    | none => simp [argOIs] at hx
    | some o =>
      simp only [argOIs] at hx
      split at h
      · rename_i v hv
        split at h
        · rename_i n hn
          obtain ⟨k, rfl⟩ := intOf_spec hn
          have := (arg_ok hx he hv).out
          cases hc : a.eval o <;> rw [hc] at this <;> cases this
          exact ⟨_, .inr ⟨k, _, rfl, by simp [hc]⟩, h⟩
        · cases h
      · cases h
theorem parts_ok (he : ER C G e a.tmps) {t : TypeId} : ∀ {os : List (Nat × Operand)} {xs : List (Nat × Nat × Arg)}, partsIs P t os xs = true → ∀ {vs : List AVal}, evAs e (xs.map (·.2.2)) = some vs →
    (os.map fun (i, x) => (i, a.eval x)).length = ((xs.zip vs).map fun x => (x.1.1, x.1.2.1, x.2)).length ∧
    ∀ (k i : Nat) (c : Value) (off n : Nat) (v : AVal), (os.map fun (i, x) => (i, a.eval x))[k]? = some (i, c) → ((xs.zip vs).map fun x => (x.1.1, x.1.2.1, x.2))[k]? = some (off, n, v) →
      partOK P t i off n = true ∧ VR G v c := by
  intro os
  induction os with
  | nil =>
    intro xs h vs hv
    cases xs with
    | nil => simp
    | cons => simp [partsIs] at h
  | cons o os ih =>
    intro xs h vs hv
    cases xs with
    | nil => simp [partsIs] at h
    | cons x xs =>
      obtain ⟨i0, o⟩ := o
      obtain ⟨off0, n0, x⟩ := x
      simp only [partsIs, Bool.and_eq_true] at h
      simp only [List.map_cons, evAs, Option.bind_eq_some_iff, Option.map_eq_some_iff] at hv
      obtain ⟨v, h1, vs', h2, rfl⟩ := hv
      obtain ⟨i1, i2⟩ := ih h.2 h2
      refine ⟨by simpa using i1, ?_⟩
      intro k i c off n u hc hu
      cases k with
      | zero =>
        simp at hu hc
        obtain ⟨rfl, rfl⟩ := hc
        obtain ⟨rfl, rfl, rfl⟩ := hu
        exact ⟨h.1.1, arg_ok h.1.2 he h1⟩
      | succ k => exact i2 k i c off n u (by simpa using hc) (by simpa using hu)
theorem rows_ok (he : ER C G e a.tmps) : ∀ {os : List (Nat × Operand)} {xs : List (Nat × Arg)}, rowsIs os xs = true → ∀ {vs : List AVal}, evAs e (xs.map (·.2)) = some vs →
    (os.map fun (i, x) => (i, a.eval x)).length = ((xs.zip vs).map fun x => (x.1.1, x.2)).length ∧
    ∀ (k i i' : Nat) (c : Value) (v : AVal), (os.map fun (i, x) => (i, a.eval x))[k]? = some (i, c) → ((xs.zip vs).map fun x => (x.1.1, x.2))[k]? = some (i', v) →
      i = i' ∧ VR G v c := by
  intro os
  induction os with
  | nil =>
    intro xs h vs hv
    cases xs with
    | nil => simp
    | cons => simp [rowsIs] at h
  | cons o os ih =>
    intro xs h vs hv
    cases xs with
    | nil => simp [rowsIs] at h
    | cons x xs =>
      obtain ⟨i0, o⟩ := o
      obtain ⟨i1', x⟩ := x
      simp only [rowsIs, Bool.and_eq_true, beq_iff_eq] at h
      simp only [List.map_cons, evAs, Option.bind_eq_some_iff, Option.map_eq_some_iff] at hv
      obtain ⟨v, h1, vs', h2, rfl⟩ := hv
      obtain ⟨i1, i2⟩ := ih h.2 h2
      refine ⟨by simpa using i1, ?_⟩
      intro k i i' c u hc hu
      cases k with
      | zero =>
        simp at hu hc
        obtain ⟨rfl, rfl⟩ := hc
        obtain ⟨rfl, rfl⟩ := hu
        exact ⟨h.1.1, arg_ok h.1.2 he h1⟩
      | succ k => exact i2 k i i' c u (by simpa using hc) (by simpa using hu)
/-- What an operation comes to: a value, or nothing. -/
def OpOK (C : Ctx) (G : Gh) (w : World) (r : Result Next) (out : Out) : Prop :=
  ∃ n c w' G', r = .ok n w' ∧ (n = .value c ∨ n = .skip ∧ c = undef) ∧ VR G' out.1 c ∧ Step C G w w' out.2.1 out.2.2.fn G'
theorem OpOK.v {s : Sem Value} {out : Out} (h : OutOK C G w (s.run P w) out) : OpOK C G w ((do pure (.value (← s)) : Sem Next).run P w) out := by
  obtain ⟨c, w', G', h1, h2, h3⟩ := h
  exact ⟨.value c, c, w', G', by simp [h1], .inl rfl, h2, h3⟩
theorem OpOK.u {s : Sem Unit} {out : Out} (hu : out.1 = .p (.tup [])) (h : OutOKU C G w (s.run P w) out) : OpOK C G w ((do s; pure .skip : Sem Next).run P w) out := by
  obtain ⟨w', G', h1, h2⟩ := h
  refine ⟨.skip, undef, w', G', by simp [h1], .inr ⟨rfl, rfl⟩, ?_, h2⟩
  rw [hu]
  exact .p (.tup [] #[] rfl (by simp))
theorem OpOK.pure {n : AVal} {c : Value} (hm : MR G w m) (hg : Good C G w) (h : VR G n c) : OpOK C G w (.ok (.value c) w) (n, m, .no) :=
  ⟨.value c, c, w, G, rfl, .inl rfl, h, Step.refl hm hg⟩
theorem run_builtin (b : Builtin) (argTypes : Array TypeId) (args : Array Operand) (ty : TypeId) :
    ∃ k, (do let d ← resolve a.eval ⟨.builtin b, args, argTypes⟩ ty; invoke d.target d.args : Sem Next).run P w =
      (builtin b argTypes ty k (args.map a.eval)).run P w :=
  ⟨_, by simp [resolve, invoke]; rfl⟩
theorem eq_of_toList {α : Type} {a : Array α} {l : List α} (h : a.toList = l) : a = l.toArray := by rw [← h]
theorem minmax_ok (mx : Bool) (hm : MR G w m) (hg : Good C G w) (he : ER C G e a.tmps) {args : Array Operand} {xs : List Arg} (hx : argsIs args.toList xs = true) {out : Out} (h : evs e xs (oMinmax mx m) = some out) :
    OutOK C G w ((match (args.map a.eval).toList with | [] => stuck "" | x :: rest => rest.foldlM (if mx = true then Builtin.max2 else Builtin.min2) x : Sem Value).run P w) out := by
  obtain ⟨vs, h1, h2⟩ := evs_some h
  obtain ⟨h3, h4⟩ := args_ok he hx h1
  simp only [Array.toList_map]
  unfold oMinmax at h2
  split at h2
  · rename_i k n r
    cases hl : args.toList.map a.eval with
    | nil => rw [hl] at h3; simp at h3
    | cons c cs =>
      rw [hl] at h3 h4
      simp only [Option.map_eq_some_iff] at h2
      obtain ⟨q, hq, rfl⟩ := h2
      have h0 := (h4 0 (.p (.int k n)) c (by simp) (by simp)).out
      cases h0
      simp only
      rw [mm_run mx k n r cs (by simpa using h3) (fun i v c a b => h4 (i + 1) v c (by simpa using a) (by simpa using b)) q hq]
      exact OutOK.pure hm hg (.p (.int _ _))
  · cases h2
theorem under_spec {t : TypeId} {f : TypeDesc → Bool} (h : under P t f = true) : ∃ d, P.underlying t = some d ∧ f d = true := by
  unfold under at h
  split at h
  · exact ⟨_, by assumption, h⟩
  · cases h
theorem call_ok {c : Call} {r : ROp} {ty : TypeId} {d : Nat} (ho : callIs P c r = true) (hm : MR G w m) (hg : Good C G w) (he : ER C G e a.tmps) {out : Out} (h : aOp r d e m = some out) :
    OpOK C G w ((do let d ← resolve a.eval c ty; invoke d.target d.args : Sem Next).run P w) out := by
  obtain ⟨callee, args, argTypes⟩ := c
  unfold callIs at ho
  simp only at ho
  split at ho
  · obtain ⟨kk, hkk⟩ := run_builtin (P := P) (w := w) (a := a) _ argTypes args ty
    rw [hkk]
    split at ho
    · rename_i k x t o hat ha
      simp only [Bool.and_eq_true] at ho
      obtain rfl := eq_of_toList hat
      obtain rfl := eq_of_toList ha
      obtain ⟨dd, hd1, hd2⟩ := under_spec ho.1
      obtain ⟨v, hv, h⟩ := ev1_some h
      simp only [List.map_toArray, List.map_cons, List.map_nil]
      exact OpOK.v (oLen_ok hd1 hd2 hm hg (arg_ok ho.2 he hv) h)
    · cases ho
  · obtain ⟨kk, hkk⟩ := run_builtin (P := P) (w := w) (a := a) _ argTypes args ty
    rw [hkk]
    split at ho
    · rename_i hat ha
      obtain rfl := eq_of_toList hat
      obtain rfl := eq_of_toList ha
      split at ho
      · rename_i el hel
        simp only [Bool.and_eq_true, beq_iff_eq] at ho
        obtain ⟨⟨⟨⟨⟨⟨rfl, h1⟩, h2⟩, h3⟩, h4⟩, h5⟩, h6⟩ := ho
        obtain ⟨v, u, hv, hu, h⟩ := ev2_some h
        simp only [List.map_toArray, List.map_cons, List.map_nil]
        exact OpOK.v (oAppend_ok (sliceOf_spec hel) h1 h3 h4 h2 hm hg d (arg_ok h5 he hv) (arg_ok h6 he hu) h)
      · cases ho
    · cases ho
  · obtain ⟨kk, hkk⟩ := run_builtin (P := P) (w := w) (a := a) _ argTypes args ty
    rw [hkk]
    split at ho
    · rename_i hat ha
      obtain rfl := eq_of_toList hat
      obtain rfl := eq_of_toList ha
      split at ho
      · rename_i el hel
        simp only [Bool.and_eq_true, beq_iff_eq] at ho
        obtain ⟨⟨⟨⟨⟨⟨rfl, h1⟩, h2⟩, h3⟩, h4⟩, h5⟩, h6⟩ := ho
        obtain ⟨v, u, hv, hu, h⟩ := ev2_some h
        simp only [List.map_toArray, List.map_cons, List.map_nil]
        have h' : oFrzR d (oAppend d _ _ m v u) = some out := h
        cases ha2 : oAppend d _ _ m v u with
        | none => rw [ha2] at h'; cases h'
        | some o =>
          rw [ha2] at h'
          exact OpOK.v (oFrzR_ok (oAppend_ok (sliceOf_spec hel) h1 h3 h4 h2 hm hg d (arg_ok h5 he hv) (arg_ok h6 he hu) ha2) h')
      · cases ho
    · cases ho
  · obtain ⟨kk, hkk⟩ := run_builtin (P := P) (w := w) (a := a) _ argTypes args ty
    rw [hkk]
    split at ho
    · rename_i hat ha
      obtain rfl := eq_of_toList hat
      obtain rfl := eq_of_toList ha
      split at ho
      · rename_i el hel
        simp only [Bool.and_eq_true, beq_iff_eq] at ho
        obtain ⟨⟨⟨rfl, h1⟩, h5⟩, h6⟩ := ho
        obtain ⟨v, u, hv, hu, h⟩ := ev2_some h
        simp only [List.map_toArray, List.map_cons, List.map_nil]
        exact OpOK.v (oAppin_ok (sliceOf_spec hel) h1 hm hg (arg_ok h5 he hv) (arg_ok h6 he hu) h)
      · cases ho
    · cases ho
  · obtain ⟨kk, hkk⟩ := run_builtin (P := P) (w := w) (a := a) _ argTypes args ty
    rw [hkk]
    split at ho
    · rename_i hat ha
      obtain rfl := eq_of_toList hat
      obtain rfl := eq_of_toList ha
      split at ho
      · rename_i el hel
        simp only [Bool.and_eq_true, beq_iff_eq] at ho
        obtain ⟨⟨⟨⟨⟨h0, h1⟩, h2⟩, h3⟩, h5⟩, h6⟩ := ho
        obtain ⟨dd, hd1, hd2⟩ := under_spec h0
        obtain ⟨v, u, hv, hu, h⟩ := ev2_some h
        simp only [List.map_toArray, List.map_cons, List.map_nil]
        split at hd2
        · exact OpOK.v (oAppz_ok (sliceOf_spec hel) hd1 h1 h3 h2 hm hg d (arg_ok h5 he hv) (arg_ok h6 he hu) h)
        · cases hd2
      · cases ho
    · cases ho
  · obtain ⟨kk, hkk⟩ := run_builtin (P := P) (w := w) (a := a) _ argTypes args ty
    rw [hkk]
    split at ho
    · rename_i t0 x0 hat ha
      obtain rfl := eq_of_toList hat
      obtain rfl := eq_of_toList ha
      simp only [Bool.and_eq_true] at ho
      obtain ⟨el, hel⟩ := Option.isSome_iff_exists.1 ho.1
      obtain ⟨v, hv, h⟩ := ev1_some h
      simp only [List.map_toArray, List.map_cons, List.map_nil]
      have hx := arg_ok ho.2 he hv
      unfold oCap at h
      split at h
      · cases h
        have hp := hx.out
        generalize hcc : a.eval _ = cc at hp
        cases hp
        refine OpOK.v ?_
        have : (Builtin.cap_ #[t0] ty #[.slice none 0 0]).run P w = .ok (.int .i64 0) w := by
          simp [Builtin.cap_, run_underlying (sliceOf_spec hel), goInt]
        rw [this]
        exact OutOK.pure hm hg (.p (.int _ _))
      · cases h
    · cases ho
  · obtain ⟨kk, hkk⟩ := run_builtin (P := P) (w := w) (a := a) _ argTypes args ty
    rw [hkk]
    split at ho
    · rename_i hat ha
      obtain rfl := eq_of_toList hat
      obtain rfl := eq_of_toList ha
      split at ho
      · rename_i el hel
        simp only [Bool.and_eq_true, beq_iff_eq] at ho
        obtain ⟨⟨h1, h2⟩, h3⟩ := ho
        obtain ⟨v, u, hv, hu, h⟩ := ev2_some h
        simp only [List.map_toArray, List.map_cons, List.map_nil]
        exact OpOK.v (oCopy_ok (sliceOf_spec hel) h1 hm hg (arg_ok h2 he hv) (arg_ok h3 he hu) h)
      · cases ho
    · cases ho
  · obtain ⟨kk, hkk⟩ := run_builtin (P := P) (w := w) (a := a) _ argTypes args ty
    rw [hkk]
    split at ho
    · rename_i hat ha
      obtain rfl := eq_of_toList hat
      obtain rfl := eq_of_toList ha
      split at ho
      · rename_i el hel
        simp only [Bool.and_eq_true] at ho
        obtain ⟨h1, h2⟩ := ho
        obtain ⟨v, hv, h⟩ := ev1_some h
        simp only [List.map_toArray, List.map_cons, List.map_nil]
        exact OpOK.v (oClear_ok (sliceOf_spec hel) h1 hm hg (arg_ok h2 he hv) h)
      · cases ho
    · cases ho
  · obtain ⟨kk, hkk⟩ := run_builtin (P := P) (w := w) (a := a) _ argTypes args ty
    rw [hkk]
    refine OpOK.v ?_
    have := minmax_ok (P := P) true hm hg he ho h
    unfold Builtin.max_
    cases hl : (args.map a.eval).toList with
    | nil =>
      rw [hl] at this
      obtain ⟨c, w', G', h1, _⟩ := this
      simp [stuck] at h1
    | cons x xs => rw [hl] at this; exact this
  · obtain ⟨kk, hkk⟩ := run_builtin (P := P) (w := w) (a := a) _ argTypes args ty
    rw [hkk]
    refine OpOK.v ?_
    have := minmax_ok (P := P) false hm hg he ho h
    unfold Builtin.min_
    cases hl : (args.map a.eval).toList with
    | nil =>
      rw [hl] at this
      obtain ⟨c, w', G', h1, _⟩ := this
      simp [stuck] at h1
    | cons x xs => rw [hl] at this; exact this
  · cases ho
theorem oStore_out {n : Nat} {x v : AVal} {out : Out} (h : oStore n m x v = some out) : out.1 = .p (.tup []) := by
  unfold oStore at h
  split at h
  · split at h
    · split at h
      · split at h
        · cases h; rfl
        · simp only [Option.map_eq_some_iff] at h
          obtain ⟨_, _, rfl⟩ := h; rfl
      · cases h
    · cases h
  · cases h
theorem oMapset_out {ls : List Leaf} {x k v : AVal} {out : Out} (h : oMapset ls m x k v = some out) : out.1 = .p (.tup []) := by
  unfold oMapset at h
  split at h
  · split at h
    · simp only [Option.map_eq_some_iff] at h
      obtain ⟨_, _, rfl⟩ := h; rfl
    · cases h
  · cases h
/-- EACH RESOLVED OPERATION IS SOUND. -/
theorem aOp_ok {o : Oper} {r : ROp} {d : Nat} (ho : opIs P o.op r = true) (hm : MR G w m) (hg : Good C G w) (he : ER C G e a.tmps) {out : Out} (h : aOp r d e m = some out) :
    OpOK C G w ((execOp a.eval o).run P w) out := by
  obtain ⟨dst, op, type, pos, after, guard⟩ := o
  simp only at ho
  unfold opIs at ho
  split at ho
  · obtain ⟨v, hv, h⟩ := ev1_some h
    cases h
    exact OpOK.pure hm hg (arg_ok ho he hv)
  · obtain ⟨v, hv, h⟩ := ev1_some h
    cases h
    exact OpOK.pure hm hg (arg_ok ho he hv)
  · cases h
    exact OpOK.v (alloc_ok ho hm hg d)
  · obtain ⟨v, hv, h⟩ := ev1_some h
    exact OpOK.v (box_ok hm hg d (arg_ok ho he hv) h)
  · simp only [Bool.and_eq_true, beq_iff_eq] at ho
    obtain ⟨v, hv, h⟩ := ev1_some h
    exact OpOK.v (oLoad_ok ho.1.2 ho.1.1 hm hg (arg_ok ho.2 he hv) h)
  · simp only [Bool.and_eq_true, beq_iff_eq] at ho
    obtain ⟨v, u, hv, hu, h⟩ := ev2_some h
    exact OpOK.u (oStore_out h) (oStore_ok ho.1.1 hm hg (arg_ok ho.1.2 he hv) (arg_ok ho.2 he hu) h)
  · split at ho
    · rename_i fd hfd
      obtain ⟨fs, hf1, hf2⟩ := fieldOf_spec hfd
      simp only [Bool.and_eq_true, beq_iff_eq] at ho
      obtain ⟨⟨ho1, ho2⟩, ho3⟩ := ho
      split at ho2
      · rename_i k hk
        obtain ⟨v, hv, h⟩ := ev1_some h
        exact OpOK.v (oFaddr_ok hf1 hf2 ho1 hk (by simpa using ho2) hm hg (arg_ok ho3 he hv) h)
      · cases ho2
    · cases ho
  · split at ho
    · rename_i el hel
      simp only [Bool.and_eq_true, beq_iff_eq] at ho
      obtain ⟨v, u, hv, hu, h⟩ := ev2_some h
      exact OpOK.v (oIaddr_ok (sliceOf_spec hel) ho.1.1 hm hg (arg_ok ho.1.2 he hv) (arg_ok ho.2 he hu) h)
    · cases ho
  · split at ho
    · rename_i n el hel
      simp only [Bool.and_eq_true, beq_iff_eq] at ho
      obtain ⟨⟨⟨rfl, ho1⟩, ho2⟩, ho3⟩ := ho
      obtain ⟨v, u, hv, hu, h⟩ := ev2_some h
      exact OpOK.v (oIaddrA_ok (arrayOf_spec hel) ho1 hm hg (arg_ok ho2 he hv) (arg_ok ho3 he hu) h)
    · cases ho
  · split at ho
    · rename_i fd hfd
      obtain ⟨fs, hf1, hf2⟩ := fieldOf_spec hfd
      simp only [Bool.and_eq_true, beq_iff_eq] at ho
      obtain ⟨⟨⟨ho1, ho2⟩, ho3⟩, ho4⟩ := ho
      obtain ⟨v, hv, h⟩ := ev1_some h
      exact OpOK.v (oField_ok hf1 hf2 ho1 ho2 ho3 hm hg (arg_ok ho4 he hv) h)
    · cases ho
  · split at ho
    · rename_i n el hel
      simp only [Bool.and_eq_true, beq_iff_eq] at ho
      obtain ⟨⟨⟨⟨rfl, ho1⟩, ho2⟩, ho3⟩, ho4⟩ := ho
      obtain ⟨v, u, hv, hu, h⟩ := ev2_some h
      exact OpOK.v (oAindex_ok (arrayOf_spec hel) ho1 ho2 hm hg (arg_ok ho3 he hv) (arg_ok ho4 he hu) h)
    · cases ho
  · simp only [Bool.and_eq_true] at ho
    obtain ⟨dd, hd1, hd2⟩ := under_spec ho.1.1
    split at hd2
    · obtain ⟨v, u, hv, hu, h⟩ := ev2_some h
      exact OpOK.v (oSindex_ok hd1 hm hg (arg_ok ho.1.2 he hv) (arg_ok ho.2 he hu) h)
    · cases hd2
  · simp only [Bool.and_eq_true, beq_iff_eq] at ho
    obtain ⟨⟨rfl, ho1⟩, ho2⟩ := ho
    obtain ⟨v, u, hv, hu, h⟩ := ev2_some h
    simp only [Option.map_eq_some_iff] at h
    obtain ⟨x, hx, rfl⟩ := h
    exact OpOK.v (binVal_ok hm hg (arg_ok ho1 he hv) (arg_ok ho2 he hu) hx)
  · rename_i neg a' b'
    simp only [Bool.and_eq_true, beq_iff_eq] at ho
    obtain ⟨⟨⟨rfl, ho0⟩, ho1⟩, ho2⟩ := ho
    obtain ⟨v, u, hv, hu, h⟩ := ev2_some h
    simp only [Option.map_eq_some_iff] at h
    obtain ⟨x, hx, rfl⟩ := h
    exact OpOK.v (oEq_ok ho0 hm hg (arg_ok ho1 he hv) (arg_ok ho2 he hu) hx)
  · simp only [Bool.and_eq_true, beq_iff_eq] at ho
    obtain ⟨rfl, ho1⟩ := ho
    obtain ⟨v, hv, h⟩ := ev1_some h
    exact OpOK.v (oUn_ok hm hg (arg_ok ho1 he hv) h)
  · simp only [Bool.and_eq_true] at ho
    obtain ⟨⟨ho1, ho2⟩, ho3⟩ := ho
    obtain ⟨vs, hv, h⟩ := evs_some h
    obtain ⟨p1, p2⟩ := parts_ok he ho3 hv
    have := OpOK.v (oBuild_ok ho1 ho2 hm hg p1 p2 h)
    simp only [← Array.toList_map, Array.toArray_toList] at this
    exact this
  · split at ho
    · rename_i el hel
      simp only [Bool.and_eq_true, beq_iff_eq, decide_eq_true_eq] at ho
      obtain ⟨⟨⟨⟨rfl, ho1⟩, ho2⟩, ho3⟩, ho4⟩ := ho
      obtain ⟨vs, hv, h⟩ := evs_some h
      obtain ⟨p1, p2⟩ := rows_ok he ho4 hv
      have := OpOK.v (oBslice_ok (sliceOf_spec hel) ho1 ho2 ho3 hm hg d p1 p2 h)
      simp only [← Array.toList_map, Array.toArray_toList] at this
      exact this
    · cases ho
  · split at ho
    · rename_i el hel
      simp only [Bool.and_eq_true, beq_iff_eq, decide_eq_true_eq] at ho
      obtain ⟨⟨⟨⟨rfl, ho1⟩, ho2⟩, ho3⟩, ho4⟩ := ho
      obtain ⟨vs, hv, h⟩ := evs_some h
      obtain ⟨p1, p2⟩ := rows_ok he ho4 hv
      have := OpOK.v (oFslice_ok (sliceOf_spec hel) ho1 ho2 ho3 hm hg p1 p2 h)
      simp only [← Array.toList_map, Array.toArray_toList] at this
      exact this
    · cases ho
  · split at ho
    · rename_i el hel
      simp only [Bool.and_eq_true, beq_iff_eq] at ho
      obtain ⟨⟨⟨⟨ho0, ho1⟩, ho2⟩, ho3⟩, ho4⟩ := ho
      obtain ⟨v, u, hv, hu, h⟩ := ev2_some h
      exact OpOK.v (oMkslice_ok (sliceOf_spec hel) ho0 ho1 ho2 hm hg d (arg_ok ho3 he hv) (arg_ok ho4 he hu) h)
    · cases ho
  · cases h
    exact OpOK.v (mkmap_ok hm hg d)
  · split at ho
    · rename_i k el hel
      simp only [Bool.and_eq_true, beq_iff_eq] at ho
      obtain ⟨⟨⟨rfl, ho1⟩, ho2⟩, ho3⟩ := ho
      obtain ⟨v, u, hv, hu, h⟩ := ev2_some h
      exact OpOK.v (oLookup_ok hel ho1 hm hg (arg_ok ho2 he hv) (arg_ok ho3 he hu) h)
    · cases ho
  · simp only [Bool.and_eq_true] at ho
    obtain ⟨⟨⟨ho0, ho1⟩, ho2⟩, ho3⟩ := ho
    obtain ⟨⟨k, el⟩, hel⟩ := Option.isSome_iff_exists.1 ho0
    obtain ⟨v, u, t, hv, hu, ht, h⟩ := ev3_some h
    exact OpOK.u (oMapset_out h) (oMapset_ok hel hm hg (arg_ok ho1 he hv) (arg_ok ho2 he hu) (arg_ok ho3 he ht) h)
  · simp only [Bool.and_eq_true] at ho
    obtain ⟨⟨⟨ho0, ho1⟩, ho2⟩, ho3⟩ := ho
    obtain ⟨⟨k, el⟩, hel⟩ := Option.isSome_iff_exists.1 ho0
    obtain ⟨v, u, t, hv, hu, ht, h⟩ := ev3_some h
    exact OpOK.u (oMapset_out h) (oMapset_ok hel hm hg (arg_ok ho1 he hv) (arg_ok ho2 he hu) (arg_ok ho3 he ht) h)
  · simp only [Bool.and_eq_true, beq_iff_eq] at ho
    obtain ⟨rfl, ho1⟩ := ho
    obtain ⟨v, hv, h⟩ := ev1_some h
    exact OpOK.v (oExtract_ok hm hg (arg_ok ho1 he hv) h)
  · split at ho
    · rename_i el hel
      simp only [Bool.and_eq_true, beq_iff_eq] at ho
      obtain ⟨⟨⟨ho0, ho1⟩, ho2⟩, ho3⟩ := ho
      obtain ⟨v, hv, h⟩ := ev1_some h
      obtain ⟨n1, b1, h⟩ := evB_some ho2 he h
      obtain ⟨n2, b2, h⟩ := evB_some ho3 he h
      exact OpOK.v (oSlice_ok (sliceOf_spec hel) ho0 hm hg (arg_ok ho1 he hv) b1 b2 h)
    · cases ho
  · simp only [Bool.and_eq_true] at ho
    obtain ⟨⟨⟨ho0, ho1⟩, ho2⟩, ho3⟩ := ho
    obtain ⟨dd, hd1, hd2⟩ := under_spec ho0
    split at hd2
    · obtain ⟨v, hv, h⟩ := ev1_some h
      obtain ⟨n1, b1, h⟩ := evB_some ho2 he h
      obtain ⟨n2, b2, h⟩ := evB_some ho3 he h
      exact OpOK.v (oSsl_ok hd1 hm hg (arg_ok ho1 he hv) b1 b2 h)
    · cases hd2
  · rename_i f first caps f' cs
    simp only [Bool.and_eq_true, beq_iff_eq] at ho
    obtain ⟨⟨rfl, ho1⟩, ho2⟩ := ho
    obtain ⟨us, hu, h⟩ := evs_some h
    obtain ⟨vs, hv, h⟩ := evs_some h
    split at h
    · rename_i qs hqs
      simp only [Option.map_eq_some_iff] at h
      obtain ⟨ps, hps, rfl⟩ := h
      obtain ⟨p1, p2⟩ := args_ok he ho2 hv
      obtain ⟨q1, q2⟩ := args_ok he ho1 hu
      have := allP_spec hps
      subst this
      have := allP_spec hqs
      subst this
      refine OpOK.v ?_
      simp only [Instr.makeFunc, Sem.run_pure]
      refine OutOK.pure hm hg (.p (.fn _ qs ps _ _ (by simpa using q1) (by simpa using p1) ?_ ?_))
      · intro i p c h1 h2
        exact (q2 i (.p p) c (by simp [h1]) (by simpa using h2)).out
      · intro i p c h1 h2
        exact (p2 i (.p p) c (by simp [h1]) (by simpa using h2)).out
    · cases h
  · simp only [Bool.and_eq_true] at ho
    obtain ⟨⟨ho0, ho1⟩, ho2⟩ := ho
    obtain ⟨v, u, t, hv, hu, ht, h⟩ := ev3_some h
    unfold oPick at h
    rename_i ox oy xc xa xb hh
    split at h
    · rename_i cb
      cases h
      have hc := (arg_ok ho0 he hv).out
      generalize hcc : a.eval _ = cc at hc
      cases hc
      refine ⟨_, if cb = true then a.eval ox else a.eval oy, w, G, by simp only [execOp, hcc, asBool, Sem.run_bind, Sem.run_pure, Result.andThen_ok], .inl rfl, ?_, Step.refl hm hg⟩
      cases cb
      · exact arg_ok ho2 he ht
      · exact arg_ok ho1 he hu
    · cases h
  · simp only [Bool.and_eq_true] at ho
    obtain ⟨⟨ho0, ho1⟩, ho2⟩ := ho
    obtain ⟨ds, hs1, _⟩ := under_spec ho0
    obtain ⟨dd, hd1, hd2⟩ := under_spec ho1
    split at hd2
    · obtain ⟨v, hv, h⟩ := ev1_some h
      exact OpOK.v (oConv_ok hs1 hd1 (by simp [beq_iff_eq.1 hd2]) hm hg (arg_ok ho2 he hv) h)
    · cases hd2
  · simp only [Bool.and_eq_true] at ho
    obtain ⟨⟨ho0, ho1⟩, ho2⟩ := ho
    obtain ⟨ds, hs1, _⟩ := under_spec ho0
    obtain ⟨dd, hd1, hd2⟩ := under_spec ho1
    split at hd2
    · obtain ⟨v, hv, h⟩ := ev1_some h
      exact OpOK.v (oConv_ok (k := none) hs1 hd1 rfl hm hg (arg_ok ho2 he hv) h)
    · cases hd2
  · obtain ⟨v, hv, h⟩ := ev1_some h
    have hx := arg_ok ho he hv
    unfold oNilchk at h
    generalize hcc : a.eval _ = cc at hx
    split at h
    · cases h
      have hx' := hx.out
      cases hx'
      exact ⟨_, _, w, G, by simp only [execOp, hcc, Sem.run_pure], .inl rfl, hx, Step.refl hm hg⟩
    · cases h
      cases hx
      rename_i ad hh
      exact ⟨_, .pointer (some ad), w, G, by simp only [execOp, hcc, Sem.run_pure], .inl rfl, .rpt _ _ _ _ hh, Step.refl hm hg⟩
    · cases h
      have hx' := hx.out
      cases hx'
      exact ⟨_, _, w, G, by simp only [execOp, hcc, Sem.run_pure], .inl rfl, hx, Step.refl hm hg⟩
    · cases h
  · simp only [Bool.and_eq_true] at ho
    obtain ⟨ho0, ho1⟩ := ho
    obtain ⟨ds, hs1, hs2⟩ := under_spec ho0
    split at hs2
    · obtain ⟨v, hv, h⟩ := ev1_some h
      exact OpOK.v (oSrange_ok hs1 hm hg d (arg_ok ho1 he hv) h)
    · cases hs2
  · obtain ⟨v, hv, h⟩ := ev1_some h
    exact OpOK.v (oSnext_ok hm hg (arg_ok ho he hv) h)
  · split at ho
    · rename_i k el hel
      simp only [Bool.and_eq_true] at ho
      obtain ⟨⟨ho0, ho1⟩, ho2⟩ := ho
      obtain ⟨v, u, hv, hu, h⟩ := ev2_some h
      exact OpOK.v (oMentry_ok hel ho0 hm hg (arg_ok ho1 he hv) (arg_ok ho2 he hu) h)
    · cases ho
  · simp only [Bool.and_eq_true] at ho
    obtain ⟨⟨ho0, ho1⟩, ho2⟩ := ho
    obtain ⟨v, u, t, hv, hu, ht, h⟩ := ev3_some h
    refine OpOK.u ?_ (oMestore_ok hm hg (arg_ok ho0 he hv) (arg_ok ho1 he hu) (arg_ok ho2 he ht) h)
    unfold oMestore at h
    split at h
    · split at h
      · split at h
        · cases h; rfl
        · cases h
      · cases h
    · cases h
  · split at ho
    · rename_i el hel
      simp only [Bool.and_eq_true] at ho
      obtain ⟨⟨⟨⟨ho0, ho1⟩, ho2⟩, ho3⟩, ho4⟩ := ho
      obtain ⟨z, hz⟩ := Option.isSome_iff_exists.1 ho0
      obtain ⟨v, u, hv, hu, h⟩ := ev2_some h
      obtain ⟨s, r, hs, hr, h⟩ := ev2_some h
      exact OpOK.v (oSlc3_ok (sliceOf_spec hel) hz hm hg (arg_ok ho1 he hv) (arg_ok ho2 he hu) (arg_ok ho3 he hs) (arg_ok ho4 he hr) h)
    · cases ho
  · cases h
  · cases h
  · cases h
  · exact call_ok ho hm hg he h
  · cases ho
end
end Go.Proofs.Ytnmnijgoggombaa.X
/- The resolved code; when it stands for the program's own. -/
namespace Go.Proofs.Ytnmnijgoggombaa.X
open Go.RowKit
inductive RItem where
  | op (o : ROp)
  | call (f : Nat) (args : List Arg)
  | callv (x : Arg) (args : List Arg)
  /-- a call that borrows; 'l': which arguments -/
  | calli (f : Nat) (args : List Arg) (l : List Nat)
structure RO where
  dst : Option Nat
  it : RItem
  guard : Option (Nat × Bool)
inductive RCode where
  | skip
  | ops (l : List RO)
  | draw (B : List Nat) (l : List RO)
  | seq (a b : RCode)
  | cond (c : Arg) (a b : RCode)
  | block (id : Nat) (b : RCode)
  | loop (live : List Nat) (b : RCode)
  | exit (id : Nat)
  | ret
  | rangeF (x : Arg) (ps live : List Nat) (ra rb : RCode)
  | scope (b : RCode)
  /-- never reached -/
  | dead
  /-- what hands prove -/
  | hand (id : Nat) (b : RCode)
  /-- the slots' memory is told to be read only from here on -/
  | frz (ts : List Nat) (b : RCode)
def calleeIs (P : Program) (f : Nat) : Bool :=
  match P.funcs[f]? with
  | some fn => fn.body.isSome && !(fn.name == "runtime.NumGoroutine")
  | none => false
def itemIs (P : Program) (o : Op) : RItem → Bool
  | .op r => opIs P o r
  | .call f args => match o with
    | .call ⟨.value (.func f'), xs, _⟩ => f == f' && argsIs xs.toList args && calleeIs P f
    | _ => false
  | .callv x args => match o with
    | .call ⟨.value g, xs, _⟩ => argIs g x && argsIs xs.toList args
    | _ => false
  | .calli f args _ => match o with
    | .call ⟨.value (.func f'), xs, _⟩ => f == f' && argsIs xs.toList args && calleeIs P f
    | _ => false
def guardIs (all : Array Oper) : Option (Nat × Bool) → Option (Nat × Bool) → Bool
  | none, none => true
  | some (j, b), some (s, b') => b == b' && ((all[j]?).bind (·.dst)) == some s && Nat.ble s 999999
  | _, _ => false
def dstIs (N : Nat) : Option Nat → Option Nat → Bool
  | none, none => true
  | some d, some d' => d == d' && Nat.ble (d + 1) N && Nat.ble d 999999
  | _, _ => false
def roIs (P : Program) (N : Nat) (all : Array Oper) (o : Oper) (r : RO) : Bool :=
  dstIs N o.dst r.dst && guardIs all o.guard r.guard && itemIs P o.op r.it
def opsAre (P : Program) (N : Nat) (all : Array Oper) : List Oper → List RO → Bool
  | [], [] => true
  | o :: os, r :: rs => roIs P N all o r && opsAre P N all os rs
  | _, _ => false
def opArgs : ROp → List Arg
  | .mv x => [x]
  | .alloc _ => []
  | .box x => [x]
  | .load _ _ x => [x]
  | .store _ x v => [x, v]
  | .faddr _ x => [x]
  | .iaddr _ _ x i => [x, i]
  | .field _ _ _ x => [x]
  | .aindex _ _ _ x i => [x, i]
  | .sindex x i => [x, i]
  | .bin _ x y => [x, y]
  | .eq _ _ x y => [x, y]
  | .un _ x => [x]
  | .build _ parts => parts.map (·.2.2)
  | .bslice _ _ _ parts => parts.map (·.2)
  | .fslice _ _ _ parts => parts.map (·.2)
  | .mkslice _ _ _ l c => [l, c]
  | .mkmap => []
  | .lookup _ _ _ m k => [m, k]
  | .srange x | .snext x | .cap x | .mrg x | .mnx x | .ment x => [x]
  | .mentry _ _ m k => [m, k]
  | .mestore m s v => [m, s, v]
  | .appin _ s x => [s, x]
  | .appendF _ _ _ s x => [s, x]
  | .appz _ _ _ s x => [s, x]
  | .slc3 x lo hi mx => [x, lo, hi, mx]
  | .mapset _ m k v => [m, k, v]
  | .extract _ x => [x]
  | .len _ x => [x]
  | .append _ _ _ s x => [s, x]
  | .copy _ d s => [d, s]
  | .clear _ _ x => [x]
  | .slc _ x lo hi => x :: (lo.toList ++ hi.toList)
  | .ssl x lo hi => x :: (lo.toList ++ hi.toList)
  | .fn _ fst caps => fst ++ caps
  | .pick c a b => [c, a, b]
  | .conv _ x => [x]
  | .nilchk x => [x]
  | .minmax _ xs => xs
def roOp : ROp → Bool
  | .srange _ | .snext _ | .mentry _ _ _ _ | .mestore _ _ _ | .appin _ _ _ | .appendF _ _ _ _ _ | .appz _ _ _ _ _ | .mrg _ | .mnx _ | .ment _ | .alloc _ | .box _ | .store _ _ _ | .bslice _ _ _ _ | .mkslice _ _ _ _ _ | .mkmap | .mapset _ _ _ _ | .append _ _ _ _ _ | .copy _ _ _ | .clear _ _ _ => false
  | _ => true
def argSlots : List Arg → List Nat
  | [] => []
  | .s t :: xs => t :: argSlots xs
  | .c _ :: xs => argSlots xs
def guardSlots : Option (Nat × Bool) → List Nat
  | none => []
  | some (s, _) => [s]
def itemArgs : RItem → List Arg
  | .op o => opArgs o
  | .call _ args => args
  | .callv x args => x :: args
  | .calli _ args _ => args
def edgesOf (o : Oper) : List Nat := o.after.toList.filterMap fun e => if Region.binds .any e = true then some e.on else none
/-- 'j' surely runs before 'i' (a certificate: bits). -/
def bef (B : List Nat) (i j : Nat) : Bool := (B.getD i 0).testBit j
def certAt (B : List Nat) (i : Nat) (es : List Nat) : Bool :=
  (es.all fun e => decide (e < i)) && (List.range i).all fun j => !(bef B i j) || es.contains j || es.any fun e => decide (j < e) && bef B e j
def certFrom (B : List Nat) : Nat → List Oper → Bool
  | _, [] => true
  | i, o :: os => certAt B i (edgesOf o) && certFrom B (i + 1) os
def roSlots (r : RO) : List Nat := argSlots (itemArgs r.it) ++ guardSlots r.guard
def apartRO (j k : RO) : Bool :=
  (match j.dst with | some d => !((roSlots k).contains d) && !(k.dst == some d) | none => true) &&
  (match k.dst with | some d => !((roSlots j).contains d) | none => true)
/-- The slots of operations that are not ordered are apart. -/
def apartAt (B : List Nat) (k : Nat) (r : RO) : Nat → List RO → Bool
  | _, [] => true
  | j, x :: xs => (bef B k j || apartRO x r) && apartAt B k r (j + 1) xs
def apartFrom (B : List Nat) : List RO → Nat → List RO → Bool
  | _, _, [] => true
  | pre, k, r :: rs => apartAt B k r 0 pre && apartFrom B (pre ++ [r]) (k + 1) rs
def drawIs (P : Program) (N : Nat) (ops : Array Oper) (B : List Nat) (l : List RO) : Bool :=
  opsAre P N ops ops.toList l && certFrom B 0 ops.toList && apartFrom B [] 0 l && P.follows .mixedOrders
def codeIs (P : Program) (N : Nat) : Code → RCode → Bool
  | _, .dead => true
  | c, .frz _ b => codeIs P N c b
  | c, .hand _ b => codeIs P N c b
  | .skip, .skip => true
  | .label _, .skip => true
  | .region _ ops false, .ops l => opsAre P N ops ops.toList l
  | .region _ ops true, .draw B l => drawIs P N ops B l
  | .seq a b, .seq ra rb => codeIs P N a ra && codeIs P N b rb
  | .cond c a b, .cond rc ra rb => argIs c rc && codeIs P N a ra && codeIs P N b rb
  | .block i b, .block i' rb => i == i' && codeIs P N b rb
  | .loop b, .loop _ rb => codeIs P N b rb
  | .scope b, .scope rb => codeIs P N b rb
  | .exit i, .exit i' => i == i'
  | .ret, .ret => true
  | .rangeFunc g ps a b, .rangeF x ps' _ ra rb => argIs g x && ps.toList == ps' && ps'.all (fun p => Nat.ble (p + 1) N && Nat.ble p 999999) && codeIs P N a ra && codeIs P N b rb
  | _, _ => false
section
variable {P : Program} {N : Nat} {c : Code}
theorem codeIs_hand {i : Nat} {b : RCode} (h : codeIs P N c (.hand i b) = true) : codeIs P N c b = true := by
  cases c <;> simpa [codeIs] using h
theorem codeIs_frz {ts : List Nat} {b : RCode} (h : codeIs P N c (.frz ts b) = true) : codeIs P N c b = true := by
  cases c <;> simpa [codeIs] using h
theorem codeIs_skip (h : codeIs P N c .skip = true) : c = .skip ∨ ∃ l, c = .label l := by
  cases c <;> simp [codeIs] at h ⊢
theorem codeIs_ops {l : List RO} (h : codeIs P N c (.ops l) = true) : ∃ id ops, c = .region id ops false ∧ opsAre P N ops ops.toList l = true := by
  match c, h with
  | .region id ops b, h => cases b <;> first | exact ⟨_, _, rfl, h⟩ | (simp [codeIs] at h)
  | .skip, h | .seq _ _, h | .cond _ _ _, h | .block _ _, h | .loop _, h | .rangeFunc _ _ _ _, h | .exit _, h | .scope _, h | .label _, h | .goto _, h | .ret, h | .refuse _, h => simp [codeIs] at h
theorem codeIs_draw {B : List Nat} {l : List RO} (h : codeIs P N c (.draw B l) = true) : ∃ id ops, c = .region id ops true ∧ drawIs P N ops B l = true := by
  match c, h with
  | .region id ops b, h => cases b <;> first | exact ⟨_, _, rfl, h⟩ | (simp [codeIs] at h)
  | .skip, h | .seq _ _, h | .cond _ _ _, h | .block _ _, h | .loop _, h | .rangeFunc _ _ _ _, h | .exit _, h | .scope _, h | .label _, h | .goto _, h | .ret, h | .refuse _, h => simp [codeIs] at h
theorem codeIs_seq {ra rb : RCode} (h : codeIs P N c (.seq ra rb) = true) : ∃ a b, c = .seq a b ∧ codeIs P N a ra = true ∧ codeIs P N b rb = true := by
  cases c <;> simp [codeIs] at h
  exact ⟨_, _, rfl, h⟩
theorem codeIs_cond {rc : Arg} {ra rb : RCode} (h : codeIs P N c (.cond rc ra rb) = true) :
    ∃ x a b, c = .cond x a b ∧ argIs x rc = true ∧ codeIs P N a ra = true ∧ codeIs P N b rb = true := by
  cases c <;> simp [codeIs] at h
  exact ⟨_, _, _, rfl, h.1.1, h.1.2, h.2⟩
theorem codeIs_block {i : Nat} {rb : RCode} (h : codeIs P N c (.block i rb) = true) : ∃ b, c = .block i b ∧ codeIs P N b rb = true := by
  cases c <;> simp [codeIs] at h
  exact ⟨_, by rw [h.1], h.2⟩
theorem codeIs_loop {l : List Nat} {rb : RCode} (h : codeIs P N c (.loop l rb) = true) : ∃ b, c = .loop b ∧ codeIs P N b rb = true := by
  cases c <;> simp [codeIs] at h
  exact ⟨_, rfl, h⟩
theorem codeIs_scope {rb : RCode} (h : codeIs P N c (.scope rb) = true) : ∃ b, c = .scope b ∧ codeIs P N b rb = true := by
  cases c <;> simp [codeIs] at h
  exact ⟨_, rfl, h⟩
theorem codeIs_exit {i : Nat} (h : codeIs P N c (.exit i) = true) : c = .exit i := by
  cases c <;> simp [codeIs] at h
  rw [h]
theorem codeIs_ret (h : codeIs P N c .ret = true) : c = .ret := by
  cases c <;> simp [codeIs] at h
  rfl
theorem codeIs_rangeF {x : Arg} {ps live : List Nat} {ra rb : RCode} (h : codeIs P N c (.rangeF x ps live ra rb) = true) :
    ∃ g qs a b, c = .rangeFunc g qs a b ∧ argIs g x = true ∧ qs.toList = ps ∧ (∀ p ∈ ps, p < N ∧ p < 1000000) ∧ codeIs P N a ra = true ∧ codeIs P N b rb = true := by
  cases c <;> simp [codeIs] at h
  obtain ⟨⟨⟨⟨h1, h2⟩, h3⟩, h4⟩, h5⟩ := h
  refine ⟨_, _, _, _, rfl, h1, h2, ?_, h4, h5⟩
  intro p hp
  have := h3 p hp
  omega
end
theorem dstIs_spec {N : Nat} {x y : Option Nat} (h : dstIs N x y = true) : x = y ∧ ∀ d, y = some d → d < N ∧ d < 1000000 := by
  cases x <;> cases y <;> simp [dstIs] at h ⊢
  omega
end Go.Proofs.Ytnmnijgoggombaa.X
/- The state of a frame that runs; contexts that begin anew; marks of ranges over functions. -/
namespace Go.Proofs.Ytnmnijgoggombaa.X
open Go.RowKit
abbrev fcF (C : Ctx) : Fence := { Fence.wide with round := C.ro }
theorem callsIn_fc {C : Ctx} {n : Nat} {P : Program} {f : FuncId} {args : Array Value} {w : World} {R : Ending → World → Prop} (h : Calls P f args w R) : CallsIn (fcF C) n P f args w R :=
  (callsIn_wide (n := n)).2 h
/-- A context that begins at this state. -/
def Ctx.re (C : Ctx) (G : Gh) (w : World) : Ctx := { C with w0 := w, F0 := G.F, mine := fun b => ∃ pl L, G.loc pl = some L ∧ L.b = b }
theorem Good.re {C : Ctx} {G : Gh} {w : World} (hg : Good C G w) : Good (C.re G w) G w where
  fz := hg.fz
  fzl := hg.fzl
  fm := hg.fm
  fml := hg.fml
  inj := hg.inj
  bnd := hg.bnd
  size := Nat.le_refl _
  keep := fun _ _ _ => rfl
  own := fun pl L h => .inr ⟨pl, L, h, rfl⟩
  fz0 := fun _ _ _ h => h
  fm0 := fun _ _ h => h
  fzn := fun _ _ _ h => .inl h
  fmn := fun _ _ h => .inl h
  os := rfl
  tape := rfl
  output := rfl
theorem Good.unre {C C' : Ctx} {G G' : Gh} {w w' : World} (hC : C'.w0 = w ∧ C'.F0 = G.F ∧ C'.mine = fun b => ∃ pl L, G.loc pl = some L ∧ L.b = b) (hg : Good C G w) (h : Good C' G' w') : Good C G' w' := by
  obtain ⟨e1, e2, e3⟩ := hC
  have hm : ∀ b, C'.mine b → C.w0.heap.size ≤ b ∨ C.mine b := by
    intro b hb
    rw [e3] at hb
    obtain ⟨pl, L, h1, rfl⟩ := hb
    exact hg.own pl L h1
  have hs : C.w0.heap.size ≤ w.heap.size := hg.size
  refine ⟨h.fz, h.fzl, h.fm, h.fml, h.inj, h.bnd, ?_, ?_, ?_, ?_, ?_, ?_, ?_, ?_, ?_, ?_⟩
  · have := h.size; rw [e1] at this; omega
  · intro b hb hn
    rw [h.keep b (by rw [e1]; omega) (fun hm' => (hm b hm').elim (fun h => by omega) hn), e1]
    exact hg.keep b hb hn
  · intro pl L hL
    rcases h.own pl L hL with h1 | h1
    · rw [e1] at h1; exact .inl (Nat.le_trans hs h1)
    · exact hm _ h1
  · intro b o v hv; exact h.fz0 b o v (by rw [e2]; exact hg.fz0 b o v hv)
  · intro r es hv; exact h.fm0 r es (by rw [e2]; exact hg.fm0 r es hv)
  · intro b o v hv
    rcases h.fzn b o v hv with h1 | h1 | h1
    · rw [e2] at h1; exact hg.fzn b o v h1
    · rw [e1] at h1; exact .inr (.inl (Nat.le_trans hs h1))
    · exact .inr (hm b h1)
  · intro r es hv
    rcases h.fmn r es hv with h1 | h1 | h1
    · rw [e2] at h1; exact hg.fmn r es h1
    · rw [e1] at h1; exact .inr (.inl (Nat.le_trans hs h1))
    · exact .inr (hm r h1)
  · rw [h.os, e1, hg.os]
  · rw [h.tape, e1, hg.tape]
  · rw [h.output, e1, hg.output]
/-- A block that nothing leads to. -/
def Free (G : Gh) (b : Nat) : Prop := (∀ pl L, G.loc pl = some L → L.b ≠ b) ∧ (∀ o, G.F.cell b o = none) ∧ G.F.map b = none
theorem Free.keep {C' : Ctx} {G G' : Gh} {w w' : World} (hC : C'.w0 = w ∧ C'.F0 = G.F ∧ C'.mine = fun b => ∃ pl L, G.loc pl = some L ∧ L.b = b) (h : Good C' G' w') {b : Nat} (hb : b < w.heap.size) (hf : Free G b) :
    w'.heap[b]? = w.heap[b]? ∧ Free G' b := by
  obtain ⟨e1, e2, e3⟩ := hC
  have hn : ¬ C'.mine b := by rw [e3]; rintro ⟨pl, L, h1, h2⟩; exact hf.1 pl L h1 h2
  refine ⟨by rw [h.keep b (by rw [e1]; exact hb) hn, e1], ?_, ?_, ?_⟩
  · intro pl L hL e
    rcases h.own pl L hL with h1 | h1
    · rw [e1] at h1; omega
    · rw [e] at h1; exact hn h1
  · intro o
    cases hc : G'.F.cell b o with
    | none => rfl
    | some v =>
      rcases h.fzn b o v hc with h1 | h1 | h1
      · rw [e2, hf.2.1 o] at h1; cases h1
      · rw [e1] at h1; omega
      · exact (hn h1).elim
  · cases hc : G'.F.map b with
    | none => rfl
    | some v =>
      rcases h.fmn b v hc with h1 | h1 | h1
      · rw [e2, hf.2.2] at h1; cases h1
      · rw [e1] at h1; omega
      · exact (hn h1).elim
/-- What waits for the frame's end: empty blocks of ranges over functions; in a round: nothing, and the loop's record is there. -/
def Marks (C : Ctx) (G : Gh) (w : World) (ds : List Deferred) : Prop :=
  match C.ro with
  | none => ∃ Ds : List Nat, ds = Ds.map (fun D => { target := .collected D, args := #[] }) ∧ Ds.Nodup ∧ ∀ D ∈ Ds, w.heap[D]? = some (.deferred (some [])) ∧ C.w0.heap.size ≤ D ∧ Free G D
  | some l => ds = [] ∧ (∃ r, w.heap[l]? = some (.loop r)) ∧ Free G l
theorem Marks.nil {C : Ctx} {G : Gh} {w : World} (h : C.ro = none) : Marks C G w [] := by
  unfold Marks
  rw [h]
  exact ⟨[], rfl, List.nodup_nil, by simp⟩
theorem Marks.keep {C C' : Ctx} {G G' : Gh} {w w' : World} {ds : List Deferred} (hC : C'.w0 = w ∧ C'.F0 = G.F ∧ C'.mine = fun b => ∃ pl L, G.loc pl = some L ∧ L.b = b) (h : Good C' G' w') (hm : Marks C G w ds) : Marks C G' w' ds := by
  unfold Marks at hm ⊢
  cases hro : C.ro with
  | none =>
    rw [hro] at hm
    obtain ⟨Ds, e, nd, hD⟩ := hm
    refine ⟨Ds, e, nd, fun D hd => ?_⟩
    obtain ⟨h1, h2, h3⟩ := hD D hd
    obtain ⟨k1, k2⟩ := Free.keep hC h (Array.getElem?_eq_some_iff.1 h1).1 h3
    exact ⟨by rw [k1]; exact h1, h2, k2⟩
  | some l =>
    rw [hro] at hm
    obtain ⟨e, ⟨r, h1⟩, h3⟩ := hm
    obtain ⟨k1, k2⟩ := Free.keep hC h (Array.getElem?_eq_some_iff.1 h1).1 h3
    exact ⟨e, ⟨r, by rw [k1]; exact h1⟩, k2⟩
structure Rel (C : Ctx) (G : Gh) (w : World) (N : Nat) (a : Act) (e : Env) (m : Mem) : Prop where
  mr : MR G w m
  good : Good C G w
  er : ER C G e a.tmps
  marks : Marks C G w a.defers
  size : a.tmps.size = N
def Holds (C : Ctx) (N : Nat) (K : Env → Mem → Prop) (a : Act) (w : World) : Prop := ∃ G e m, Rel C G w N a e m ∧ K e m
/-- Where only the abstract state is told otherwise. -/
def Tells (e : Env) (m : Mem) (e' : Env) (m' : Mem) : Prop :=
  ∀ (C : Ctx) G w tmps, MR G w m → Good C G w → ER C G e tmps → ∃ G', MR G' w m' ∧ Good C G' w ∧ ER C G' e' tmps
theorem Tells.refl {e : Env} {m : Mem} : Tells e m e m := fun _ G _ _ h1 h2 h3 => ⟨G, h1, h2, h3⟩
theorem Tells.trans {e e' e'' : Env} {m m' m'' : Mem} (h : Tells e m e' m') (h' : Tells e' m' e'' m'') : Tells e m e'' m'' := by
  intro C G w tmps h1 h2 h3
  obtain ⟨G', g1, g2, g3⟩ := h C G w tmps h1 h2 h3
  exact h' C G' w tmps g1 g2 g3
theorem Rel.tell {C : Ctx} {G : Gh} {w : World} {N : Nat} {a : Act} {e e' : Env} {m m' : Mem} (h : Rel C G w N a e m) (t : Tells e m e' m') : ∃ G', Rel C G' w N a e' m' := by
  obtain ⟨G', g1, g2, g3⟩ := t (C.re G w) G w a.tmps h.mr h.good.re h.er
  exact ⟨G', g1, h.good.unre ⟨rfl, rfl, rfl⟩ g2, g3, h.marks.keep ⟨rfl, rfl, rfl⟩ g2, h.size⟩
theorem Rel.tell' {C : Ctx} {G : Gh} {w : World} {N : Nat} {a : Act} {e e' : Env} {m m' : Mem} (h : Rel C G w N a e m) (t : Tells e m e' m') :
    ∃ G', Rel C G' w N a e' m' ∧ G.F.le G'.F ∧ ∀ b, b < w.heap.size → Free G b → Free G' b := by
  obtain ⟨G', g1, g2, g3⟩ := t (C.re G w) G w a.tmps h.mr h.good.re h.er
  exact ⟨G', ⟨g1, h.good.unre ⟨rfl, rfl, rfl⟩ g2, g3, h.marks.keep ⟨rfl, rfl, rfl⟩ g2, h.size⟩, ⟨g2.fz0, g2.fm0⟩, fun b hb hf => (Free.keep ⟨rfl, rfl, rfl⟩ g2 hb hf).2⟩
theorem ER.put {C : Ctx} {G : Gh} {a : Act} {d : Nat} {e : Env} {v : AVal} {c : Value} (he : ER C G e a.tmps) (hd : d < a.tmps.size) (h6 : d < 1000000) (hv : VR G v c) : ER C G ((d, v) :: e) (a.put (some d) c).tmps := by
  intro t u h
  simp only [lk] at h
  split at h
  · rename_i ht
    cases h
    subst ht
    exact ⟨c, by rw [slotOf_lt h6]; simp [Act.put, hd], hv⟩
  · rename_i ht
    obtain ⟨c', h1, h2⟩ := he t u h
    refine ⟨c', ?_, h2⟩
    unfold slotOf at h1 ⊢
    split
    · rename_i hlt
      rw [if_pos hlt] at h1
      simp only [Act.put]
      rw [Array.getElem?_setIfInBounds_ne (fun q => ht q.symm)]
      exact h1
    · rename_i hlt
      rw [if_neg hlt] at h1
      exact h1
theorem lk_filter {α : Type} {t t' : Nat} : ∀ (l : List (Nat × α)), lk (l.filter fun y => !(y.1 == t')) t = if t = t' then none else lk l t := by
  intro l
  induction l with
  | nil => simp [lk]
  | cons x l ih =>
    by_cases hx : x.1 = t'
    · have : (fun y : Nat × α => !(y.1 == t')) x = false := by simp [hx]
      rw [List.filter_cons_of_neg (by simp [hx]), ih]
      by_cases ht : t = t'
      · simp [ht]
      · simp only [if_neg ht, lk]
        rw [if_neg (by rw [hx]; exact ht)]
    · rw [List.filter_cons_of_pos (by simpa using hx)]
      simp only [lk, ih]
      by_cases ht : t = x.1
      · subst ht; simp [hx]
      · simp [ht]
theorem killBy_spec {f : AVal → Bool} {t : Nat} {v : AVal} : ∀ (e : Env), lk (killBy f e) t = some v → lk e t = some v ∧ f v = false := by
  intro e
  induction e with
  | nil => simp [killBy, lk]
  | cons x e ih =>
    intro h
    simp only [killBy] at h
    split at h
    · rw [lk_filter] at h
      split at h
      · cases h
      · rename_i hne
        simp only [lk, if_neg hne]
        exact ih h
    · rename_i hf
      simp only [lk] at h ⊢
      split at h
      · cases h
        rename_i ht
        exact ⟨by rw [if_pos ht], by simpa using hf⟩
      · rename_i ht
        rw [if_neg ht]
        exact ih h
theorem killEnv_spec {k : Kill} {e : Env} {t : Nat} {v : AVal} (h : lk (killEnv k e) t = some v) : lk e t = some v ∧ v.ment k.fn = false := by
  unfold killEnv at h
  split at h
  · exact ⟨h, AVal.ment_false v⟩
  · exact killBy_spec e h
def upd (d : Option Nat) (out : Out) (e : Env) : Env :=
  match d with
  | none => killEnv out.2.2 e
  | some d => (d, out.1) :: killEnv out.2.2 e
def put (d : Option Nat) (v : AVal) (e : Env) : Env :=
  match d with
  | none => e
  | some d => (d, v) :: e
theorem ER.kill {C : Ctx} {G G' : Gh} {w w' : World} {m' : Mem} {e : Env} {k : Kill} {tmps : Array Value} (he : ER C G e tmps) (hs : Step (C.re G w) G w w' m' k.fn G') : ER C G' (killEnv k e) tmps := by
  intro t v h
  obtain ⟨h1, h2⟩ := killEnv_spec h
  obtain ⟨c, hc, hv⟩ := he t v h1
  exact ⟨c, hc, hs.vr hv h2⟩
/-- What a step leaves of a frame's state. -/
theorem Rel.step {C : Ctx} {G G' : Gh} {w w' : World} {N : Nat} {a : Act} {e : Env} {m m' : Mem} {k : Kill} (hr : Rel C G w N a e m) (hs : Step (C.re G w) G w w' m' k.fn G') : Rel C G' w' N a (killEnv k e) m' :=
  ⟨hs.mr, hr.good.unre ⟨rfl, rfl, rfl⟩ hs.good, hr.er.kill hs, hr.marks.keep ⟨rfl, rfl, rfl⟩ hs.good, hr.size⟩
theorem Rel.put {C : Ctx} {G : Gh} {w : World} {N : Nat} {a : Act} {e : Env} {m : Mem} {d : Option Nat} {v : AVal} {c : Value} {o : Option Nat} (hr : Rel C G w N a e m) (hd : dstIs N o d = true) (hv : VR G v c) :
    Rel C G w N (a.put o c) (X.put d v e) m := by
  obtain ⟨heq, hlt⟩ := dstIs_spec hd
  subst heq
  cases o with
  | none => exact hr
  | some d => exact ⟨hr.mr, hr.good, hr.er.put (by rw [hr.size]; exact (hlt d rfl).1) (hlt d rfl).2 hv, hr.marks, by simp [Act.put, hr.size]⟩
end Go.Proofs.Ytnmnijgoggombaa.X
/- What holds of the resolved code over abstract states: the rules. -/
namespace Go.Proofs.Ytnmnijgoggombaa.X
open Go.RowKit
inductive XE where
  | normal
  | exit (id : Nat)
  | ret
  deriving DecidableEq
abbrev XQ := XE → Env → Mem → Prop
def lift (C : Ctx) (N : Nat) (Q : XQ) : Exit → Act → World → Prop
  | .normal, a, w => Holds C N (Q .normal) a w
  | .exit id, a, w => Holds C N (Q (.exit id)) a w
  | .ret, a, w => Holds C N (Q .ret) a w
  | _, _, _ => False
/-- THE WEAKEST PRECONDITION over abstract states. -/
def xWp (P : Program) (C : Ctx) (N : Nat) (rc : RCode) (Q : XQ) (e : Env) (m : Mem) : Prop :=
  ∀ c, codeIs P N c rc = true → ∀ G w a, Rel C G w N a e m → c.wpIn (fcF C) 0 P (lift C N Q) a w
/-- The same, of what is left of a region. -/
def xOps (P : Program) (C : Ctx) (N : Nat) (l : List RO) (K : Env → Mem → Prop) (e : Env) (m : Mem) : Prop :=
  ∀ all os, opsAre P N all os l = true → ∀ G w a, Rel C G w N a e m → ∀ Q : Exit → Act → World → Prop, (∀ a w, Holds C N K a w → Q .normal a w) → wpListIn (fcF C) 0 P all Q os a w
theorem least {p : Nat → Prop} (h : ∃ n, p n) : ∃ n, p n ∧ ∀ k, p k → n ≤ k := by
  obtain ⟨n, hn⟩ := h
  induction n using Nat.strongRecOn with
  | _ n ih =>
    by_cases hk : ∃ k, k < n ∧ p k
    · obtain ⟨k, h1, h2⟩ := hk; exact ih k h1 h2
    · exact ⟨n, hn, fun k hp => Nat.le_of_not_lt fun hlt => hk ⟨k, hlt, hp⟩⟩
section rules
variable {P : Program} {C : Ctx} {N : Nat} {Q : XQ} {e e' : Env} {m m' : Mem}
theorem xWp_tell {rc : RCode} (t : Tells e m e' m') (h : xWp P C N rc Q e' m') : xWp P C N rc Q e m := by
  intro c hc G w a hr
  obtain ⟨G', hr'⟩ := hr.tell t
  exact h c hc G' w a hr'
theorem xOps_tell {l : List RO} {K : Env → Mem → Prop} (t : Tells e m e' m') (h : xOps P C N l K e' m') : xOps P C N l K e m := by
  intro all os hc G w a hr
  obtain ⟨G', hr'⟩ := hr.tell t
  exact h all os hc G' w a hr'
theorem Holds.mono {K K' : Env → Mem → Prop} {a : Act} {w : World} (hk : ∀ e m, K e m → K' e m) (h : Holds C N K a w) : Holds C N K' a w :=
  let ⟨G, e, m, hr, h⟩ := h; ⟨G, e, m, hr, hk e m h⟩
theorem lift_mono {Q Q' : XQ} (hq : ∀ x e m, Q x e m → Q' x e m) (x : Exit) (a : Act) (w : World) (h : lift C N Q x a w) : lift C N Q' x a w := by
  cases x <;> first | exact Holds.mono (hq _) h | exact h
theorem xWp_mono {rc : RCode} {Q' : XQ} (hq : ∀ x e m, Q x e m → Q' x e m) (h : xWp P C N rc Q e m) : xWp P C N rc Q' e m :=
  fun c hc G w a hr => wpIn_mono (h c hc G w a hr) (lift_mono hq)
theorem xWp_frz {ts : List Nat} {b : RCode} (h : xWp P C N b Q e m) : xWp P C N (.frz ts b) Q e m :=
  fun c hc G w a hr => h c (codeIs_frz hc) G w a hr
theorem xWp_hand {i : Nat} {b : RCode} (h : xWp P C N b Q e m) : xWp P C N (.hand i b) Q e m :=
  fun c hc G w a hr => h c (codeIs_hand hc) G w a hr
theorem xWp_skip (h : Q .normal e m) : xWp P C N .skip Q e m := by
  intro c hc G w a hr
  rcases codeIs_skip hc with rfl | ⟨l, rfl⟩
  · exact wpIn_skip ⟨G, e, m, hr, h⟩
  · exact wpIn_label ⟨G, e, m, hr, h⟩
theorem xWp_exit {i : Nat} (h : Q (.exit i) e m) : xWp P C N (.exit i) Q e m := by
  intro c hc G w a hr
  obtain rfl := codeIs_exit hc
  exact wpIn_exit ⟨G, e, m, hr, h⟩
theorem xWp_ret (h : Q .ret e m) : xWp P C N .ret Q e m := by
  intro c hc G w a hr
  obtain rfl := codeIs_ret hc
  exact wpIn_ret ⟨G, e, m, hr, h⟩
def XQ.then (K : Env → Mem → Prop) (Q : XQ) : XQ
  | .normal, e, m => K e m
  | x, e, m => Q x e m
theorem xWp_seq {x y : RCode} (h : xWp P C N x (XQ.then (xWp P C N y Q) Q) e m) : xWp P C N (.seq x y) Q e m := by
  intro c hc G w a hr
  obtain ⟨ca, cb, rfl, h1, h2⟩ := codeIs_seq hc
  refine wpIn_seq (wpIn_mono (h _ h1 G w a hr) ?_)
  intro ex a w hl
  cases ex with
  | normal => obtain ⟨G, e, m, hr, h⟩ := hl; exact h _ h2 G w a hr
  | _ => exact hl
theorem xWp_cond {x : Arg} {b : Bool} {y z : RCode} (hx : evA e x = some (.p (.bool b))) (h : xWp P C N (if b = true then y else z) Q e m) : xWp P C N (.cond x y z) Q e m := by
  intro c hc G w a hr
  obtain ⟨o, ca, cb, rfl, h0, h1, h2⟩ := codeIs_cond hc
  have hv := (arg_ok h0 hr.er hx).out
  generalize hcc : a.eval _ = cc at hv
  cases hv
  refine wpIn_cond hcc ?_
  cases b
  · exact h _ h2 G w a hr
  · exact h _ h1 G w a hr
def XQ.inBlock (id : Nat) (Q : XQ) : XQ
  | .exit i, e, m => if i = id then Q .normal e m else Q (.exit i) e m
  | x, e, m => Q x e m
theorem xWp_block {id : Nat} {y : RCode} (h : xWp P C N y (XQ.inBlock id Q) e m) : xWp P C N (.block id y) Q e m := by
  intro c hc G w a hr
  obtain ⟨cb, rfl, h1⟩ := codeIs_block hc
  refine wpIn_block (wpIn_mono (h _ h1 G w a hr) ?_)
  intro ex a w hl
  cases ex with
  | exit i =>
    simp only [Exit.inBlock]
    obtain ⟨G, e, m, hr, h⟩ := hl
    simp only [XQ.inBlock] at h
    split
    · rename_i hi; rw [if_pos hi] at h; exact ⟨G, e, m, hr, h⟩
    · rename_i hi; rw [if_neg hi] at h; exact ⟨G, e, m, hr, h⟩
  | _ => exact hl
theorem stepR_scope {b : Frame} {a : Act} {k : List Item} {cs : List Frame} {w : World} {c : Code} : step P (lone (b.atR a (.code (.scope c) :: k)) cs w) = .next (lone (b.atR a (.code c :: .inScope c :: k)) cs w) :=
  step_lone_go (by simp [stepG, stepG.exec, Frame.atR])
theorem stepR_inScope {b : Frame} {a : Act} {k : List Item} {cs : List Frame} {w : World} {c : Code} : step P (lone (b.atR a (.inScope c :: k)) cs w) = .next (lone (b.atR a k) cs w) :=
  step_lone_go (by simp [stepG, stepG.exec, Frame.atR])
theorem wpIn_scope {F : Fence} {n : Nat} {c : Code} {Q : Exit → Act → World → Prop} {a : Act} {w : World} (h : c.wpIn F n P (Exit.noGoto Q) a w) : (Code.scope c).wpIn F n P Q a w := by
  intro b k cs hro hb hr
  have h0 : (lone (b.atR a (.code (.scope c) :: k)) cs w).fenced P F := fenced_calm hb hr rfl
  obtain ⟨e, a₁, w₁, hq, harr⟩ := h b (.inScope c :: k) cs hro hb hr
  cases e with
  | normal => exact ⟨.normal, a₁, w₁, hq, .head h0 stepR_scope (StepsIn.trans harr (.one (fenced_calm hb hr rfl) stepR_inScope))⟩
  | exit id =>
    have hx : exitTo id (.inScope c :: k) = exitTo id k := by simp [exitTo]
    exact ⟨.exit id, a₁, w₁, hq, fun k' hk => .head h0 stepR_scope (harr.1 k' (by rw [hx]; exact hk)),
      fun hr' hk => let ⟨k₁, h1, h2⟩ := harr.2 hr' (by rw [hx]; exact hk); ⟨k₁, h1, .head h0 stepR_scope h2⟩⟩
  | goto l => exact hq.elim
  | ret => exact ⟨_, a₁, w₁, hq, .of_steps (.one h0 stepR_scope) harr⟩
  | panic ch => exact ⟨_, a₁, w₁, hq, .of_steps (.one h0 stepR_scope) harr⟩
  | outgrown => exact ⟨_, a₁, w₁, hq, .of_steps (.one h0 stepR_scope) harr⟩
theorem xWp_scope {y : RCode} (h : xWp P C N y Q e m) : xWp P C N (.scope y) Q e m := by
  intro c hc G w a hr
  obtain ⟨cb, rfl, h1⟩ := codeIs_scope hc
  refine wpIn_scope (wpIn_mono (h _ h1 G w a hr) ?_)
  intro ex a w hl
  cases ex <;> exact hl
/-- A LOOP: an invariant and a measure, over a family of states. -/
theorem xWp_loop {S : Type} (E : S → Env) (M : S → Mem) (I : S → Prop) (μ : S → Nat) {live : List Nat} {y : RCode} (s0 : S) (t : Tells e m (E s0) (M s0)) (h0 : I s0)
    (round : ∀ s, I s → xWp P C N y (XQ.then (fun e m => ∃ s', Tells e m (E s') (M s') ∧ I s' ∧ μ s' < μ s) Q) (E s) (M s)) : xWp P C N (.loop live y) Q e m := by
  intro c hc G w a hr
  obtain ⟨b, rfl, hb⟩ := codeIs_loop hc
  let J : Nat → Act → World → Prop := fun n a w => ∃ s, I s ∧ μ s = n ∧ ∃ G, Rel C G w N a (E s) (M s)
  classical
  refine wpIn_loop (fun a w => ∃ n, J n a w) (fun a w => if h : ∃ n, J n a w then Classical.choose (least h) else 0) ?_ ?_
  · obtain ⟨G', hr'⟩ := hr.tell t
    exact ⟨_, s0, h0, rfl, G', hr'⟩
  · intro a w hex
    obtain ⟨s, hI, hμ, G, hr⟩ := (Classical.choose_spec (least hex)).1
    refine wpIn_mono (round s hI b hb G w a hr) ?_
    intro ex a' w' hl
    cases ex with
    | normal =>
      obtain ⟨G', e', m', hr', s', t', hI', hlt⟩ := hl
      obtain ⟨G'', hr''⟩ := hr'.tell t'
      have hex' : ∃ n, J n a' w' := ⟨_, s', hI', rfl, G'', hr''⟩
      refine ⟨hex', ?_⟩
      rw [dif_pos hex, dif_pos hex']
      have := (Classical.choose_spec (least hex')).2 (μ s') ⟨s', hI', rfl, G'', hr''⟩
      omega
    | _ => exact hl
theorem xWp_ops {l : List RO} (h : xOps P C N l (Q .normal) e m) : xWp P C N (.ops l) Q e m := by
  intro c hc G w a hr
  obtain ⟨id, ops, rfl, h1⟩ := codeIs_ops hc
  exact wpIn_region_list (h _ _ h1 G w a hr _ fun a w h => h)
theorem xOps_nil {K : Env → Mem → Prop} (h : K e m) : xOps P C N [] K e m := by
  intro all os hc G w a hr Q hQ
  cases os with
  | nil => exact wpListIn_nil (hQ _ _ ⟨G, e, m, hr, h⟩)
  | cons => simp [opsAre] at hc
/-- What an operation, or a call, comes to. -/
def xItem (P : Program) (C : Ctx) (N : Nat) (d : Option Nat) (it : RItem) (K : Env → Mem → Prop) (e : Env) (m : Mem) : Prop :=
  ∀ o : Oper, dstIs N o.dst d = true → itemIs P o.op it = true → ∀ G w a, Rel C G w N a e m → ∀ (next : Act → World → Prop) (Q : Exit → Act → World → Prop),
    (∀ a w, Holds C N K a w → next a w) → o.wpIn (fcF C) 0 P a w next Q
theorem opIs_plain {o : Op} {r : ROp} (h : opIs P o r = true) : ∀ c, o ≠ .defer c := by
  rintro c rfl
  cases r <;> simp [opIs] at h
theorem wide_fn {C : Ctx} {f : FuncId} : (fcF C).fn f := trivial
theorem xItem_op {d : Option Nat} {r : ROp} {s : Nat} {K : Env → Mem → Prop} {out : Out} (h : aOp r s e m = some out) (hk : K (upd d out e) out.2.1) :
    xItem P C N d (.op r) K e m := by
  intro o hd ho G w a hr next Q hn
  obtain ⟨n, c, w', G', h1, h2, h3, h4⟩ := aOp_ok (C := C.re G w) (o := o) ho hr.mr hr.good.re hr.er h
  have hput : Rel C G' w' N (a.put o.dst c) (upd d out e) out.2.1 := by
    have := (hr.step h4).put hd h3
    cases d <;> exact this
  refine ⟨fun _ _ => wide_fn, ?_⟩
  rw [Oper.semAt_eq _ _ _ (opIs_plain ho), h1]
  rcases h2 with rfl | ⟨rfl, rfl⟩
  · exact hn _ _ ⟨G', _, _, hput, hk⟩
  · exact hn _ _ ⟨G', _, _, hput, hk⟩
theorem guardIs_none {all : Array Oper} {g : Option (Nat × Bool)} (h : guardIs all g none = true) : g = none := by
  cases g with
  | none => rfl
  | some x => simp [guardIs] at h
theorem guardIs_some {all : Array Oper} {g : Option (Nat × Bool)} {s : Nat} {want : Bool} (h : guardIs all g (some (s, want)) = true) :
    ∃ j, g = some (j, want) ∧ ((all[j]?).bind (·.dst)) = some s ∧ s < 1000000 := by
  cases g with
  | none => simp [guardIs] at h
  | some x =>
    obtain ⟨j, b⟩ := x
    simp only [guardIs, Bool.and_eq_true, beq_iff_eq] at h
    have := Nat.le_of_ble_eq_true h.2
    exact ⟨j, by rw [h.1.1], h.1.2, by omega⟩
/-- What a guard's slot says: yes, no, or that it was passed over itself. -/
def gb : AVal → Option (Option Bool)
  | .p (.bool b) => some (some b)
  | .p (.tup []) => some none
  | _ => none
theorem yield_slot {all : Array Oper} {G : Gh} {w : World} {a : Act} {j s : Nat} {v : AVal} {y : Option Bool} (hr : Rel C G w N a e m) (hj : ((all[j]?).bind (·.dst)) = some s) (h6 : s < 1000000) (hs : lk e s = some v) (hv : gb v = some y) : yielded all a.tmps j = y := by
  obtain ⟨c, hc1, hc2⟩ := hr.er _ _ hs
  rw [slotOf_lt h6] at hc1
  unfold gb at hv
  split at hv
  · cases hv
    have hc2 := hc2.out
    cases hc2
    simp [yielded, hj, hc1]
  · cases hv
    have hc2 := hc2.out
    cases hc2 with
    | tup cs cv hsz h =>
    have : cv = #[] := Array.eq_empty_of_size_eq_zero (by simpa using hsz)
    subst this
    simp [yielded, hj, hc1]
  · cases hv
theorem xOps_cons {d : Option Nat} {it : RItem} {rest : List RO} {K : Env → Mem → Prop} (h : xItem P C N d it (xOps P C N rest K) e m) : xOps P C N (⟨d, it, none⟩ :: rest) K e m := by
  intro all os hc G w a hr Q hQ
  cases os with
  | nil => simp [opsAre] at hc
  | cons o os =>
    simp only [opsAre, roIs, Bool.and_eq_true] at hc
    obtain ⟨⟨⟨hd, hg⟩, hi⟩, hrest⟩ := hc
    have hg' := guardIs_none hg
    unfold wpListIn
    rw [if_pos (by simp [Region.wanted, hg'])]
    refine h o hd hi G w a hr _ Q ?_
    intro a w hh
    obtain ⟨G, e, m, hr, hx⟩ := hh
    exact hx all os hrest G w a hr Q hQ
theorem xOps_op {d : Option Nat} {r : ROp} {rest : List RO} {s : Nat} {K : Env → Mem → Prop} {out : Out} (h : aOp r s e m = some out) (hk : xOps P C N rest K (upd d out e) out.2.1) :
    xOps P C N (⟨d, .op r, none⟩ :: rest) K e m := xOps_cons (xItem_op h hk)
def skipped (d : Option Nat) (e : Env) : Env :=
  match d with
  | none => e
  | some d => (d, .p (.tup [])) :: e
theorem Rel.skipped {G : Gh} {w : World} {a : Act} {d o : Option Nat} (hr : Rel C G w N a e m) (hd : dstIs N o d = true) : Rel C G w N (a.put o undef) (skipped d e) m := by
  have := hr.put (v := .p (.tup [])) (c := undef) hd (.p (.tup [] #[] rfl (by simp)))
  cases d <;> exact this
/-- A guarded one. -/
theorem xOps_guard {d : Option Nat} {it : RItem} {s : Nat} {want : Bool} {v : AVal} {y : Option Bool} {rest : List RO} {K : Env → Mem → Prop} (hs : lk e s = some v) (hv : gb v = some y)
    (h1 : y = some want → xOps P C N (⟨d, it, none⟩ :: rest) K e m) (h2 : y ≠ some want → xOps P C N rest K (skipped d e) m) : xOps P C N (⟨d, it, some (s, want)⟩ :: rest) K e m := by
  intro all os hc G w a hr Q hQ
  cases os with
  | nil => simp [opsAre] at hc
  | cons o os =>
    simp only [opsAre, roIs, Bool.and_eq_true] at hc
    obtain ⟨⟨⟨hd, hg⟩, hi⟩, hrest⟩ := hc
    obtain ⟨j, hgj, hj, h6⟩ := guardIs_some hg
    have hy := yield_slot hr hj h6 hs hv
    unfold wpListIn
    by_cases hb : y = some want
    · rw [if_pos (by simp [Region.wanted, hgj, hy, hb])]
      have := h1 hb all ({ o with guard := none } :: os) (by simp [opsAre, roIs, hd, hi, hrest, guardIs]) G w a hr Q hQ
      unfold wpListIn at this
      rw [if_pos (by simp [Region.wanted])] at this
      exact this
    · rw [if_neg (by simp [Region.wanted, hgj, hy, hb])]
      exact ⟨fun _ _ => wide_fn, h2 hb all os hrest G w _ (hr.skipped hd) Q hQ⟩
end rules
end Go.Proofs.Ytnmnijgoggombaa.X
/- Other labels for the sites; what a call gives back beside what the caller has. -/
namespace Go.Proofs.Ytnmnijgoggombaa.X
open Go.RowKit
def renP (r : List (Nat × Nat)) (pl : Place) : Option Place := (lk r pl.s).map fun d => { pl with s := d }
mutual
def renV (r : List (Nat × Nat)) : AVal → Option AVal
  | .p x => some (.p x)
  | .agg cs => (renL r cs).map .agg
  | .tup cs => (renL r cs).map .tup
  | .rsl pl off len => (renP r pl).map fun pl => .rsl pl off len
  | .rpt pl i j => (renP r pl).map fun pl => .rpt pl i j
  | .rmp pl => (renP r pl).map .rmp
  | .rit pl mp mb => (renP r pl).bind fun pl => (renP r mp).map fun mp => .rit pl mp mb
  | _ => none
def renL (r : List (Nat × Nat)) : List AVal → Option (List AVal)
  | [] => some []
  | a :: l => (renV r a).bind fun x => (renL r l).map (x :: ·)
end
def inv (r : List (Nat × Nat)) (d : Nat) : Option Nat := lk (r.map fun x => (x.2, x.1)) d
def nodupB : List Nat → Bool
  | [] => true
  | a :: l => !(l.contains a) && nodupB l
def renOK (r : List (Nat × Nat)) : Bool := nodupB (r.map (·.1)) && nodupB (r.map (·.2))
def renMem (r : List (Nat × Nat)) (m : Mem) : Mem := r.filterMap fun x => (lk m x.1).map fun cs => (x.2, cs)
def Gh.ren (r : List (Nat × Nat)) (G : Gh) : Gh :=
  { F := G.F
    loc := fun q => match inv r q.s with | some s => G.loc { q with s := s } | none => none
    cv := fun q => match inv r q.s with | some s => G.cv { q with s := s } | none => undef }
theorem mem_of_lk {α : Type} {l : List (Nat × α)} {t : Nat} {v : α} (h : lk l t = some v) : (t, v) ∈ l := by
  induction l with
  | nil => simp [lk] at h
  | cons x l ih =>
    simp only [lk] at h
    split at h
    · rename_i ht; cases h; subst ht; simp
    · exact List.mem_cons_of_mem _ (ih h)
theorem lk_of_mem {α : Type} {l : List (Nat × α)} {t : Nat} {v : α} (hn : nodupB (l.map (·.1)) = true) (h : (t, v) ∈ l) : lk l t = some v := by
  induction l with
  | nil => simp at h
  | cons x l ih =>
    simp only [List.map_cons, nodupB, Bool.and_eq_true, Bool.not_eq_true', List.contains_eq_mem, decide_eq_false_iff_not, List.mem_map, not_exists, not_and] at hn
    simp only [lk]
    rcases List.mem_cons.1 h with h | h
    · subst h; simp
    · rw [if_neg (fun e => hn.1 _ h e)]
      exact ih hn.2 h
section
variable {r : List (Nat × Nat)} (hr : renOK r = true)
include hr
theorem lk_iff_mem {s d : Nat} : lk r s = some d ↔ (s, d) ∈ r := by
  simp only [renOK, Bool.and_eq_true] at hr
  exact ⟨mem_of_lk, lk_of_mem hr.1⟩
theorem inv_iff_mem {s d : Nat} : inv r d = some s ↔ (s, d) ∈ r := by
  simp only [renOK, Bool.and_eq_true] at hr
  unfold inv
  constructor
  · intro h
    have := mem_of_lk h
    simp only [List.mem_map, Prod.mk.injEq] at this
    obtain ⟨x, h1, rfl, rfl⟩ := this
    exact h1
  · intro h
    refine lk_of_mem ?_ (List.mem_map.2 ⟨(s, d), h, rfl⟩)
    simpa [Function.comp_def] using hr.2
theorem renMem_lk {m : Mem} {d : Nat} {cs : List AVal} (h : lk (renMem r m) d = some cs) : ∃ s, inv r d = some s ∧ lk m s = some cs := by
  have := mem_of_lk h
  simp only [renMem, List.mem_filterMap, Option.map_eq_some_iff, Prod.mk.injEq] at this
  obtain ⟨⟨s, d'⟩, h1, cs', h2, rfl, rfl⟩ := this
  exact ⟨s, (inv_iff_mem hr).2 h1, h2⟩
theorem renP_loc {G : Gh} {pl pl' : Place} (h : renP r pl = some pl') : (G.ren r).loc pl' = G.loc pl := by
  unfold renP at h
  simp only [Option.map_eq_some_iff] at h
  obtain ⟨d, h1, rfl⟩ := h
  have := (inv_iff_mem hr).2 ((lk_iff_mem hr).1 h1)
  simp [Gh.ren, this]
omit hr in
theorem renL_length {l l' : List AVal} (h : renL r l = some l') : l'.length = l.length := by
  induction l generalizing l' with
  | nil => simp [renL] at h; subst h; rfl
  | cons a l ih =>
    simp only [renL, Option.bind_eq_some_iff, Option.map_eq_some_iff] at h
    obtain ⟨x, _, l2, h2, rfl⟩ := h
    simp [ih h2]
omit hr in
theorem renL_get {l l' : List AVal} (h : renL r l = some l') {i : Nat} {a' : AVal} (ha : l'[i]? = some a') : ∃ a, l[i]? = some a ∧ renV r a = some a' := by
  induction l generalizing l' i with
  | nil => simp [renL] at h; subst h; simp at ha
  | cons a l ih =>
    simp only [renL, Option.bind_eq_some_iff, Option.map_eq_some_iff] at h
    obtain ⟨x, h1, l2, h2, rfl⟩ := h
    cases i with
    | zero => simp at ha; subst ha; exact ⟨a, rfl, h1⟩
    | succ i => simpa using ih h2 (by simpa using ha)
omit hr in
theorem renV_scalar {a a' : AVal} (h : renV r a = some a') (hs : a.scalar = true) : a'.scalar = true := by
  cases a <;> simp only [renV, Option.map_eq_some_iff, Option.bind_eq_some_iff, Option.some.injEq, reduceCtorEq] at h
  · subst h; exact hs
  · cases hs
  · cases hs
  · obtain ⟨_, _, rfl⟩ := h; rfl
  · obtain ⟨_, _, rfl⟩ := h; rfl
  · obtain ⟨_, _, rfl⟩ := h; rfl
  · obtain ⟨_, _, _, _, rfl⟩ := h; rfl
theorem VR.ren {G : Gh} {x x' : AVal} {c : Value} (hx : VR G x c) (h : renV r x = some x') : VR (G.ren r) x' c := by
  induction hx generalizing x' with
  | p hp => simp only [renV, Option.some.injEq] at h; subst h; exact .p hp
  | unk c hh => simp [renV] at h
  | rit pl mp mb ad hh hh' =>
    simp only [renV, Option.bind_eq_some_iff, Option.map_eq_some_iff] at h
    obtain ⟨pl', h1, mp', h2, rfl⟩ := h
    exact .rit _ _ _ _ (by rw [renP_loc hr h1]; exact hh) (by rw [renP_loc hr h2]; exact hh')
  | agg cs cv hs hc _ ih =>
    simp only [renV, Option.map_eq_some_iff] at h
    obtain ⟨cs', h1, rfl⟩ := h
    refine .agg cs' cv (by rw [hs, renL_length h1]) ?_ ?_
    · intro a ha
      obtain ⟨i, hi⟩ := List.mem_iff_getElem?.1 ha
      obtain ⟨b, hb, hbr⟩ := renL_get h1 hi
      exact renV_scalar hbr (hc b (List.mem_of_getElem? hb))
    · intro i a v ha hv
      obtain ⟨b, hb, hbr⟩ := renL_get h1 ha
      exact ih i b v hb hv hbr
  | tup cs cv hs _ ih =>
    simp only [renV, Option.map_eq_some_iff] at h
    obtain ⟨cs', h1, rfl⟩ := h
    refine .tup cs' cv (by rw [hs, renL_length h1]) ?_
    intro i a v ha hv
    obtain ⟨b, hb, hbr⟩ := renL_get h1 ha
    exact ih i b v hb hv hbr
  | rsl pl off len ad k hh =>
    simp only [renV, Option.map_eq_some_iff] at h
    obtain ⟨pl', h1, rfl⟩ := h
    exact .rsl _ _ _ _ _ (by rw [renP_loc hr h1]; exact hh)
  | rpt pl i j ad hh =>
    simp only [renV, Option.map_eq_some_iff] at h
    obtain ⟨pl', h1, rfl⟩ := h
    exact .rpt _ _ _ _ (by rw [renP_loc hr h1]; exact hh)
  | rmp pl rr hh =>
    simp only [renV, Option.map_eq_some_iff] at h
    obtain ⟨pl', h1, rfl⟩ := h
    exact .rmp _ _ (by rw [renP_loc hr h1]; exact hh)
theorem MR.ren {G : Gh} {w : World} {m : Mem} (hm : MR G w m) : MR (G.ren r) w (renMem r m) := by
  intro q x hx
  obtain ⟨s, k, path⟩ := q
  simp only [getAt, Option.bind_eq_some_iff] at hx
  obtain ⟨cs, h1, a, h2, h3⟩ := hx
  obtain ⟨s0, h4, h5⟩ := renMem_lk hr h1
  have h0 : getAt m ⟨s0, k, path⟩ = some x := by simp [getAt, h5, h2, h3]
  refine (hm _ x h0).move (SameShape.refl _) (Frz.le_refl _) (fun L hL => ⟨by simpa [Gh.ren, h4] using hL, rfl⟩) (by simp [Gh.ren, h4]) (fun i j => by simp [Gh.ren, h4, Place.ext])
theorem Good.ren {C : Ctx} {G : Gh} {w : World} (hg : Good C G w) : Good C (G.ren r) w := by
  have hl : ∀ q L, (G.ren r).loc q = some L → ∃ s, inv r q.s = some s ∧ G.loc { q with s := s } = some L := by
    intro q L h
    simp only [Gh.ren] at h
    split at h
    · exact ⟨_, by assumption, h⟩
    · cases h
  refine ⟨hg.fz, ?_, hg.fm, ?_, ?_, ?_, hg.size, hg.keep, ?_, hg.fz0, hg.fm0, hg.fzn, hg.fmn, hg.os, hg.tape, hg.output⟩
  · intro b o v hv q L h
    obtain ⟨s, _, h⟩ := hl q L h
    exact hg.fzl b o v hv _ L h
  · intro b es hv q L h
    obtain ⟨s, _, h⟩ := hl q L h
    exact hg.fml b es hv _ L h
  · intro q q' L L' h h' hb
    obtain ⟨s, h1, h2⟩ := hl q L h
    obtain ⟨s', h1', h2'⟩ := hl q' L' h'
    have e := hg.inj _ _ _ _ h2 h2' hb
    obtain ⟨qs, qk, qp⟩ := q
    obtain ⟨qs', qk', qp'⟩ := q'
    simp only [Place.mk.injEq] at e
    obtain ⟨rfl, rfl, rfl⟩ := e
    have e1 := (lk_iff_mem hr).2 ((inv_iff_mem hr).1 h1)
    have e2 := (lk_iff_mem hr).2 ((inv_iff_mem hr).1 h1')
    simp only at e1 e2
    rw [e1] at e2
    simp only [Option.some.injEq] at e2
    rw [e2]
  · intro q L h
    obtain ⟨s, _, h⟩ := hl q L h
    exact hg.bnd _ L h
  · intro q L h
    obtain ⟨s, _, h⟩ := hl q L h
    exact hg.own _ L h
end
/-- The slots that are kept, under the sites' other labels. -/
def keepEnv (r : List (Nat × Nat)) (e : Env) : List Nat → Option Env
  | [] => some []
  | t :: ts => (lk e t).bind fun v => (renV r v).bind fun v => (keepEnv r e ts).map ((t, v) :: ·)
theorem keepEnv_lk {r : List (Nat × Nat)} {e : Env} : ∀ {ts : List Nat} {e' : Env}, keepEnv r e ts = some e' → ∀ {t : Nat} {v : AVal}, lk e' t = some v → ∃ u, lk e t = some u ∧ renV r u = some v := by
  intro ts
  induction ts with
  | nil => intro e' h t v hv; simp [keepEnv] at h; subst h; simp [lk] at hv
  | cons a ts ih =>
    intro e' h t v hv
    simp only [keepEnv, Option.bind_eq_some_iff, Option.map_eq_some_iff] at h
    obtain ⟨u, h1, u', h2, e2, h3, rfl⟩ := h
    simp only [lk] at hv
    split at hv
    · rename_i ht; cases hv; subst ht; exact ⟨u, h1, h2⟩
    · exact ih h3 hv
theorem tells_keep {e e' : Env} {m m' : Mem} (ts : List Nat) (r : List (Nat × Nat)) (hr : renOK r = true) (he : keepEnv r e ts = some e') (hm : renMem r m = m') : Tells e m e' m' := by
  intro C G w tmps h1 h2 h3
  subst hm
  refine ⟨G.ren r, h1.ren hr, h2.ren hr, ?_⟩
  intro t v hv
  obtain ⟨u, hu, hur⟩ := keepEnv_lk he hv
  obtain ⟨c, hc, hvr⟩ := h3 t u hu
  exact ⟨c, hc, hvr.ren hr hur⟩
end Go.Proofs.Ytnmnijgoggombaa.X
/- Freezing what the slots lead to. -/
namespace Go.Proofs.Ytnmnijgoggombaa.X
open Go.RowKit
section
variable {m : Mem} {e : Env}
theorem lk_map {α β : Type} (f : α → β) (l : List (Nat × α)) (t : Nat) : lk (l.map fun x => (x.1, f x.2)) t = (lk l t).map f := by
  induction l with
  | nil => rfl
  | cons x l ih => simp only [List.map_cons, lk]; split <;> simp [ih]
/-- FREEZE what is owned at a place. -/
theorem tells_freeze (pl : Place) {a : AVal} {x : PVal} (ha : getAt m pl = some a) (hx : toP a = some x) (ho : a.isOwn = true) :
    Tells e m (e.map fun y => (y.1, frzV pl x y.2)) (setAt m pl (.p x)) := by
  intro C G w tmps hm hg he
  have hs : x.scalar = true := by
    cases a <;> simp [AVal.isOwn] at ho
    · rename_i ptr _ _
      cases ptr <;> simp only [toP, Option.map_eq_some_iff] at hx <;> obtain ⟨_, _, rfl⟩ := hx <;> rfl
    · simp only [toP, Option.some.injEq] at hx; subst hx; rfl
  have hp : ∀ y, a ≠ .p y := fun y e => by subst e; simp [AVal.isOwn] at ho
  obtain ⟨h1, h2, hle, hpv, hl⟩ := freeze_ok hg pl hm ha hx hs
  refine ⟨_, h1, h2, ?_⟩
  intro t v hv
  rw [lk_map] at hv
  simp only [Option.map_eq_some_iff] at hv
  obtain ⟨u, hu, rfl⟩ := hv
  obtain ⟨c, hc, hvr⟩ := he t u hu
  exact ⟨c, hc, frzV_ok hm hg ha hx hs hp hvr⟩
end
end Go.Proofs.Ytnmnijgoggombaa.X
/- Contracts of functions; calls; a function's body. -/
namespace Go.Proofs.Ytnmnijgoggombaa.X
open Go.RowKit
def ArgsR (G : Gh) (args : List AVal) (cv : Array Value) : Prop :=
  cv.size = args.length ∧ ∀ (i : Nat) (v : AVal) (c : Value), args[i]? = some v → cv[i]? = some c → VR G v c
/-- THE CONTRACT of a function at abstract arguments: it comes back, with what 'R' says. 'h': what waits beside it. -/
def Spec (P : Program) (f : Nat) (args : List AVal) (h : Env) (m : Mem) (R : AVal → Env → Mem → Prop) : Prop :=
  ∀ (C : Ctx) G w (cv : Array Value), MR G w m → Good C G w → ArgsR G args cv → ER C G h #[] →
    Calls P f cv w fun ending w' => match ending with
      | .returned c => ∃ G' v h' m', VR G' v c ∧ MR G' w' m' ∧ Good C G' w' ∧ ER C G' h' #[] ∧ R v h' m'
      | _ => False
theorem Spec.mono {P : Program} {f : Nat} {args : List AVal} {h : Env} {m : Mem} {R R' : AVal → Env → Mem → Prop} (hs : Spec P f args h m R) (hr : ∀ v h' m', R v h' m' → R' v h' m') : Spec P f args h m R' := by
  intro C G w cv h1 h2 h3 h4
  refine Calls.mono (hs C G w cv h1 h2 h3 h4) ?_
  intro e w' he
  cases e with
  | returned c => obtain ⟨G', v, h', m', a, b, c, d, r⟩ := he; exact ⟨G', v, h', m', a, b, c, d, hr _ _ _ r⟩
  | _ => exact he
section body
variable {P : Program}
/-- Where a result lies: in a slot, or in a cell that a slot leads to. -/
inductive RV where
  | t (s : Nat)
  | cell (s n : Nat) (ag : Bool)
def rvIs (P : Program) : List ResultVar → List RV → Bool
  | [], [] => true
  | .tmp t :: rs, .t s :: ts => t == s && Nat.ble t 999999 && rvIs P rs ts
  | .cell t ty :: rs, .cell s n ag :: ts => t == s && Nat.ble t 999999 && tySize P ty == some n && tyAgg P ty == some ag && rvIs P rs ts
  | _, _ => false
def rvVal (e : Env) (m : Mem) : RV → Option AVal
  | .t s => lk e s
  | .cell s n ag => match lk e s with
    | some x => match oLoad n ag m x with
      | some out => some out.1
      | none => none
    | none => none
def rvAll (e : Env) (m : Mem) : List RV → Option (List AVal)
  | [] => some []
  | t :: ts => match rvVal e m t with
    | some v => match rvAll e m ts with
      | some vs => some (v :: vs)
      | none => none
    | none => none
def resVal (e : Env) (m : Mem) (ts : List RV) : Option AVal :=
  match rvAll e m ts with
  | some [v] => some v
  | some vs => some (mkTup vs)
  | none => none
theorem oLoad_ptr {G : Gh} {n : Nat} {ag : Bool} {m : Mem} {x : AVal} {out : Out} (h : oLoad n ag m x = some out) {c : Value} (hc : VR G x c) : ∃ ad, c = .pointer (some ad) := by
  unfold oLoad at h
  split at h
  · have := hc.out; cases this; exact ⟨_, rfl⟩
  · cases hc; exact ⟨_, rfl⟩
  · cases h
theorem oLoad_same {n : Nat} {ag : Bool} {m : Mem} {x : AVal} {out : Out} (h : oLoad n ag m x = some out) : out.2.1 = m ∧ out.2.2 = .no := by
  unfold oLoad at h
  split at h
  · split at h
    · simp only [Option.map_eq_some_iff] at h; obtain ⟨_, _, rfl⟩ := h; exact ⟨rfl, rfl⟩
    · cases h
  · split at h
    · split at h
      · simp only [Option.bind_eq_some_iff, Option.map_eq_some_iff] at h; obtain ⟨_, _, _, _, rfl⟩ := h; exact ⟨rfl, rfl⟩
      · cases h
    · cases h
  · cases h
theorem run_loadVar' {G : Gh} {t : TypeId} {n : Nat} {ag : Bool} {m : Mem} {x : AVal} {w : World} {out : Out} (h : oLoad n ag m x = some out) {c : Value} (hc : VR G x c) :
    (do loadVar t (← asAddr c) : Sem Value).run P w = (Instr.loadAt t c).run P w := by
  obtain ⟨ad, rfl⟩ := oLoad_ptr h hc
  simp [Instr.loadAt, asAddr, Instr.sureAddr]
theorem oLoad_vr {C : Ctx} {t : TypeId} {ag : Bool} {n : Nat} {G : Gh} {w : World} {m : Mem} (hag : tyAgg P t = some ag) (hn : tySize P t = some n) (hm : MR G w m) (hg : Good C G w)
    {x : AVal} {c : Value} (hx : VR G x c) {out : Out} (h : oLoad n ag m x = some out) {u : Value} {w' : World} (hr : (Instr.loadAt t c).run P w = .ok u w') : VR G out.1 u := (oLoad_okS (C := C) hag hn hm hg hx h).vr hr
/-- The results, read one after another: the world stays. -/
theorem rv_mapM {C : Ctx} {tmps : Array Value} {e : Env} {m : Mem} {G : Gh} {w : World} (hm : MR G w m) (hg : Good C G w) (he : ER C G e tmps) {f : ResultVar → Sem Value}
    (hf1 : ∀ t, f (.tmp t) = pure (tmps.getD t undef)) (hf2 : ∀ a t, f (.cell a t) = do loadVar t (← asAddr (tmps.getD a undef))) :
    ∀ {rs : List ResultVar} {ts : List RV} {vs : List AVal}, rvIs P rs ts = true → rvAll e m ts = some vs →
    ∃ cs, (rs.mapM f).run P w = .ok cs w ∧ cs.length = vs.length ∧ ∀ (i : Nat) (v : AVal) (c : Value), vs[i]? = some v → cs[i]? = some c → VR G v c := by
  intro rs
  induction rs with
  | nil =>
    intro ts vs h hv
    cases ts with
    | nil => simp [rvAll] at hv; subst hv; exact ⟨[], by simp, rfl, by simp⟩
    | cons t ts => cases t <;> simp [rvIs] at h
  | cons r rs ih =>
    intro ts vs h hv
    cases ts with
    | nil => cases r <;> simp [rvIs] at h
    | cons t ts =>
      simp only [rvAll] at hv
      split at hv
      · rename_i v hv1
        split at hv
        · rename_i vs' hv2
          cases hv
          cases r with
          | tmp r =>
            cases t with
            | cell => simp [rvIs] at h
            | t s =>
              simp only [rvIs, Bool.and_eq_true, beq_iff_eq] at h
              obtain ⟨⟨rfl, hlt⟩, h⟩ := h
              have hlt := Nat.lt_succ_of_le (Nat.le_of_ble_eq_true hlt)
              obtain ⟨cs, i1, i5, i6⟩ := ih h hv2
              obtain ⟨c, hc1, hc2⟩ := he _ _ hv1
              rw [slotOf_lt hlt] at hc1
              refine ⟨tmps.getD r undef :: cs, by simp only [List.mapM_cons, hf1, Sem.run_bind, Sem.run_pure, Result.andThen_ok, i1], by simp [i5], ?_⟩
              intro i u c' hu hc'
              cases i with
              | zero => simp [hc1] at hu hc'; subst hu hc'; exact hc2
              | succ i => exact i6 i u c' (by simpa using hu) (by simpa using hc')
          | cell r ty =>
            cases t with
            | t => simp [rvIs] at h
            | cell s n ag =>
              simp only [rvIs, Bool.and_eq_true, beq_iff_eq] at h
              obtain ⟨⟨⟨⟨rfl, hlt⟩, h1⟩, h2⟩, h⟩ := h
              have hlt := Nat.lt_succ_of_le (Nat.le_of_ble_eq_true hlt)
              simp only [rvVal] at hv1
              split at hv1
              · rename_i x hx
                split at hv1
                · rename_i out hout
                  cases hv1
                  obtain ⟨c, hc1, hc2⟩ := he _ _ hx
                  rw [slotOf_lt hlt] at hc1
                  obtain ⟨_, c1, q1, _⟩ := oLoad_okS (P := P) (C := C) h2 h1 hm hg hc2 hout
                  obtain ⟨e1, e2⟩ := oLoad_same hout
                  obtain ⟨cs, i1, i5, i6⟩ := ih h hv2
                  refine ⟨c1 :: cs, ?_, by simp [i5], ?_⟩
                  · have hd : tmps.getD r undef = c := by simp [hc1]
                    have := run_loadVar' (P := P) (t := ty) (w := w) hout hc2
                    simp only [List.mapM_cons, hf2, hd, Sem.run_bind, Sem.run_pure] at this ⊢
                    rw [this, q1]
                    simp only [Result.andThen_ok, i1]
                  · intro i u c' hu hc'
                    cases i with
                    | zero =>
                      simp at hu hc'
                      subst hu hc'
                      have := oLoad_vr (P := P) (C := C) h2 h1 hm hg hc2 hout q1
                      exact this
                    | succ i => exact i6 i u c' (by simpa using hu) (by simpa using hc')
                · cases hv1
              · cases hv1
        · cases hv
      · cases hv
def oneOrTup : List Value → Value
  | [x] => x
  | cs => .tuple cs.toArray
def resF (tmps : Array Value) : ResultVar → Sem Value
  | .tmp t => pure (tmps.getD t undef)
  | .cell a t => do loadVar t (← asAddr (tmps.getD a undef))
theorem results_eq (fn : Func) (tmps : Array Value) : results fn tmps = (do let vs ← fn.results.mapM (resF tmps); pure (if h : vs.size = 1 then vs[0] else .tuple vs)) := by
  unfold results
  congr 1
theorem resVal_ok {C : Ctx} {fn : Func} {ts : List RV} (h : rvIs P fn.results.toList ts = true) {tmps : Array Value} {e : Env} {m : Mem} {v : AVal} (hv : resVal e m ts = some v) {G : Gh} {w : World}
    (hm : MR G w m) (hg : Good C G w) (he : ER C G e tmps) : ∃ c, (results fn tmps).run P w = .ok c w ∧ VR G v c := by
  rw [results_eq, ← Array.toArray_toList (xs := fn.results), List.mapM_toArray]
  unfold resVal at hv
  have key : ∃ vs, rvAll e m ts = some vs := by
    cases hh : rvAll e m ts with
    | none => rw [hh] at hv; cases hv
    | some vs => exact ⟨vs, rfl⟩
  obtain ⟨vs, hvs⟩ := key
  obtain ⟨cs, i1, i5, i6⟩ := rv_mapM (P := P) (C := C) (tmps := tmps) hm hg he (f := resF tmps) (fun _ => rfl) (fun _ _ => rfl) h hvs
  refine ⟨oneOrTup cs, ?_, ?_⟩
  · rw [Sem.run_bind, map_eq_pure_bind, Sem.run_bind, i1]
    simp only [Result.andThen_ok, Sem.run_pure]
    cases cs with
    | nil => rfl
    | cons t ts => cases ts <;> rfl
  · rw [hvs] at hv
    split at hv
    · rename_i u hu
      cases hu
      cases hv
      match cs, i5 with
      | [c], _ => exact i6 0 _ c (by simp) (by simp)
    · rename_i vs' hn hu
      cases hu
      cases hv
      have key : VR G (X.mkTup vs) (.tuple cs.toArray) := VR.mkTup (by simpa using i5) fun i a v ha hv => i6 i a v ha (by simpa using hv)
      match cs, vs, i5, hn with
      | [], _, _, _ => exact key
      | [c], [u], _, hn => exact absurd rfl (hn u)
      | _ :: _ :: _, _, _, _ => exact key
    · cases hv
def entry : Nat → List AVal → Env
  | _, [] => []
  | i, v :: vs => (i, v) :: entry (i + 1) vs
theorem entry_lk : ∀ {vs : List AVal} {i t : Nat} {v : AVal}, lk (entry i vs) t = some v → i ≤ t ∧ vs[t - i]? = some v := by
  intro vs
  induction vs with
  | nil => intro i t v h; simp [entry, lk] at h
  | cons u vs ih =>
    intro i t v h
    simp only [entry, lk] at h
    split at h
    · cases h; rename_i ht; subst ht; simp
    · rename_i ht
      obtain ⟨h1, h2⟩ := ih h
      refine ⟨by omega, ?_⟩
      have : t - i = (t - (i + 1)) + 1 := by omega
      rw [this]; simpa using h2
/-- What of the slots belongs to frames that wait. -/
def hidOf (e : Env) : Env := e.filter fun x => !(Nat.ble x.1 999999)
theorem hidOf_lk {t : Nat} {v : AVal} : ∀ {e : Env}, lk (hidOf e) t = some v → lk e t = some v ∧ 1000000 ≤ t := by
  intro e
  induction e with
  | nil => intro h; simp [hidOf, lk] at h
  | cons x e ih =>
    intro h
    by_cases hx : Nat.ble x.1 999999 = true
    · simp only [hidOf] at h ih
      rw [List.filter_cons_of_neg (by simp [hx])] at h
      obtain ⟨h1, h2⟩ := ih h
      have := Nat.le_of_ble_eq_true hx
      exact ⟨by simp only [lk]; rw [if_neg (by omega)]; exact h1, h2⟩
    · simp only [hidOf] at h ih
      rw [List.filter_cons_of_pos (by simp [hx])] at h
      simp only [lk] at h ⊢
      split at h
      · cases h
        rename_i ht
        have : ¬ x.1 ≤ 999999 := fun hle => hx (Nat.ble_eq_true_of_le hle)
        exact ⟨by rw [if_pos ht], by omega⟩
      · rename_i ht
        rw [if_neg ht]
        exact ih h
def retQ (ts : List RV) (R : AVal → Env → Mem → Prop) : XQ
  | .exit _, _, _ => False
  | _, e, m => ∃ v, resVal e m ts = some v ∧ R v (hidOf e) m
/-- WHAT A FUNCTION IS: its resolved code, its slots, the slots of its results. -/
def fnIs (P : Program) (f N : Nat) (ts : List RV) (rc : RCode) : Bool :=
  match P.funcs[f]? with
  | some fn => match fn.body with
    | some c => fn.ntmps == N && Nat.ble N 999999 && rvIs P fn.results.toList ts && codeIs P N c rc
    | none => false
  | none => false
theorem putObj_heap {w : World} {b b' : Nat} {o : Obj} (h : b' ≠ b) : (w.putObj b o).heap[b']? = w.heap[b']? := World.putObj_heap_other h
/-- A block that nothing leads to is written. -/
theorem putFree {C : Ctx} {G : Gh} {w : World} {m : Mem} (hm : MR G w m) (hg : Good C G w) {b : Nat} (hf : Free G b) (hb : C.w0.heap.size ≤ b ∨ C.mine b) (o : Obj) :
    MR G (w.putObj b o) m ∧ Good C G (w.putObj b o) := by
  refine ⟨fun q x hx => (hm q x hx).move (SameShape.refl _) (Frz.le_refl _) (fun L hL => ⟨hL, putObj_heap (hf.1 q L hL)⟩) rfl (fun _ _ => rfl), ?_⟩
  refine ⟨?_, hg.fzl, ?_, hg.fml, hg.inj, ?_, ?_, ?_, hg.own, hg.fz0, hg.fm0, hg.fzn, hg.fmn, hg.os, hg.tape, hg.output⟩
  · intro b' o' v hv
    have hne : b' ≠ b := fun e => by subst e; rw [hf.2.1] at hv; cases hv
    have := hg.fz b' o' v hv
    unfold World.cell? at this ⊢
    rw [putObj_heap hne]
    exact this
  · intro r es hr
    have hne : r ≠ b := fun e => by subst e; rw [hf.2.2] at hr; cases hr
    obtain ⟨clock, h⟩ := hg.fm r es hr
    exact ⟨clock, by rw [putObj_heap hne]; exact h⟩
  · intro pl L hL
    rw [World.putObj_size]
    exact hg.bnd pl L hL
  · rw [World.putObj_size]; exact hg.size
  · intro b' hb' hn
    have hne : b' ≠ b := by
      rintro rfl
      rcases hb with h | h
      · omega
      · exact hn h
    rw [putObj_heap hne]
    exact hg.keep b' hb' hn
theorem leave_marks {C : Ctx} {fn : Func} {ts : List RV} (h : rvIs P fn.results.toList ts = true) {tmps : Array Value} {e : Env} {m : Mem} {v : AVal} (hv : resVal e m ts = some v) {G : Gh} {R : Ending → World → Prop}
    (hR : ∀ c w, VR G v c → MR G w m → Good C G w → R (.returned c) w) (he : ER C G e tmps) : ∀ (Ds : List Nat) (w : World), MR G w m → Good C G w → Ds.Nodup →
      (∀ D ∈ Ds, w.heap[D]? = some (.deferred (some [])) ∧ C.w0.heap.size ≤ D ∧ Free G D) →
      LeavesInM Fence.wide 0 P fn tmps R (Ds.map fun D => { target := .collected D, args := #[] }) .returning w := by
  intro Ds
  induction Ds with
  | nil =>
    intro w hm hg _ _
    obtain ⟨c, h1, h2⟩ := resVal_ok h hv hm hg he
    exact ⟨c, h1, hR c w h2 hm hg⟩
  | cons D Ds ih =>
    intro w hm hg hnd hD
    obtain ⟨h1, h2, h3⟩ := hD D (by simp)
    obtain ⟨g1, g2⟩ := putFree hm hg h3 (.inl h2) (.deferred none)
    refine ⟨by simp, .inl ⟨D, _, rfl, run_takeDeferred h1, ih _ g1 g2 (List.nodup_cons.1 hnd).2 ?_⟩⟩
    intro D' hD'
    obtain ⟨k1, k2, k3⟩ := hD D' (List.mem_cons_of_mem _ hD')
    have hne : D' ≠ D := fun e => (List.nodup_cons.1 hnd).1 (e ▸ hD')
    exact ⟨by rw [putObj_heap hne]; exact k1, k2, k3⟩
theorem ER.hid {C : Ctx} {G : Gh} {e : Env} {tmps : Array Value} (he : ER C G e tmps) : ER C G (hidOf e) #[] := by
  intro t v h
  obtain ⟨h1, h2⟩ := hidOf_lk h
  obtain ⟨c, h3, h4⟩ := he t v h1
  refine ⟨c, ?_, h4⟩
  unfold slotOf at h3 ⊢
  rw [if_neg (by omega)] at h3 ⊢
  exact h3
theorem lk_append {α : Type} {t : Nat} : ∀ (a b : List (Nat × α)), lk (a ++ b) t = (lk a t).or (lk b t) := by
  intro a b
  induction a with
  | nil => simp [lk]
  | cons x a ih => simp only [List.cons_append, lk]; split <;> simp [ih]
theorem spec_of_body {f N : Nat} {ts : List RV} {rc : RCode} {args : List AVal} {h : Env} {m : Mem} {R : AVal → Env → Mem → Prop} (hf : fnIs P f N ts rc = true) (hl : args.length ≤ N)
    (hb : ∀ C, xWp P C N rc (retQ ts R) (entry 0 args ++ h) m) : Spec P f args h m R := by
  intro C0 G w cv hm hg ha hh
  unfold fnIs at hf
  split at hf
  · rename_i fn hfn
    split at hf
    · rename_i c hc
      simp only [Bool.and_eq_true, beq_iff_eq] at hf
      obtain ⟨⟨⟨rfl, hN⟩, hres⟩, hcode⟩ := hf
      have hN := Nat.le_of_ble_eq_true hN
      let C : Ctx := { C0 with ro := none }
      have hg : Good C G w := ⟨hg.fz, hg.fzl, hg.fm, hg.fml, hg.inj, hg.bnd, hg.size, hg.keep, hg.own, hg.fz0, hg.fm0, hg.fzn, hg.fmn, hg.os, hg.tape, hg.output⟩
      have back : ∀ {G' w'}, Good C G' w' → Good C0 G' w' := fun hg => ⟨hg.fz, hg.fzl, hg.fm, hg.fml, hg.inj, hg.bnd, hg.size, hg.keep, hg.own, hg.fz0, hg.fm0, hg.fzn, hg.fmn, hg.os, hg.tape, hg.output⟩
      refine (callsIn_wide (n := 0)).1 (callsIn_of_wp_marks hfn hc trivial (wpIn_mono (hb C c hcode G w _ ⟨hm, hg, ?_, Marks.nil rfl, ?_⟩) ?_) rfl)
      · intro t v hv
        rw [lk_append] at hv
        cases hq : lk (entry 0 args) t with
        | some u =>
          rw [hq] at hv
          simp at hv
          subst hv
          obtain ⟨h1, h2⟩ := entry_lk hq
          simp only [Nat.sub_zero] at h2
          have hlt : t < cv.size := by rw [ha.1]; exact (List.getElem?_eq_some_iff.1 h2).1
          have := ha.1
          refine ⟨cv[t], ?_, ha.2 t u _ h2 (by simp [hlt])⟩
          rw [slotOf_lt (by omega)]
          simp [Array.getElem?_append, hlt]
        | none =>
          rw [hq] at hv
          simp at hv
          obtain ⟨c, h1, h2⟩ := hh t v hv
          refine ⟨c, ?_, h2⟩
          unfold slotOf at h1 ⊢
          split at h1
          · simp at h1
          · rename_i hlt
            rw [if_neg hlt]
            exact h1
      · have := ha.1
        simp; omega
      · intro ex a w' hx
        have hret : ∀ {x : XE}, x = .normal ∨ x = .ret → Holds C fn.ntmps (retQ ts R x) a w' →
            LeavesInM Fence.wide 0 P fn a.tmps (fun ending w' => match ending with
              | .returned c => ∃ G' v h' m', VR G' v c ∧ MR G' w' m' ∧ Good C0 G' w' ∧ ER C0 G' h' #[] ∧ R v h' m'
              | _ => False) a.defers .returning w' := by
          intro x hx hh
          obtain ⟨G', e, m', hr, hq⟩ := hh
          have hq' : ∃ v, resVal e m' ts = some v ∧ R v (hidOf e) m' := by rcases hx with rfl | rfl <;> exact hq
          obtain ⟨v, hv, hR⟩ := hq'
          obtain ⟨Ds, e1, e2, e3⟩ : ∃ Ds : List Nat, a.defers = Ds.map (fun D => { target := .collected D, args := #[] }) ∧ Ds.Nodup ∧ ∀ D ∈ Ds, w'.heap[D]? = some (.deferred (some [])) ∧ C.w0.heap.size ≤ D ∧ Free G' D := hr.marks
          rw [e1]
          exact leave_marks hres hv (fun c w h1 h2 h3 => ⟨G', v, _, m', h1, h2, back h3, hr.er.hid, hR⟩) hr.er Ds w' hr.mr hr.good e2 e3
        cases ex with
        | normal => exact hret (.inl rfl) hx
        | ret => exact hret (.inr rfl) hx
        | exit i => obtain ⟨_, _, _, _, hq⟩ := hx; exact hq.elim
        | _ => exact hx.elim
    · cases hf
  · cases hf
end body
end Go.Proofs.Ytnmnijgoggombaa.X
/- Calls with pure arguments; what comes back. -/
namespace Go.Proofs.Ytnmnijgoggombaa.X
open Go.RowKit
section call
variable {P : Program} {C : Ctx} {N : Nat} {e : Env} {m : Mem}
def offSites (D : List Nat) (pl : Place) : Bool := !(D.contains pl.s)
/-- The ghosts after a call that gave back memory under the labels 'D'. -/
def Gh.merge (D : List Nat) (G G2 : Gh) : Gh :=
  { F := G2.F
    loc := fun q => if inSites D q = true then G2.loc q else G.loc q
    cv := fun q => if inSites D q = true then G2.cv q else G.cv q }
def Ctx.of (G : Gh) (w : World) : Ctx := { w0 := w, F0 := G.F, mine := fun _ => False }
theorem Good.forCall {G : Gh} {w : World} (hg : Good C G w) : Good (Ctx.of G w) { F := G.F, loc := fun _ => none, cv := fun _ => undef } w where
  fz := hg.fz
  fzl := fun _ _ _ _ _ _ h => by cases h
  fm := hg.fm
  fml := fun _ _ _ _ _ h => by cases h
  inj := fun _ _ _ _ h => by cases h
  bnd := fun _ _ h => by cases h
  size := Nat.le_refl _
  keep := fun _ _ _ => rfl
  own := fun _ _ h => by cases h
  fz0 := fun _ _ _ h => h
  fm0 := fun _ _ h => h
  fzn := fun _ _ _ h => .inl h
  fmn := fun _ _ h => .inl h
  os := rfl
  tape := rfl
  output := rfl
theorem getAt_append {D : List Nat} {m' : Mem} (hD : m'.all (fun x => D.contains x.1) = true) {q : Place} {x : AVal} (h : getAt (m' ++ m) q = some x) :
    (inSites D q = true ∧ getAt m' q = some x) ∨ getAt m q = some x := by
  have key : ∀ (l : Mem), l.all (fun x => D.contains x.1) = true → ∀ cs, lk (l ++ m) q.s = some cs → (inSites D q = true ∧ lk l q.s = some cs) ∨ lk m q.s = some cs := by
    intro l
    induction l with
    | nil => intro _ cs h; exact .inr h
    | cons y l ih =>
      intro hl cs h
      simp only [List.all_cons, Bool.and_eq_true] at hl
      simp only [List.cons_append, lk] at h ⊢
      split at h
      · rename_i hy
        cases h
        left
        exact ⟨by unfold inSites; rw [hy]; exact hl.1, by rw [if_pos hy]⟩
      · rename_i hy
        rw [if_neg hy]
        exact ih hl.2 cs h
  simp only [getAt, Option.bind_eq_some_iff] at h ⊢
  obtain ⟨cs, h1, h2⟩ := h
  rcases key m' hD cs h1 with ⟨a, b⟩ | b
  · exact .inl ⟨a, cs, b, h2⟩
  · exact .inr ⟨cs, b, h2⟩
/-- The memory that is left of what the caller has: not under the labels that come back. -/
def offMem (D : List Nat) (m : Mem) : Mem := m.filter fun x => !(D.contains x.1)
theorem offMem_lk {D : List Nat} {s : Nat} {cs : List AVal} (h : lk (offMem D m) s = some cs) : D.contains s = false ∧ lk m s = some cs := by
  unfold offMem at h
  induction m with
  | nil => simp [lk] at h
  | cons x m ih =>
    by_cases hx : D.contains x.1 = true
    · rw [List.filter_cons_of_neg (by simpa using hx)] at h
      obtain ⟨h1, h2⟩ := ih h
      refine ⟨h1, ?_⟩
      simp only [lk]
      rw [if_neg]
      · exact h2
      · intro e; subst e; simp_all
    · rw [List.filter_cons_of_pos (by simpa using hx)] at h
      simp only [lk] at h ⊢
      split at h
      · cases h
        rename_i hs
        subst hs
        exact ⟨by simpa using hx, by simp⟩
      · rename_i hs
        rw [if_neg hs]
        exact ih h
theorem merge_ok {G G2 : Gh} {w w' : World} {m' : Mem} {D : List Nat} (hm : MR G w m) (hg : Good C G w) (hm' : MR G2 w' m') (hg' : Good (Ctx.of G w) G2 w')
    (hD : m'.all (fun x => D.contains x.1) = true) :
    MR (G.merge D G2) w' (m' ++ offMem D m) ∧ Good C (G.merge D G2) w' ∧ G.F.le G2.F := by
  have hle : G.F.le G2.F := ⟨hg'.fz0, hg'.fm0⟩
  have hsz : w.heap.size ≤ w'.heap.size := hg'.size
  have hold : ∀ b, b < w.heap.size → w'.heap[b]? = w.heap[b]? := fun b hb => hg'.keep b hb (fun h => h)
  have hl : ∀ q L, (G.merge D G2).loc q = some L → (inSites D q = true ∧ G2.loc q = some L ∧ w.heap.size ≤ L.b) ∨ (inSites D q = false ∧ G.loc q = some L ∧ L.b < w.heap.size) := by
    intro q L h
    simp only [Gh.merge] at h
    split at h
    · rename_i hq
      rcases hg'.own q L h with h1 | h1
      · exact .inl ⟨hq, h, h1⟩
      · exact h1.elim
    · rename_i hq
      exact .inr ⟨by simpa using hq, h, hg.bnd q L h⟩
  refine ⟨?_, ?_, hle⟩
  · intro q x hx
    rcases getAt_append hD hx with ⟨h1, h2⟩ | h2
    · refine (hm' q x h2).move (SameShape.refl _) (Frz.le_refl _) (fun L hL => ⟨by simp [Gh.merge, h1, hL], rfl⟩) (by simp [Gh.merge, h1]) (fun i j => ?_)
      have : inSites D (q.ext i j) = true := h1
      simp [Gh.merge, this]
    · simp only [getAt, Option.bind_eq_some_iff] at h2
      obtain ⟨cs, h3, h4⟩ := h2
      obtain ⟨h5, h6⟩ := offMem_lk h3
      have h0 : getAt m q = some x := by simp only [getAt, h6, Option.bind_some]; rw [Option.bind_eq_some_iff]; exact h4
      have h1 : inSites D q = false := h5
      refine (hm q x h0).move (SameShape.refl _) hle (fun L hL => ⟨by simp [Gh.merge, h1, hL], hold _ (hg.bnd q L hL)⟩) (by simp [Gh.merge, h1]) (fun i j => ?_)
      have : inSites D (q.ext i j) = false := h1
      simp [Gh.merge, this]
  · refine ⟨hg'.fz, ?_, hg'.fm, ?_, ?_, ?_, Nat.le_trans hg.size hsz, ?_, ?_, ?_, ?_, ?_, ?_, hg'.os.trans hg.os, hg'.tape.trans hg.tape, hg'.output.trans hg.output⟩
    · intro b o v hv q L hL e
      rcases hl q L hL with ⟨_, h, _⟩ | ⟨_, h, hb⟩
      · exact hg'.fzl b o v hv q L h e
      · rcases hg'.fzn b o v hv with h1 | h1 | h1
        · exact hg.fzl b o v h1 q L h e
        · have : w.heap.size ≤ b := h1
          omega
        · exact h1
    · intro r es hr q L hL e
      rcases hl q L hL with ⟨_, h, _⟩ | ⟨_, h, hb⟩
      · exact hg'.fml r es hr q L h e
      · rcases hg'.fmn r es hr with h1 | h1 | h1
        · exact hg.fml r es h1 q L h e
        · have : w.heap.size ≤ r := h1
          omega
        · exact h1
    · intro q q' L L' h h' e
      rcases hl q L h with ⟨a, b, c⟩ | ⟨a, b, c⟩ <;> rcases hl q' L' h' with ⟨a', b', c'⟩ | ⟨a', b', c'⟩
      · exact hg'.inj q q' L L' b b' e
      · omega
      · omega
      · exact hg.inj q q' L L' b b' e
    · intro q L h
      rcases hl q L h with ⟨_, b, _⟩ | ⟨_, b, c⟩
      · exact hg'.bnd q L b
      · omega
    · intro b hb hmine
      rw [hold b (Nat.lt_of_lt_of_le hb hg.size)]
      exact hg.keep b hb hmine
    · intro q L h
      rcases hl q L h with ⟨_, b, c⟩ | ⟨_, b, c⟩
      · exact .inl (Nat.le_trans hg.size c)
      · exact hg.own q L b
    · exact fun b o v hv => hg'.fz0 b o v (hg.fz0 b o v hv)
    · exact fun r es hr => hg'.fm0 r es (hg.fm0 r es hr)
    · intro b o v hv
      rcases hg'.fzn b o v hv with h1 | h1 | h1
      · exact hg.fzn b o v h1
      · exact .inr (.inl (Nat.le_trans hg.size h1))
      · exact h1.elim
    · intro r es hr
      rcases hg'.fmn r es hr with h1 | h1 | h1
      · exact hg.fmn r es h1
      · exact .inr (.inl (Nat.le_trans hg.size h1))
      · exact h1.elim
theorem run_callee {f : Nat} (h : calleeIs P f = true) (args : Array Value) (w : World) : (callFunc f args).run P w = .ok (.enter f args) w := by
  unfold calleeIs at h
  split at h
  · rename_i fn hfn
    simp only [Bool.and_eq_true, Option.isSome_iff_exists, Bool.not_eq_true'] at h
    obtain ⟨⟨c, hb⟩, hn⟩ := h
    have hn' : fn.name ≠ "runtime.NumGoroutine" := by simpa using hn
    simp [callFunc, hfn, hn', hb]
  · cases h
theorem args_pure {G : Gh} {a : Act} (he : ER C G e a.tmps) {xs : List Operand} {args : List Arg} (hx : argsIs xs args = true) {vs : List AVal} (hv : evAs e args = some vs) {ps : List PVal} (hp : allP vs = some ps) {G2 : Gh} (hF : G2.F = G.F) :
    ArgsR G2 vs (xs.map a.eval).toArray := by
  obtain ⟨h1, h2⟩ := args_ok he hx hv
  refine ⟨by simpa using h1, ?_⟩
  intro i v c hi hc
  have hvr := h2 i v c hi (by simpa using hc)
  have := allP_spec hp
  subst this
  rw [List.getElem?_map] at hi
  simp only [Option.map_eq_some_iff] at hi
  obtain ⟨p, _, rfl⟩ := hi
  exact .p (hF ▸ hvr.out)
/-- The written-out value under labels. -/
def lbl (d k : Nat) : Nat := d + 1000000 * k
mutual
def unp (d : Nat) : AVal → Nat → AVal × Mem × Nat
  | .own ptr z rows, k => ((if ptr = true then .rpt ⟨lbl d k, 0, []⟩ 0 0 else .rsl ⟨lbl d k, 0, []⟩ 0 rows.length), [(lbl d k, [.own ptr z rows])], k + 1)
  | .omap es, k => (.rmp ⟨lbl d k, 0, []⟩, [(lbl d k, [.omap es])], k + 1)
  | .agg cs, k => (mkAgg (unpL d cs k).1, (unpL d cs k).2.1, (unpL d cs k).2.2)
  | .tup cs, k => (mkTup (unpL d cs k).1, (unpL d cs k).2.1, (unpL d cs k).2.2)
  | v, k => (v, [], k)
def unpL (d : Nat) : List AVal → Nat → List AVal × Mem × Nat
  | [], k => ([], [], k)
  | a :: l, k => ((unp d a k).1 :: (unpL d l (unp d a k).2.2).1, (unp d a k).2.1 ++ (unpL d l (unp d a k).2.2).2.1, (unpL d l (unp d a k).2.2).2.2)
end
/-- A function's RESULT at pure arguments, written out. -/
def Ret (P : Program) (f : Nat) (ps : List PVal) (t : AVal) : Prop :=
  calleeIs P f = true ∧ ∀ d, Spec P f (ps.map .p) [] [] fun v _ m' => v = (unp d t 0).1 ∧ m' = (unp d t 0).2.1
/-- What a call does to the state. -/
def aRet (t : AVal) (d : Nat) (m : Mem) : Option Out :=
  match (unp d t 0).2.1 with
  | [] => if ((unp d t 0).1.ment fun _ => true) = true then none else some ((unp d t 0).1, m, .no)
  | ms => if ((unp d t 0).1.ment (offSites (ms.map (·.1)))) = true then none else some ((unp d t 0).1, ms ++ offMem (ms.map (·.1)) m, .sites (ms.map (·.1)))
theorem merge_step {G G2 : Gh} {w w' : World} {m' : Mem} {D : List Nat} (hm : MR G w m) (hg : Good C G w) (hm' : MR G2 w' m') (hg' : Good (Ctx.of G w) G2 w')
    (hD : m'.all (fun x => D.contains x.1) = true) : Step C G w w' (m' ++ offMem D m) (inSites D) (G.merge D G2) := by
  obtain ⟨h1, h2, h3⟩ := merge_ok hm hg hm' hg' hD
  refine ⟨h1, h2, h3, fun pl hp L hL => ?_⟩
  simpa [Gh.merge, hp] using hL
theorem ret_step {f : Nat} {ps : List PVal} {t : AVal} {d : Nat} {out : Out} (hs : Ret P f ps t) (h : aRet t d m = some out) {G : Gh} {w : World} (hm : MR G w m) (hg : Good C G w) {cv : Array Value}
    (ha : cv.size = ps.length ∧ ∀ (i : Nat) (p : PVal) (c : Value), ps[i]? = some p → cv[i]? = some c → PV G.F p c) :
    Calls P f cv w fun ending w' => match ending with
      | .returned c => ∃ G', VR G' out.1 c ∧ Step C G w w' out.2.1 out.2.2.fn G'
      | _ => False := by
  refine Calls.mono (hs.2 d (Ctx.of G w) { F := G.F, loc := fun _ => none, cv := fun _ => undef } w cv (fun pl a h => by simp [getAt, lk] at h) hg.forCall ⟨by simpa using ha.1, ?_⟩ (fun t v h => by simp [lk] at h)) ?_
  · intro i v c hi hc
    rw [List.getElem?_map] at hi
    simp only [Option.map_eq_some_iff] at hi
    obtain ⟨p, hp, rfl⟩ := hi
    exact .p (ha.2 i p c hp hc)
  · intro en w' he
    cases en with
    | returned c =>
      obtain ⟨G2, v, h', m', h1, h2, h3, _, rfl, rfl⟩ := he
      unfold aRet at h
      split at h
      · rename_i hnil
        split at h
        · cases h
        · rename_i hment
          cases h
          rw [hnil] at h2
          have hst := merge_step (D := []) hm hg h2 h3 rfl
          have hoff : offMem [] m = m := by simp [offMem]
          rw [hoff] at hst
          refine ⟨_, ?_, ⟨hst.mr, hst.good, hst.le, fun pl _ L hL => hst.loc pl rfl L hL⟩⟩
          exact h1.mono (G := G2) (G' := G.merge [] G2) (Frz.le_refl G2.F) (fun _ => true) (fun pl hpl => by cases hpl) (by simpa using hment)
      · split at h
        · cases h
        · rename_i hment
          cases h
          refine ⟨_, ?_, merge_step hm hg h2 h3 ?_⟩
          · refine h1.mono (G := G2) (G' := G.merge _ G2) (Frz.le_refl G2.F) _ ?_ (by simpa using hment)
            intro pl hpl L hL
            have : inSites ((unp d t 0).2.1.map (·.1)) pl = true := by simpa [offSites, inSites] using hpl
            simpa [Gh.merge, this] using hL
          · simp only [List.all_eq_true, List.contains_eq_mem, decide_eq_true_eq]
            intro x hx
            exact List.mem_map.2 ⟨x, hx, rfl⟩
    | _ => exact he.elim
/-- A call's arguments, pure ones. -/
theorem args_pv {G : Gh} {a : Act} (he : ER C G e a.tmps) {xs : List Operand} {args : List Arg} (hx : argsIs xs args = true) {vs : List AVal} (hv : evAs e args = some vs) {ps : List PVal} (hp : allP vs = some ps) :
    (xs.map a.eval).length = ps.length ∧ ∀ (i : Nat) (p : PVal) (c : Value), ps[i]? = some p → (xs.map a.eval)[i]? = some c → PV G.F p c := by
  obtain ⟨h1, h2⟩ := args_ok he hx hv
  have := allP_spec hp
  subst this
  refine ⟨by simpa using h1, ?_⟩
  intro i p c hi hc
  exact (h2 i (.p p) c (by simp [hi]) hc).out
/-- A CALL. -/
theorem xItem_call {d : Option Nat} {f s : Nat} {args : List Arg} {vs : List AVal} {ps : List PVal} {t : AVal} {out : Out} {K : Env → Mem → Prop}
    (hs : Ret P f ps t) (hv : evAs e args = some vs) (hp : allP vs = some ps) (ho : aRet t s m = some out) (hk : K (upd d out e) out.2.1) :
    xItem P C N d (.call f args) K e m := by
  intro o hd hi G w a hr next Q hn
  obtain ⟨dst, op, type, pos, after, guard⟩ := o
  simp only [itemIs] at hi
  split at hi
  · rename_i f' xs tys
    simp only [Bool.and_eq_true, beq_iff_eq] at hi
    obtain ⟨⟨rfl, hx⟩, hc⟩ := hi
    refine ⟨fun _ _ => wide_fn, ?_⟩
    rw [Oper.semAt_eq _ _ _ (fun c h => by cases h)]
    have hrun : (execOp a.eval { dst := dst, op := .call { callee := .value (.func f), args := xs, argTypes := tys }, type := type, pos := pos, after := after, guard := guard }).run P w = .ok (.enter f (#[] ++ xs.map a.eval ++ #[])) w := run_callee hc _ w
    rw [hrun]
    refine ⟨(fun h => by cases h), callsIn_fc ?_⟩
    obtain ⟨h1, h2⟩ := args_pv hr.er hx hv hp
    refine Calls.mono (ret_step (C := C.re G w) hs ho hr.mr hr.good.re ⟨by simpa using h1, fun i p c hi hc => h2 i p c hi (by simpa [← Array.toList_map] using hc)⟩) ?_
    intro en w' he
    cases en with
    | returned c =>
      obtain ⟨G', h3, h4⟩ := he
      refine hn _ _ ⟨G', _, _, ?_, hk⟩
      have := (hr.step h4).put hd h3
      cases d <;> exact this
    | _ => exact he.elim
  · cases hi
/-- A CALL of a function value. -/
theorem xItem_callv {d : Option Nat} {f s : Nat} {x : Arg} {fst caps : List PVal} {args : List Arg} {vs : List AVal} {ps : List PVal} {t : AVal} {out : Out} {K : Env → Mem → Prop}
    (hf : evA e x = some (.p (.fn f fst caps))) (hs : Ret P f (fst ++ ps ++ caps) t) (hv : evAs e args = some vs) (hp : allP vs = some ps) (ho : aRet t s m = some out) (hk : K (upd d out e) out.2.1) :
    xItem P C N d (.callv x args) K e m := by
  intro o hd hi G w a hr next Q hn
  obtain ⟨dst, op, type, pos, after, guard⟩ := o
  simp only [itemIs] at hi
  split at hi
  · rename_i g xs tys
    simp only [Bool.and_eq_true] at hi
    obtain ⟨hg, hx⟩ := hi
    have hvr := (arg_ok hg hr.er hf).out
    generalize hcc : a.eval g = cc at hvr
    cases hvr with
    | fn _ _ _ fv cv hsz0 hsz hfst hcap =>
    refine ⟨fun _ _ => wide_fn, ?_⟩
    rw [Oper.semAt_eq _ _ _ (fun c h => by cases h)]
    have hrun : (execOp a.eval { dst := dst, op := .call { callee := .value g, args := xs, argTypes := tys }, type := type, pos := pos, after := after, guard := guard }).run P w = .ok (.enter f (fv ++ xs.map a.eval ++ cv)) w := by
      have := run_callee hs.1 (fv ++ xs.map a.eval ++ cv) w
      rw [← this]
      simp [execOp, resolve, hcc, invoke, Deferred.ofValue]
    rw [hrun]
    refine ⟨(fun h => by cases h), callsIn_fc ?_⟩
    obtain ⟨h1, h2⟩ := args_pv hr.er hx hv hp
    refine Calls.mono (ret_step (C := C.re G w) hs ho hr.mr hr.good.re ⟨by simp at h1; simp [h1, hsz0, hsz, Nat.add_assoc], ?_⟩) ?_
    · intro i p c hi hc
      have e1 : (fv ++ xs.map a.eval ++ cv)[i]? = (fv.toList ++ (xs.toList.map a.eval ++ cv.toList))[i]? := by
        rw [← Array.getElem?_toList]; simp
      rw [e1] at hc
      rw [List.append_assoc] at hi
      by_cases hlt0 : i < fst.length
      · rw [List.getElem?_append_left hlt0] at hi
        rw [List.getElem?_append_left (by simpa [hsz0] using hlt0)] at hc
        exact hfst i p c hi (by simpa using hc)
      · rw [List.getElem?_append_right (by omega)] at hi
        rw [List.getElem?_append_right (by simp [hsz0]; omega), Array.length_toList, hsz0] at hc
        generalize i - fst.length = i at hi hc
        by_cases hlt : i < ps.length
        · rw [List.getElem?_append_left hlt] at hi
          rw [List.getElem?_append_left (by omega)] at hc
          exact h2 i p c hi hc
        · rw [List.getElem?_append_right (by omega)] at hi hc
          rw [h1] at hc
          exact hcap _ p c hi (by simpa using hc)
    · intro en w' he
      cases en with
      | returned c =>
        obtain ⟨G', h3, h4⟩ := he
        refine hn _ _ ⟨G', _, _, ?_, hk⟩
        have := (hr.step h4).put hd h3
        cases d <;> exact this
      | _ => exact he.elim
  · cases hi
end call
end Go.Proofs.Ytnmnijgoggombaa.X
/- An operation looks only at the slots that it reads and at the sites that their values lead to, and changes only these. -/
namespace Go.Proofs.Ytnmnijgoggombaa.X
open Go.RowKit
/-- The sites that the operands lead to. -/
def leads (e : Env) (xs : List Arg) (s : Nat) : Bool := xs.any fun x => match evA e x with | some v => v.ment (fun pl => pl.s == s) | none => false
def Out.at (o : Out) (m : Mem) : Out := (o.1, m, o.2.2)
section
variable {m m2 : Mem} {e : Env}
theorem getAt_at {pl : Place} (h : lk m2 pl.s = lk m pl.s) : getAt m2 pl = getAt m pl := by simp [getAt, h]
/-- Alike at the sites that a value leads to. -/
def AlikeV (m2 m : Mem) (v : AVal) : Prop := ∀ s, v.ment (fun pl => pl.s == s) = true → lk m2 s = lk m s
theorem AlikeV.rsl {pl : Place} {off len : Nat} (h : AlikeV m2 m (.rsl pl off len)) : getAt m2 pl = getAt m pl := getAt_at (h pl.s (by simp [AVal.ment]))
theorem AlikeV.rpt {pl : Place} {i j : Nat} (h : AlikeV m2 m (.rpt pl i j)) : getAt m2 pl = getAt m pl := getAt_at (h pl.s (by simp [AVal.ment]))
theorem AlikeV.rmp {pl : Place} (h : AlikeV m2 m (.rmp pl)) : getAt m2 pl = getAt m pl := getAt_at (h pl.s (by simp [AVal.ment]))
theorem rowsOf_congr {x : AVal} (h : AlikeV m2 m x) : rowsOf m2 x = rowsOf m x := by
  cases x <;> simp only [rowsOf]
  · cases ‹PVal› <;> rfl
  · rw [h.rsl]
theorem entriesOf_congr {x : AVal} (h : AlikeV m2 m x) : entriesOf m2 x = entriesOf m x := by
  cases x <;> simp only [entriesOf]
  · cases ‹PVal› <;> rfl
  · rw [h.rmp]
/-- What only reads: the same in a memory that is alike, and leaves it. -/
def Reads (f : Mem → Option Out) (m m2 : Mem) : Prop := (∀ o, f m = some o → o.2.1 = m ∧ o.2.2 = .no) ∧ f m2 = (f m).map fun o => Out.at o m2
theorem Reads.some {f : Mem → Option Out} {v : AVal} (h : ∀ m, f m = some (v, m, .no)) : Reads f m m2 := by
  refine ⟨fun o ho => ?_, ?_⟩
  · rw [h] at ho; cases ho; exact ⟨rfl, rfl⟩
  · rw [h, h]; rfl
theorem Reads.none {f : Mem → Option Out} (h : ∀ m, f m = none) : Reads f m m2 := by
  refine ⟨fun o ho => ?_, ?_⟩
  · rw [h] at ho; cases ho
  · rw [h, h]; rfl
theorem Reads.map {α : Type} {f : Mem → Option Out} {x : Option α} {g : α → AVal} (h : ∀ m', m' = m ∨ m' = m2 → f m' = x.map fun a => (g a, m', .no)) : Reads f m m2 := by
  have h1 := h m (.inl rfl)
  have h2 := h m2 (.inr rfl)
  refine ⟨fun o ho => ?_, ?_⟩
  · rw [h1] at ho; simp only [Option.map_eq_some_iff] at ho; obtain ⟨a, _, rfl⟩ := ho; exact ⟨rfl, rfl⟩
  · rw [h1, h2]; cases x <;> rfl
theorem reads_load {n : Nat} {ag : Bool} {x : AVal} (h : AlikeV m2 m x) : Reads (fun m => oLoad n ag m x) m m2 := by
  cases x with
  | p v =>
    cases v with
    | pt rows i j =>
      refine Reads.map (x := (rows[i]?).bind fun row => pofCells ag n ((row.drop j).take n)) (g := .p) ?_
      intro m' _
      simp only [oLoad]
      cases rows[i]? with
      | none => rfl
      | some row => cases pofCells ag n ((row.drop j).take n) <;> rfl
    | _ => exact Reads.none fun m => rfl
  | rpt pl i j =>
    refine Reads.map (x := (match getAt m pl with | some (.own _ _ rows) => (rows[i]?).bind fun row => (refsOf pl i j ((row.drop j).take n)).bind fun cs => ofCells ag n cs | _ => none)) (g := fun v => v) ?_
    intro m' hm'
    have hg : getAt m' pl = getAt m pl := by rcases hm' with rfl | rfl; rfl; exact h.rpt
    simp only [oLoad, hg]
    cases getAt m pl with
    | none => rfl
    | some a =>
      cases a with
      | own _ _ rows =>
        simp only
        cases rows[i]? with
        | none => rfl
        | some row => simp only [Option.bind_some]; cases refsOf pl i j ((row.drop j).take n) <;> rfl
      | _ => rfl
  | _ => exact Reads.none fun m => rfl
theorem reads_iaddr {z : Nat} {x i : AVal} (h : AlikeV m2 m x) : Reads (fun m => oIaddr z m x i) m m2 := by
  unfold oIaddr
  cases hi : intOf? i with
  | none => exact Reads.none fun m => rfl
  | some n =>
    cases x with
    | p v =>
      cases v with
      | sl rows =>
        simp only
        by_cases h0 : 0 ≤ n
        · simp only [if_pos h0]
          cases rows[n.toNat]? with
          | none => exact Reads.none fun m => rfl
          | some row =>
            by_cases hz : row.length = z
            · exact Reads.some (v := .p (.pt rows n.toNat 0)) fun m => by simp [hz]
            · exact Reads.none fun m => by simp [hz]
        · simp only [if_neg h0]; exact Reads.none fun m => rfl
      | _ => exact Reads.none fun m => rfl
    | rsl pl off len =>
      refine Reads.map (x := (match getAt m pl with | some (.own false z' _) => if 0 ≤ n ∧ n < len ∧ z' = z then some () else none | _ => none)) (g := fun _ => .rpt pl (off + n.toNat) 0) ?_
      intro m' hm'
      have hg : getAt m' pl = getAt m pl := by rcases hm' with rfl | rfl; rfl; exact h.rsl
      simp only [hg]
      cases getAt m pl with
      | none => rfl
      | some a =>
        cases a with
        | own ptr z' rows =>
          cases ptr with
          | true => rfl
          | false => simp only; split <;> rfl
        | _ => rfl
    | _ => exact Reads.none fun m => rfl
theorem reads_faddr {off : Nat} {x : AVal} : Reads (fun m => oFaddr off m x) m m2 := by
  unfold oFaddr
  cases x with
  | p v => cases v <;> first | exact Reads.none fun m => rfl | exact Reads.some fun m => rfl
  | _ => first | exact Reads.none fun m => rfl | exact Reads.some fun m => rfl
theorem reads_iaddrA {z len : Nat} {x i : AVal} : Reads (fun m => oIaddrA z len m x i) m m2 := by
  unfold oIaddrA
  cases intOf? i with
  | none => exact Reads.none fun m => rfl
  | some n =>
    by_cases hc : 0 ≤ n ∧ n < len
    · simp only [if_pos hc]
      cases x with
      | p v => cases v <;> first | exact Reads.none fun m => rfl | exact Reads.some fun m => rfl
      | _ => first | exact Reads.none fun m => rfl | exact Reads.some fun m => rfl
    · simp only [if_neg hc]; exact Reads.none fun m => rfl
theorem reads_field {off n : Nat} {ag : Bool} {x : AVal} : Reads (fun m => oField off n ag m x) m m2 := by
  unfold oField
  cases x with
  | p v =>
    cases v with
    | agg cs => exact Reads.map (x := pofCells ag n ((cs.drop off).take n)) (g := .p) fun m' _ => rfl
    | _ => exact Reads.none fun m => rfl
  | agg cs => exact Reads.map (x := ofCells ag n ((cs.drop off).take n)) (g := fun v => v) fun m' _ => rfl
  | _ => exact Reads.none fun m => rfl
theorem reads_aindex {len z : Nat} {ag : Bool} {x i : AVal} : Reads (fun m => oAindex len z ag m x i) m m2 := by
  unfold oAindex
  cases intOf? i with
  | none => exact Reads.none fun m => rfl
  | some n =>
    by_cases hc : 0 ≤ n ∧ n < len
    · simp only [if_pos hc]; exact reads_field
    · simp only [if_neg hc]; exact Reads.none fun m => rfl
theorem reads_sindex {x i : AVal} : Reads (fun m => oSindex m x i) m m2 := by
  unfold oSindex
  cases intOf? i with
  | none => exact Reads.none fun m => rfl
  | some n =>
    cases x with
    | p v =>
      cases v with
      | str s =>
        by_cases h0 : 0 ≤ n
        · simp only [if_pos h0]; exact Reads.map (x := s[n.toNat]?) (g := fun b => .p (.int .u8 b.toNat)) fun m' _ => rfl
        · simp only [if_neg h0]; exact Reads.none fun m => rfl
      | _ => exact Reads.none fun m => rfl
    | _ => exact Reads.none fun m => rfl
theorem reads_un {op : UnOp} {x : AVal} : Reads (fun m => oUn op m x) m m2 := by
  unfold oUn
  cases op <;> cases x <;> first | exact Reads.none fun m => rfl | (rename_i v; cases v <;> first | exact Reads.none fun m => rfl | exact Reads.some fun m => rfl)
theorem reads_build {zero : List PVal} {parts : List (Nat × Nat × AVal)} : Reads (fun m => oBuild zero m parts) m m2 := by
  unfold oBuild
  cases fillCells (zero.map .p) parts with
  | none => exact Reads.none fun m => rfl
  | some cs =>
    by_cases hc : cs.all (·.scalar) = true
    · simp only [if_pos hc]; exact Reads.some fun m => rfl
    · simp only [if_neg hc]; exact Reads.none fun m => rfl
theorem reads_fslice {z n : Nat} {zero : List PVal} {parts : List (Nat × AVal)} : Reads (fun m => oFslice z n zero m parts) m m2 := Reads.map (g := fun ps => .p (.sl ps)) fun _ _ => rfl
theorem reads_lookup {ls : List Leaf} {zero : PVal} {ok : Bool} {x k : AVal} (h : AlikeV m2 m x) : Reads (fun m => oLookup ls zero ok m x k) m m2 := by
  refine Reads.map (x := match entriesOf m x, k with
    | some es, .p k => match keyEq ls k k, mapGet ls es k with
      | some _, some r => some r
      | _, _ => none
    | _, _ => none) (g := fun r => if ok = true then .p (.tup [Option.getD r zero, .bool r.isSome]) else .p (Option.getD r zero)) ?_
  intro m' hm'
  have he : entriesOf m' x = entriesOf m x := by rcases hm' with rfl | rfl; rfl; exact entriesOf_congr h
  simp only [oLookup, he]
  cases entriesOf m x with
  | none => rfl
  | some es =>
    cases k with
    | p k =>
      simp only
      cases keyEq ls k k with
      | none => rfl
      | some b => cases mapGet ls es k <;> rfl
    | _ => rfl
theorem reads_slc3 {x lo hi mx : AVal} (h : AlikeV m2 m x) : Reads (fun m => oSlc3 m x lo hi mx) m m2 := by
  have key : ∀ m' : Mem, (∀ pl off len, x = .rsl pl off len → getAt m' pl = getAt m pl) → oSlc3 m' x lo hi mx = (oSlc3 m x lo hi mx).map fun o => Out.at o m' := by
    intro m' hm
    unfold oSlc3
    split
    · rename_i pl off len l h k e1 e2 e3
      rw [hm pl off len rfl]
      split
      · split <;> rfl
      · rfl
    · rfl
  refine ⟨?_, key m2 fun pl off len e => by subst e; exact h.rsl⟩
  intro o ho
  simp only at ho
  have := key m (fun _ _ _ _ => rfl)
  rw [ho] at this
  simp only [Option.map_some, Option.some.injEq] at this
  unfold oSlc3 at ho
  split at ho
  · split at ho
    · split at ho
      · cases ho; exact ⟨rfl, rfl⟩
      · cases ho
    · cases ho
  · cases ho
theorem reads_extract {i : Nat} {x : AVal} : Reads (fun m => oExtract i m x) m m2 := by
  unfold oExtract
  cases x with
  | p v =>
    cases v with
    | tup vs => exact Reads.map (x := vs[i]?) (g := .p) fun m' _ => rfl
    | _ => exact Reads.none fun m => rfl
  | tup vs => exact Reads.map (x := vs[i]?) (g := fun v => v) fun m' _ => rfl
  | _ => exact Reads.none fun m => rfl
theorem reads_len {k : LenK} {x : AVal} (h : AlikeV m2 m x) : Reads (fun m => oLen k m x) m m2 := by
  unfold oLen
  cases k with
  | arr n => exact Reads.some fun m => rfl
  | str => cases x <;> first | exact Reads.none fun m => rfl | (rename_i v; cases v <;> first | exact Reads.none fun m => rfl | exact Reads.some fun m => rfl)
  | sl =>
    cases x with
    | p v => cases v <;> first | exact Reads.none fun m => rfl | exact Reads.some fun m => rfl
    | _ => first | exact Reads.none fun m => rfl | exact Reads.some fun m => rfl
  | mp =>
    cases x with
    | p v => cases v <;> first | exact Reads.none fun m => rfl | exact Reads.some fun m => rfl
    | rmp pl =>
      refine Reads.map (x := match getAt m pl with | some (.omap es) => some es.length | some (.smap n) => some n | _ => none) (g := fun n => .p (.int .i64 n)) ?_
      intro m' hm'
      have hg : getAt m' pl = getAt m pl := by rcases hm' with rfl | rfl; rfl; exact h.rmp
      simp only [hg]
      cases getAt m pl with
      | none => rfl
      | some a => cases a <;> rfl
    | _ => exact Reads.none fun m => rfl
theorem reads_slice {z : Nat} {x : AVal} {lo hi : Option Int} (h : AlikeV m2 m x) : Reads (fun m => oSlice z m x lo hi) m m2 := by
  cases x with
  | p v =>
    cases v with
    | nilslice =>
      simp only [oSlice]
      split
      · exact Reads.some fun m => rfl
      · exact Reads.none fun m => rfl
    | sl rows =>
      simp only [oSlice]
      split
      · exact Reads.some fun m => rfl
      · exact Reads.none fun m => rfl
    | _ => exact Reads.none fun m => rfl
  | rsl pl off len =>
    refine Reads.map (x := match getAt m pl with | some (.own false z' _) => (if 0 ≤ lo.getD 0 ∧ lo.getD 0 ≤ hi.getD len ∧ hi.getD len ≤ len ∧ z' = z then some () else none) | _ => none)
      (g := fun _ => .rsl pl (off + (lo.getD 0).toNat) ((hi.getD len).toNat - (lo.getD 0).toNat)) ?_
    intro m' hm'
    have hg : getAt m' pl = getAt m pl := by rcases hm' with rfl | rfl; rfl; exact h.rsl
    simp only [oSlice, hg]
    cases getAt m pl with
    | none => rfl
    | some a =>
      cases a with
      | own ptr z' rows =>
        cases ptr with
        | true => rfl
        | false => simp only; split <;> rfl
      | _ => rfl
  | _ => exact Reads.none fun m => rfl
theorem reads_ssl {x : AVal} {lo hi : Option Int} : Reads (fun m => oSsl m x lo hi) m m2 := by
  cases x with
  | p v =>
    cases v with
    | str s =>
      simp only [oSsl]
      split
      · exact Reads.some fun m => rfl
      · exact Reads.none fun m => rfl
    | _ => exact Reads.none fun m => rfl
  | _ => exact Reads.none fun m => rfl
theorem reads_pick {c a b : AVal} : Reads (fun m => oPick m c a b) m m2 := by
  unfold oPick
  cases c <;> first | exact Reads.none fun m => rfl | (rename_i v; cases v <;> first | exact Reads.none fun m => rfl | exact Reads.some fun m => rfl)
theorem reads_conv {k : Option IntKind} {x : AVal} : Reads (fun m => oConv k m x) m m2 := by
  unfold oConv
  cases k <;> cases x <;> first | exact Reads.none fun m => rfl | (rename_i v; cases v <;> first | exact Reads.none fun m => rfl | exact Reads.some fun m => rfl)
theorem reads_nilchk {x : AVal} : Reads (fun m => oNilchk m x) m m2 := by
  unfold oNilchk
  cases x <;> first | exact Reads.none fun m => rfl | exact Reads.some fun m => rfl | (rename_i v; cases v <;> first | exact Reads.none fun m => rfl | exact Reads.some fun m => rfl)
theorem reads_minmax {mx : Bool} {xs : List AVal} : Reads (fun m => oMinmax mx m xs) m m2 := by
  unfold oMinmax
  cases xs with
  | nil => exact Reads.none fun m => rfl
  | cons x r =>
    cases x with
    | p v =>
      cases v with
      | int k n => exact Reads.map (x := mm mx k n r) (g := fun n => .p (.int k n)) fun m' _ => rfl
      | _ => exact Reads.none fun m => rfl
    | _ => exact Reads.none fun m => rfl
end
/-- Two memories, alike at the sites 'T', are changed alike, and only there. -/
structure Both (T : Nat → Bool) (m m2 m' m2' : Mem) : Prop where
  like : ∀ s, T s = true → lk m2' s = lk m' s
  off : ∀ s, T s = false → lk m' s = lk m s
  off2 : ∀ s, T s = false → lk m2' s = lk m2 s
def Alike (T : Nat → Bool) (m m2 : Mem) : Prop := ∀ s, T s = true → lk m2 s = lk m s
def Within (T : Nat → Bool) (v : AVal) : Prop := ∀ s, v.ment (fun pl => pl.s == s) = true → T s = true
section
variable {T : Nat → Bool} {m m2 : Mem}
theorem Both.refl (h : Alike T m m2) : Both T m m2 m m2 := ⟨h, fun _ _ => rfl, fun _ _ => rfl⟩
theorem Both.trans {m' m2' m'' m2'' : Mem} (h : Both T m m2 m' m2') (h' : Both T m' m2' m'' m2'') : Both T m m2 m'' m2'' :=
  ⟨h'.like, fun s hs => (h'.off s hs).trans (h.off s hs), fun s hs => (h'.off2 s hs).trans (h.off2 s hs)⟩
theorem Both.set (h : Alike T m m2) (pl : Place) (hp : T pl.s = true) (a : AVal) : Both T m m2 (setAt m pl a) (setAt m2 pl a) := by
  refine ⟨fun s hs => ?_, fun s hs => ?_, fun s hs => ?_⟩
  · rw [lk_setAt, lk_setAt, h s hs]
  · rw [lk_setAt, if_neg (fun e => by subst e; simp [hp] at hs)]
  · rw [lk_setAt, if_neg (fun e => by subst e; simp [hp] at hs)]
theorem Both.cons (h : Alike T m m2) (d : Nat) (hd : T d = true) (x : List AVal) : Both T m m2 ((d, x) :: m) ((d, x) :: m2) := by
  refine ⟨fun s hs => ?_, fun s hs => ?_, fun s hs => ?_⟩
  · simp only [lk]; split <;> first | rfl | exact h s hs
  · simp only [lk]; rw [if_neg (fun e => by subst e; simp [hd] at hs)]
  · simp only [lk]; rw [if_neg (fun e => by subst e; simp [hd] at hs)]
theorem Within.alike {v : AVal} (h : Within T v) (ha : Alike T m m2) : AlikeV m2 m v := fun s hs => ha s (h s hs)
theorem Within.rsl {pl : Place} {off len : Nat} (h : Within T (.rsl pl off len)) : T pl.s = true := h pl.s (by simp [AVal.ment])
theorem Within.rpt {pl : Place} {i j : Nat} (h : Within T (.rpt pl i j)) : T pl.s = true := h pl.s (by simp [AVal.ment])
theorem Within.rmp {pl : Place} (h : Within T (.rmp pl)) : T pl.s = true := h pl.s (by simp [AVal.ment])
theorem moveable_local {v : AVal} (h : Within T v) (ha : Alike T m m2) : moveable m2 v = moveable m v := by
  have h' := h.alike ha
  unfold moveable
  split
  · rw [h'.rsl]
  · rw [h'.rpt]
  · rw [h'.rmp]
  · rfl
theorem moveable_site {v : AVal} (h : Within T v) {q : Place} {a : AVal} (hm : moveable m v = some (q, a)) : T q.s = true := by
  unfold moveable at hm
  split at hm
  · split at hm
    · split at hm
      · cases hm; exact h.rsl
      · cases hm
    · cases hm
  · split at hm
    · cases hm; exact h.rpt
    · cases hm
  · split at hm
    · cases hm; exact h.rmp
    · cases hm
  · cases hm
theorem putCell_local {pl : Place} (hp : T pl.s = true) {v : AVal} (h : Within T v) (ha : Alike T m m2) {m' : Mem} (hm : putCell m pl v = some m') :
    ∃ m2', putCell m2 pl v = some m2' ∧ Both T m m2 m' m2' := by
  by_cases hv : ∃ x, v = .p x
  · obtain ⟨x, rfl⟩ := hv
    simp only [putCell] at hm ⊢
    split at hm
    · rename_i hs
      cases hm
      exact ⟨_, by rw [if_pos hs], Both.set ha pl hp _⟩
    · cases hm
  · have e : ∀ m, putCell m pl v = (moveable m v).bind fun qa => if qa.1.s = pl.s then none else some (setAt (setAt m qa.1 .dead) pl qa.2) := by
      intro m
      cases v <;> first | rfl | exact absurd ⟨_, rfl⟩ hv
    rw [e] at hm ⊢
    rw [moveable_local h ha]
    cases hq : moveable m v with
    | none => simp [hq] at hm
    | some qa =>
      obtain ⟨q, a⟩ := qa
      simp only [hq, Option.bind_some] at hm ⊢
      split at hm
      · cases hm
      · rename_i hne
        cases hm
        have hqs := moveable_site h hq
        have b1 := Both.set ha q hqs .dead
        exact ⟨_, by rw [if_neg hne], b1.trans (Both.set b1.like pl hp a)⟩
theorem putCells_local {pl : Place} (hp : T pl.s = true) {i : Nat} : ∀ (vs : List AVal) (j : Nat) (m m2 m' : Mem), (∀ v ∈ vs, Within T v) → Alike T m m2 → putCells m pl i j vs = some m' →
    ∃ m2', putCells m2 pl i j vs = some m2' ∧ Both T m m2 m' m2' := by
  intro vs
  induction vs with
  | nil => intro j m m2 m' _ ha h; simp only [putCells, Option.some.injEq] at h; subst h; exact ⟨m2, rfl, Both.refl ha⟩
  | cons v vs ih =>
    intro j m m2 m' hv ha h
    simp only [putCells, Option.bind_eq_some_iff] at h
    obtain ⟨m1, h1, h2⟩ := h
    obtain ⟨m3, g1, g2⟩ := putCell_local (pl := pl.ext i j) hp (hv v (by simp)) ha h1
    obtain ⟨m4, g3, g4⟩ := ih (j + 1) m1 m3 m' (fun u hu => hv u (List.mem_cons_of_mem _ hu)) g2.like h2
    exact ⟨m4, by simp [putCells, g1, g3], g2.trans g4⟩
theorem fillRows_local {pl : Place} (hp : T pl.s = true) : ∀ (rows : List (List AVal)) (i : Nat) (m m2 m' : Mem), (∀ r ∈ rows, ∀ v ∈ r, Within T v) → Alike T m m2 → fillRows m pl i rows = some m' →
    ∃ m2', fillRows m2 pl i rows = some m2' ∧ Both T m m2 m' m2' := by
  intro rows
  induction rows with
  | nil => intro i m m2 m' _ ha h; simp only [fillRows, Option.some.injEq] at h; subst h; exact ⟨m2, rfl, Both.refl ha⟩
  | cons r rows ih =>
    intro i m m2 m' hv ha h
    simp only [fillRows, Option.bind_eq_some_iff] at h
    obtain ⟨m1, h1, h2⟩ := h
    obtain ⟨m3, g1, g2⟩ := putCells_local hp r 0 m m2 m1 (hv r (by simp)) ha h1
    obtain ⟨m4, g3, g4⟩ := ih (i + 1) m1 m3 m' (fun u hu => hv u (List.mem_cons_of_mem _ hu)) g2.like h2
    exact ⟨m4, by simp [fillRows, g1, g3], g2.trans g4⟩
theorem newRoot_local {d : Nat} (hd : T d = true) {ptr : Bool} {z : Nat} {rows : List (List AVal)} (hv : ∀ r ∈ rows, ∀ v ∈ r, Within T v) (ha : Alike T m m2) {m' : Mem} (h : newRoot m d ptr z rows = some m') :
    ∃ m2', newRoot m2 d ptr z rows = some m2' ∧ Both T m m2 m' m2' := by
  unfold newRoot at h ⊢
  split at h
  · cases h
  · rename_i h1
    rw [if_neg h1]
    split at h
    · rename_i h2
      cases h
      exact ⟨_, by rw [if_pos h2], Both.cons ha d hd _⟩
    · rename_i h2
      rw [if_neg h2]
      have b := Both.cons ha d hd [.own ptr z (deadRows rows)]
      obtain ⟨m4, g1, g2⟩ := fillRows_local (pl := ⟨d, 0, []⟩) hd rows 0 _ _ m' hv b.like h
      exact ⟨m4, g1, b.trans g2⟩
end
end Go.Proofs.Ytnmnijgoggombaa.X
/- Locality of the operations that write; of all operations. -/
namespace Go.Proofs.Ytnmnijgoggombaa.X
open Go.RowKit
section
variable {T : Nat → Bool} {m m2 : Mem}
theorem pure_within (x : PVal) : Within T (.p x) := fun s h => by simp [AVal.ment] at h
theorem cells_within {v : AVal} (h : Within T v) : ∀ c ∈ v.cells, Within T c := by
  intro c hc
  cases v with
  | p x =>
    simp only [AVal.cells, List.mem_map] at hc
    obtain ⟨y, _, rfl⟩ := hc
    exact pure_within y
  | agg cs =>
    intro s hs
    refine h s ?_
    simp only [AVal.ment]
    have : ∀ l : List AVal, c ∈ l → AVal.mentL (fun pl => pl.s == s) l = true := by
      intro l
      induction l with
      | nil => simp
      | cons a l ih =>
        intro hm
        simp only [AVal.mentL, Bool.or_eq_true]
        rcases List.mem_cons.1 hm with rfl | hm
        · exact .inl hs
        · exact .inr (ih hm)
    exact this cs hc
  | tup cs => simp only [AVal.cells, List.mem_singleton] at hc; subst hc; exact h
  | own _ _ _ => simp only [AVal.cells, List.mem_singleton] at hc; subst hc; exact h
  | omap _ => simp only [AVal.cells, List.mem_singleton] at hc; subst hc; exact h
  | rsl _ _ _ => simp only [AVal.cells, List.mem_singleton] at hc; subst hc; exact h
  | rpt _ _ _ => simp only [AVal.cells, List.mem_singleton] at hc; subst hc; exact h
  | rmp _ => simp only [AVal.cells, List.mem_singleton] at hc; subst hc; exact h
  | dead => simp only [AVal.cells, List.mem_singleton] at hc; subst hc; exact h
  | unk => simp only [AVal.cells, List.mem_singleton] at hc; subst hc; exact h
  | siter _ _ => simp only [AVal.cells, List.mem_singleton] at hc; subst hc; exact h
  | smap _ => simp only [AVal.cells, List.mem_singleton] at hc; subst hc; exact h
  | miter _ _ _ => simp only [AVal.cells, List.mem_singleton] at hc; subst hc; exact h
  | rit _ _ _ => simp only [AVal.cells, List.mem_singleton] at hc; subst hc; exact h
/-- What an operation does, it does in a memory that is alike. -/
def Loc2 (T : Nat → Bool) (m m2 : Mem) (f : Mem → Option Out) : Prop :=
  ∀ o, f m = some o → ∃ m2', f m2 = some (Out.at o m2') ∧ Both T m m2 o.2.1 m2' ∧ ∀ pl, o.2.2.fn pl = true → T pl.s = true
theorem Reads.loc {f : Mem → Option Out} (h : Reads f m m2) (ha : Alike T m m2) : Loc2 T m m2 f := by
  intro o ho
  obtain ⟨h1, h2⟩ := h
  obtain ⟨e1, e2⟩ := h1 o ho
  refine ⟨m2, by rw [h2, ho]; rfl, by rw [e1]; exact Both.refl ha, ?_⟩
  rw [e2]
  intro pl h
  cases h
theorem loc_store {n : Nat} {x v : AVal} (hx : Within T x) (hv : Within T v) (ha : Alike T m m2) : Loc2 T m m2 (fun m => oStore n m x v) := by
  intro o ho
  simp only [oStore] at ho ⊢
  split at ho
  · rename_i pl i j
    rw [(hx.alike ha).rpt]
    split at ho
    · rename_i ptr z rows hget
      split at ho
      · rename_i hc
        try simp only [hget]
        rw [if_pos hc]
        split at ho
        · rename_i hp
          cases ho
          exact ⟨_, by rw [if_pos hp]; rfl, Both.set ha pl hx.rpt _, fun q h => by cases h⟩
        · rename_i hp
          simp only [Option.map_eq_some_iff] at ho
          obtain ⟨m', h1, rfl⟩ := ho
          obtain ⟨m2', g1, g2⟩ := putCells_local hx.rpt _ j m m2 m' (cells_within hv) ha h1
          refine ⟨m2', by rw [if_neg hp, g1]; rfl, g2, ?_⟩
          intro q hq
          simp only [Kill.fn, atOrUnder, Bool.and_eq_true, beq_iff_eq] at hq
          rw [hq.1.1]
          exact hx.rpt
      · cases ho
    · cases ho
  · cases ho
theorem loc_box {d : Nat} {v : AVal} (hd : T d = true) (hv : Within T v) (ha : Alike T m m2) :
    Loc2 T m m2 (fun m => (newRoot m d true v.cells.length [v.cells]).map fun m' => (.rpt ⟨d, 0, []⟩ 0 0, m', .site d)) := by
  intro o ho
  simp only [Option.map_eq_some_iff] at ho
  obtain ⟨m', h1, rfl⟩ := ho
  obtain ⟨m2', g1, g2⟩ := newRoot_local hd (by simpa using cells_within hv) ha h1
  refine ⟨m2', by simp only [g1]; rfl, g2, ?_⟩
  intro q hq
  simp only [Kill.fn, beq_iff_eq] at hq
  rw [hq]; exact hd
theorem putParts_within {z : Nat} : ∀ (parts : List (Nat × AVal)) (rows rows' : List (List AVal)), (∀ r ∈ rows, ∀ v ∈ r, Within T v) → (∀ x ∈ parts, Within T x.2) → putParts rows z parts = some rows' →
    ∀ r ∈ rows', ∀ v ∈ r, Within T v := by
  intro parts
  induction parts with
  | nil => intro rows rows' h _ e; simp only [putParts, Option.some.injEq] at e; subst e; exact h
  | cons x parts ih =>
    intro rows rows' h hx e
    simp only [putParts] at e
    split at e
    · refine ih _ rows' ?_ (fun y hy => hx y (List.mem_cons_of_mem _ hy)) e
      intro r hr v hv
      rcases List.mem_or_eq_of_mem_set hr with h1 | rfl
      · exact h r h1 v hv
      · exact cells_within (hx x (by simp)) v hv
    · cases e
theorem loc_bslice {d z n : Nat} {zero : List PVal} {parts : List (Nat × AVal)} (hd : T d = true) (hv : ∀ x ∈ parts, Within T x.2) (ha : Alike T m m2) :
    Loc2 T m m2 (fun m => oBslice d z n zero m parts) := by
  intro o ho
  simp only [oBslice] at ho ⊢
  split at ho
  · rename_i rows hrows
    split at ho
    · rename_i hc
      simp only [Option.map_eq_some_iff] at ho
      obtain ⟨m', h1, rfl⟩ := ho
      have hw := putParts_within parts _ rows (fun r hr v hv => by
        rw [List.mem_replicate] at hr
        obtain ⟨_, rfl⟩ := hr
        obtain ⟨y, _, rfl⟩ := List.mem_map.1 hv
        exact pure_within y) hv hrows
      obtain ⟨m2', g1, g2⟩ := newRoot_local hd hw ha h1
      refine ⟨m2', by (try simp only [hrows]); rw [if_pos hc, g1]; rfl, g2, ?_⟩
      intro q hq
      simp only [Kill.fn, beq_iff_eq] at hq
      rw [hq]; exact hd
    · cases ho
  · cases ho
theorem loc_cons {d : Nat} {v : AVal} {x : List AVal} {c : Prop} [Decidable c] (hd : T d = true) (ha : Alike T m m2) : Loc2 T m m2 (fun m => if c then some (v, (d, x) :: m, .site d) else none) := by
  intro o ho
  simp only at ho ⊢
  split at ho
  · rename_i hc
    cases ho
    refine ⟨_, by rw [if_pos hc]; rfl, Both.cons ha d hd x, ?_⟩
    intro q hq
    simp only [Kill.fn, beq_iff_eq] at hq
    rw [hq]; exact hd
  · cases ho
theorem loc_mkslice {d z bytes : Nat} {zero : List PVal} {l c : AVal} (hd : T d = true) (ha : Alike T m m2) : Loc2 T m m2 (fun m => oMkslice d z bytes zero m l c) := by
  unfold oMkslice
  cases intOf? l with
  | none => intro o ho; simp at ho
  | some l =>
    cases intOf? c with
    | none => intro o ho; simp at ho
    | some c => exact loc_cons hd ha
theorem loc_mapset {ls : List Leaf} {x k v : AVal} (hx : Within T x) (ha : Alike T m m2) : Loc2 T m m2 (fun m => oMapset ls m x k v) := by
  intro o ho
  simp only [oMapset] at ho ⊢
  split at ho
  · rename_i pl k' v'
    rw [(hx.alike ha).rmp]
    split at ho
    · rename_i r0 es hk hget
      simp only [Option.map_eq_some_iff] at ho
      obtain ⟨es', h1, rfl⟩ := ho
      refine ⟨_, by (try simp only [hk, hget]); simp only [h1]; rfl, Both.set ha pl hx.rmp _, ?_⟩
      intro q hq; cases hq
    · cases ho
  · cases ho
theorem loc_srange {d : Nat} {x : AVal} (hd : T d = true) (ha : Alike T m m2) : Loc2 T m m2 (fun m => oSrange d m x) := by
  intro o ho
  simp only [oSrange] at ho ⊢
  split at ho
  · cases ho
    refine ⟨_, rfl, Both.cons ha d hd _, ?_⟩
    intro q hq
    simp only [Kill.fn, beq_iff_eq] at hq
    rw [hq]; exact hd
  · cases ho
theorem loc_snext {x : AVal} (hx : Within T x) (ha : Alike T m m2) : Loc2 T m m2 (fun m => oSnext m x) := by
  intro o ho
  simp only [oSnext] at ho ⊢
  split at ho
  · rename_i pl
    try simp only
    rw [(hx.alike ha).rpt]
    split at ho
    · rename_i s pos hget
      try simp only [hget]
      split at ho
      · rename_i hp
        cases ho
        refine ⟨_, by rw [if_pos hp]; rfl, Both.set ha pl hx.rpt _, ?_⟩
        intro q hq; cases hq
      · rename_i hp
        cases ho
        exact ⟨m2, by rw [if_neg hp]; rfl, Both.refl ha, fun q hq => by cases hq⟩
    · cases ho
  · cases ho
theorem loc_mentry {ls : List Leaf} {zero : PVal} {x k : AVal} (hx : Within T x) (ha : Alike T m m2) : Loc2 T m m2 (fun m => oMentry ls zero m x k) := by
  intro o ho
  simp only [oMentry] at ho ⊢
  split at ho
  · rename_i pl k'
    try simp only
    rw [(hx.alike ha).rmp]
    split at ho
    · rename_i r0 es hk hget
      split at ho
      · rename_i n hn
        split at ho
        · rename_i es' hput
          cases ho
          refine ⟨_, by first | rfl | (simp only [hk, hget, hn, hput]; rfl), Both.set ha pl hx.rmp _, ?_⟩
          intro q hq; cases hq
        · cases ho
      · cases ho
    · cases ho
  · cases ho
theorem loc_mestore {x s v : AVal} (hx : Within T x) (ha : Alike T m m2) : Loc2 T m m2 (fun m => oMestore m x s v) := by
  intro o ho
  simp only [oMestore] at ho ⊢
  split at ho
  · rename_i pl kk n v'
    try simp only
    rw [(hx.alike ha).rmp]
    split at ho
    · rename_i es hget
      split at ho
      · rename_i hc
        cases ho
        refine ⟨_, by (try simp only [hget]); rw [if_pos hc]; rfl, Both.set ha pl hx.rmp _, ?_⟩
        intro q hq; cases hq
      · cases ho
    · cases ho
  · cases ho
theorem loc_appz {d z bytes : Nat} {zero : List PVal} {s n : AVal} (hd : T d = true) (ha : Alike T m m2) : Loc2 T m m2 (fun m => oAppz d z bytes zero m s n) := by
  unfold oAppz
  split
  · exact loc_cons hd ha
  · intro o ho; simp at ho
theorem loc_appin {z : Nat} {s x : AVal} (hs : Within T s) (hx : Within T x) (ha : Alike T m m2) : Loc2 T m m2 (fun m => oAppin z m s x) := by
  intro o ho
  simp only [oAppin] at ho ⊢
  split at ho
  · rename_i pl off len
    try simp only
    rw [(hs.alike ha).rsl, rowsOf_congr (hx.alike ha)]
    split at ho
    · rename_i z' rows news hget hnews
      split at ho
      · rename_i hc
        cases ho
        refine ⟨_, by (try simp only [hget, hnews]); rw [if_pos hc]; rfl, Both.set ha pl hs.rsl _, ?_⟩
        intro q hq; cases hq
      · cases ho
    · cases ho
  · cases ho
theorem reads_cap {x : AVal} : Reads (fun m => oCap m x) m m2 := by
  unfold oCap
  cases x with
  | p v => cases v <;> first | exact Reads.none fun m => rfl | exact Reads.some fun m => rfl
  | _ => exact Reads.none fun m => rfl
theorem loc_slc3 {x lo hi mx : AVal} (hx : Within T x) (ha : Alike T m m2) : Loc2 T m m2 (fun m => oSlc3 m x lo hi mx) := by
  intro o ho
  simp only [oSlc3] at ho ⊢
  split at ho
  · rename_i pl off len l h k e1 e2 e3
    try simp only
    rw [(hx.alike ha).rsl]
    split at ho
    · rename_i z rows hget
      split at ho
      · rename_i hc
        cases ho
        exact ⟨m2, by (try simp only [e1, e2, e3, hget]); rw [if_pos hc]; rfl, Both.refl ha, fun q hq => by cases hq⟩
      · cases ho
    · cases ho
  · cases ho
theorem loc_copy {z : Nat} {x s : AVal} (hx : Within T x) (hs : Within T s) (ha : Alike T m m2) : Loc2 T m m2 (fun m => oCopy z m x s) := by
  intro o ho
  simp only [oCopy] at ho ⊢
  rw [rowsOf_congr (hs.alike ha)]
  split at ho
  · cases ho
  · rename_i src hsrc
    try simp only [hsrc]
    split at ho
    · rename_i pl off len
      try simp only
      rw [(hx.alike ha).rsl]
      split at ho
      · rename_i z' rows hget
        split at ho
        · rename_i hc
          cases ho
          refine ⟨_, by (try simp only [hget]); rw [if_pos hc]; rfl, Both.set ha pl hx.rsl _, ?_⟩
          intro q hq; cases hq
        · cases ho
      · cases ho
    · cases ho
      exact ⟨m2, rfl, Both.refl ha, fun q hq => by cases hq⟩
    · cases ho
theorem loc_clear {z : Nat} {zero : List PVal} {x : AVal} (hx : Within T x) (ha : Alike T m m2) : Loc2 T m m2 (fun m => oClear z zero m x) := by
  intro o ho
  simp only [oClear] at ho ⊢
  split at ho
  · rename_i pl off len
    try simp only
    rw [(hx.alike ha).rsl]
    split at ho
    · rename_i z' rows hget
      split at ho
      · rename_i hc
        cases ho
        refine ⟨_, by (try simp only [hget]); rw [if_pos hc]; rfl, Both.set ha pl hx.rsl _, ?_⟩
        intro q hq; cases hq
      · cases ho
    · cases ho
  · cases ho
    exact ⟨m2, rfl, Both.refl ha, fun q hq => by cases hq⟩
  · cases ho
theorem appOld_local {z : Nat} {s : AVal} (hs : Within T s) (ha : Alike T m m2) : appOld z m2 s = appOld z m s := by
  unfold appOld
  split
  · rfl
  · rw [(hs.alike ha).rsl]
  · rfl
theorem appNew_local {z : Nat} {s : AVal} (hs : Within T s) (ha : Alike T m m2) : appNew z m2 s = appNew z m s := by
  unfold appNew
  rw [rowsOf_congr (hs.alike ha)]
  cases rowsOf m s with
  | some news => rfl
  | none =>
    simp only
    split
    · rw [(hs.alike ha).rsl]
    · rfl
theorem appOld_site {z : Nat} {s : AVal} (hs : Within T s) {olds : List (List AVal)} {vac : Option Place} {off : Nat} (h : appOld z m s = some (olds, vac, off)) : ∀ pl, vac = some pl → T pl.s = true := by
  unfold appOld at h
  split at h
  · cases h; intro pl e; cases e
  · split at h
    · split at h
      · cases h; intro pl e; cases e; exact hs.rsl
      · cases h
    · cases h
  · cases h
theorem appNew_site {z : Nat} {s : AVal} (hs : Within T s) {news : List (List AVal)} {vac : Option Place} (h : appNew z m s = some (news, vac)) : ∀ pl, vac = some pl → T pl.s = true := by
  unfold appNew at h
  split at h
  · split at h
    · cases h; intro pl e; cases e
    · cases h
  · split at h
    · split at h
      · split at h
        · cases h; intro pl e; cases e; exact hs.rsl
        · cases h
      · cases h
    · cases h
theorem vacate_local {vac : Option Place} (hv : ∀ pl, vac = some pl → T pl.s = true) (ha : Alike T m m2) : Both T m m2 (vacateO m vac) (vacateO m2 vac) := by
  cases vac with
  | none => exact Both.refl ha
  | some pl => exact Both.set ha pl (hv pl rfl) _
theorem loc_append {d z bytes : Nat} {s x : AVal} (hd : T d = true) (hs : Within T s) (hx : Within T x) (ha : Alike T m m2) : Loc2 T m m2 (fun m => oAppend d z bytes m s x) := by
  intro o ho
  simp only [oAppend] at ho ⊢
  rw [appOld_local hs ha, appNew_local hx ha]
  split at ho
  · rename_i olds vac off news vac' h1 h2
    try simp only [h1, h2]
    split at ho
    · rename_i hc
      rw [if_pos hc]
      split at ho
      · rename_i h0
        cases ho
        exact ⟨m2, by rw [if_pos h0]; rfl, Both.refl ha, fun q hq => by cases hq⟩
      · rename_i h0
        cases ho
        have b1 := vacate_local (appOld_site hs h1) ha
        have b2 := vacate_local (appNew_site hx h2) b1.like
        refine ⟨_, by rw [if_neg h0]; rfl, (b1.trans b2).trans (Both.cons b2.like d hd _), ?_⟩
        intro q hq
        simp only [Kill.fn, beq_iff_eq] at hq
        rw [hq]; exact hd
    · cases ho
  · cases ho
end
section
variable {T : Nat → Bool} {m m2 : Mem} {e e2 : Env}
theorem loc_frzR {d : Nat} {f : Mem → Option Out} (hd : T d = true) (h : Loc2 T m m2 f) : Loc2 T m m2 (fun m => oFrzR d (f m)) := by
  intro out ho
  simp only at ho ⊢
  cases hf : f m with
  | none => rw [hf] at ho; cases ho
  | some o =>
    rw [hf] at ho
    obtain ⟨m2', h1, h2, h3⟩ := h o hf
    rw [h1]
    unfold oFrzR at ho
    split at ho
    · rename_i pl off len m' k he
      cases he
      split at ho
      · rename_i z rows hget
        split at ho
        · rename_i hc
          split at ho
          · rename_i prs hprs
            cases ho
            have hT : T pl.s = true := by rw [hc.2.2]; exact hd
            have hg2 : getAt m2' pl = some (.own false z rows) := by rw [← hget]; unfold getAt; rw [h2.like pl.s hT]
            refine ⟨setAt m2' pl (.p (.sl prs)), ?_, ?_, h3⟩
            · simp only [oFrzR, Out.at, hg2]
              rw [if_pos hc]
              simp only [hprs]
            · refine ⟨?_, ?_, ?_⟩
              · intro s hs
                simp only [lk_setAt, h2.like s hs]
              · intro s hs
                have hne : s ≠ pl.s := fun e => by rw [e, hT] at hs; cases hs
                simp only [lk_setAt, hne, if_false]
                exact h2.off s hs
              · intro s hs
                have hne : s ≠ pl.s := fun e => by rw [e, hT] at hs; cases hs
                simp only [lk_setAt, hne, if_false]
                exact h2.off2 s hs
          · cases ho
        · cases ho
      · cases ho
    · rename_i v m' k he
      cases he
      cases ho
      exact ⟨m2', rfl, h2, h3⟩
    · cases ho
theorem evAs_mem : ∀ {xs : List Arg} {vs : List AVal}, evAs e xs = some vs → ∀ v ∈ vs, ∃ x ∈ xs, evA e x = some v := by
  intro xs
  induction xs with
  | nil => intro vs h v hv; simp [evAs] at h; subst h; simp at hv
  | cons x xs ih =>
    intro vs h v hv
    simp only [evAs, Option.bind_eq_some_iff, Option.map_eq_some_iff] at h
    obtain ⟨u, h1, us, h2, rfl⟩ := h
    rcases List.mem_cons.1 hv with rfl | hv
    · exact ⟨x, by simp, h1⟩
    · obtain ⟨y, hy, he⟩ := ih h2 v hv
      exact ⟨y, List.mem_cons_of_mem _ hy, he⟩
theorem evAs_congr {xs : List Arg} (h : ∀ x ∈ xs, evA e2 x = evA e x) : evAs e2 xs = evAs e xs := by
  induction xs with
  | nil => rfl
  | cons x xs ih => simp only [evAs, h x (by simp), ih (fun y hy => h y (List.mem_cons_of_mem _ hy))]
theorem evB_congr {x : Option Arg} (h : ∀ y ∈ x.toList, evA e2 y = evA e y) (f : Option Int → Option Out) : evB e2 x f = evB e x f := by
  cases x with
  | none => rfl
  | some a => simp only [evB, h a (by simp)]
/-- Only the slots that an operation reads. -/
theorem aOp_env {r : ROp} {d : Nat} (h : ∀ x ∈ opArgs r, evA e2 x = evA e x) : aOp r d e2 m = aOp r d e m := by
  cases r with
  | iaddr z a x i => cases a <;> (simp only [opArgs, List.mem_cons, List.not_mem_nil, or_false, forall_eq_or_imp, forall_eq] at h; simp only [aOp, ev1, ev2, h])
  | build zero parts => have : evAs e2 (parts.map fun x => x.2.2) = evAs e (parts.map fun x => x.2.2) := evAs_congr h; simp only [aOp, evs, this]
  | fslice z n zero parts => have : evAs e2 (parts.map fun x => x.2) = evAs e (parts.map fun x => x.2) := evAs_congr h; simp only [aOp, evs, this]
  | bslice z n zero parts => have : evAs e2 (parts.map fun x => x.2) = evAs e (parts.map fun x => x.2) := evAs_congr h; simp only [aOp, evs, this]
  | fn f fst caps =>
    have h1 : evAs e2 fst = evAs e fst := evAs_congr fun x hx => h x (by simp [opArgs, hx])
    have h2 : evAs e2 caps = evAs e caps := evAs_congr fun x hx => h x (by simp [opArgs, hx])
    simp only [aOp, evs, h1, h2]
  | minmax mx xs => have := evAs_congr (xs := xs) h; simp only [aOp, evs, this]
  | slc z x lo hi =>
    simp only [opArgs, List.mem_cons, List.mem_append, forall_eq_or_imp] at h
    simp only [aOp, ev1, h.1]
    cases evA e x with
    | none => rfl
    | some v => simp only [evB_congr (fun y hy => h.2 y (.inl hy)), evB_congr (fun y hy => h.2 y (.inr hy))]
  | ssl x lo hi =>
    simp only [opArgs, List.mem_cons, List.mem_append, forall_eq_or_imp] at h
    simp only [aOp, ev1, h.1]
    cases evA e x with
    | none => rfl
    | some v => simp only [evB_congr (fun y hy => h.2 y (.inl hy)), evB_congr (fun y hy => h.2 y (.inr hy))]
  | _ =>
    simp only [opArgs, List.mem_cons, List.not_mem_nil, or_false, forall_eq_or_imp, forall_eq] at h
    simp only [aOp, ev1, ev2, ev3, h]
theorem loc_ev1 {x : Arg} {f : Mem → AVal → Option Out} (h : ∀ v, evA e x = some v → Loc2 T m m2 (fun m => f m v)) : Loc2 T m m2 (fun m => ev1 e x (f m)) := by
  unfold ev1
  cases hx : evA e x with
  | none => intro o ho; cases ho
  | some v => exact h v hx
theorem loc_evs {xs : List Arg} {f : Mem → List AVal → Option Out} (h : ∀ vs, evAs e xs = some vs → Loc2 T m m2 (fun m => f m vs)) : Loc2 T m m2 (fun m => evs e xs (f m)) := by
  unfold evs
  cases hx : evAs e xs with
  | none => intro o ho; cases ho
  | some v => exact h v hx
theorem loc_evB {x : Option Arg} {f : Mem → Option Int → Option Out} (h : ∀ n, Loc2 T m m2 (fun m => f m n)) : Loc2 T m m2 (fun m => evB e x (f m)) := by
  unfold evB
  cases x with
  | none => exact h none
  | some a =>
    show Loc2 T m m2 (fun m => match evA e a with | some v => (match intOf? v with | some n => f m (some n) | none => none) | none => none)
    cases evA e a with
    | none => intro o ho; cases ho
    | some v =>
      simp only
      cases intOf? v with
      | none => intro o ho; cases ho
      | some n => exact h _
theorem loc_pure {x : Option AVal} (ha : Alike T m m2) : Loc2 T m m2 (fun m => x.map fun v => (v, m, .no)) :=
  Reads.loc (Reads.map (x := x) (g := fun v => v) fun _ _ => rfl) ha
/-- EVERY OPERATION IS LOCAL. -/
theorem aOp_local {r : ROp} {d : Nat} (hT : ∀ x ∈ opArgs r, ∀ v, evA e x = some v → Within T v) (hd : roOp r = false → T d = true) (ha : Alike T m m2) :
    Loc2 T m m2 (fun m => aOp r d e m) := by
  cases r with
  | mv x => exact loc_ev1 fun v hv => Reads.loc (Reads.some fun m => rfl) ha
  | alloc cells => exact (loc_cons (c := True) (hd rfl) ha : Loc2 T m m2 (fun m => if True then _ else _))
  | box x => exact loc_ev1 fun v hv => loc_box (hd rfl) (hT x (by simp [opArgs]) v hv) ha
  | load n ag x => exact loc_ev1 fun v hv => (reads_load ((hT x (by simp [opArgs]) v hv).alike ha)).loc ha
  | store n x v => exact loc_ev1 fun u hu => loc_ev1 fun t ht => loc_store (hT x (by simp [opArgs]) u hu) (hT v (by simp [opArgs]) t ht) ha
  | faddr off x => exact loc_ev1 fun v hv => reads_faddr.loc ha
  | iaddr z a x i =>
    cases a with
    | none => exact loc_ev1 fun v hv => loc_ev1 fun u hu => (reads_iaddr ((hT x (by simp [opArgs]) v hv).alike ha)).loc ha
    | some len => exact loc_ev1 fun v hv => loc_ev1 fun u hu => reads_iaddrA.loc ha
  | field off n ag x => exact loc_ev1 fun v hv => reads_field.loc ha
  | aindex len z ag x i => exact loc_ev1 fun v hv => loc_ev1 fun u hu => reads_aindex.loc ha
  | sindex x i => exact loc_ev1 fun v hv => loc_ev1 fun u hu => reads_sindex.loc ha
  | bin op x y => exact loc_ev1 fun v hv => loc_ev1 fun u hu => Reads.loc (Reads.map (x := binVal op v u) (g := .p) fun m' _ => rfl) ha
  | eq k neg x y => exact loc_ev1 fun v hv => loc_ev1 fun u hu => Reads.loc (Reads.map (x := eqVal k v u) (g := fun b => .p (.bool (if neg = true then !b else b))) fun m' _ => rfl) ha
  | un op x => exact loc_ev1 fun v hv => reads_un.loc ha
  | build zero parts => exact loc_evs fun vs hv => reads_build.loc ha
  | fslice z n zero parts => exact loc_evs fun vs hv => reads_fslice.loc ha
  | bslice z n zero parts =>
    refine loc_evs fun vs hv => loc_bslice (hd rfl) ?_ ha
    intro x hx
    obtain ⟨y, hy, rfl⟩ := List.mem_map.1 hx
    obtain ⟨a, h1, h2⟩ := evAs_mem hv y.2 (List.of_mem_zip hy).2
    exact hT a h1 _ h2
  | mkslice z bytes zero l c => exact loc_ev1 fun v hv => loc_ev1 fun u hu => loc_mkslice (hd rfl) ha
  | mkmap => exact (loc_cons (c := True) (hd rfl) ha : Loc2 T m m2 (fun m => if True then _ else _))
  | srange x => exact loc_ev1 fun v hv => loc_srange (hd rfl) ha
  | snext x => exact loc_ev1 fun v hv => loc_snext (hT x (by simp [opArgs]) v hv) ha
  | mentry ls zero x k => exact loc_ev1 fun v hv => loc_ev1 fun u hu => loc_mentry (hT x (by simp [opArgs]) v hv) ha
  | mestore x s v => exact loc_ev1 fun v hv => loc_ev1 fun u hu => loc_ev1 fun t ht => loc_mestore (hT x (by simp [opArgs]) v hv) ha
  | appendF z bytes zero s x => exact loc_ev1 fun v hv => loc_ev1 fun u hu => loc_frzR (hd rfl) (loc_append (hd rfl) (hT s (by simp [opArgs]) v hv) (hT x (by simp [opArgs]) u hu) ha)
  | appz z bytes zero s n => exact loc_ev1 fun v hv => loc_ev1 fun u hu => loc_appz (hd rfl) ha
  | appin z s x => exact loc_ev1 fun v hv => loc_ev1 fun u hu => loc_appin (hT s (by simp [opArgs]) v hv) (hT x (by simp [opArgs]) u hu) ha
  | cap x => exact loc_ev1 fun v hv => reads_cap.loc ha
  | slc3 x lo hi mx => exact loc_ev1 fun v hv => loc_ev1 fun u hu => loc_ev1 fun s hs => loc_ev1 fun t ht => loc_slc3 (hT x (by simp [opArgs]) v hv) ha
  | mrg x => exact Reads.loc (Reads.none fun m => rfl) ha
  | mnx x => exact Reads.loc (Reads.none fun m => rfl) ha
  | ment x => exact Reads.loc (Reads.none fun m => rfl) ha
  | lookup ls zero ok x k => exact loc_ev1 fun v hv => loc_ev1 fun u hu => (reads_lookup ((hT x (by simp [opArgs]) v hv).alike ha)).loc ha
  | mapset ls x k v => exact loc_ev1 fun v hv => loc_ev1 fun u hu => loc_ev1 fun t ht => loc_mapset (hT x (by simp [opArgs]) v hv) ha
  | extract i x => exact loc_ev1 fun v hv => reads_extract.loc ha
  | len k x => exact loc_ev1 fun v hv => (reads_len ((hT x (by simp [opArgs]) v hv).alike ha)).loc ha
  | append z bytes zero s x => exact loc_ev1 fun v hv => loc_ev1 fun u hu => loc_append (hd rfl) (hT s (by simp [opArgs]) v hv) (hT x (by simp [opArgs]) u hu) ha
  | copy z x s => exact loc_ev1 fun v hv => loc_ev1 fun u hu => loc_copy (hT x (by simp [opArgs]) v hv) (hT s (by simp [opArgs]) u hu) ha
  | clear z zero x => exact loc_ev1 fun v hv => loc_clear (hT x (by simp [opArgs]) v hv) ha
  | slc z x lo hi => exact loc_ev1 fun v hv => loc_evB fun n1 => loc_evB fun n2 => (reads_slice ((hT x (by simp [opArgs]) v hv).alike ha)).loc ha
  | ssl x lo hi => exact loc_ev1 fun v hv => loc_evB fun n1 => loc_evB fun n2 => reads_ssl.loc ha
  | fn f fst caps =>
    refine loc_evs fun us hu => loc_evs fun vs hv => ?_
    cases hp : allP us with
    | none => exact Reads.loc (Reads.none fun m => rfl) ha
    | some us => exact Reads.loc (Reads.map (x := allP vs) (g := fun cs => .p (.fn f us cs)) fun m' _ => rfl) ha
  | pick c a b => exact loc_ev1 fun v hv => loc_ev1 fun u hu => loc_ev1 fun t ht => reads_pick.loc ha
  | conv k x => exact loc_ev1 fun v hv => reads_conv.loc ha
  | nilchk x => exact loc_ev1 fun v hv => reads_nilchk.loc ha
  | minmax mx xs => exact loc_evs fun vs hv => reads_minmax.loc ha
end
end Go.Proofs.Ytnmnijgoggombaa.X
/- A region that draws its order, run in the text's order: what each of its operations looked at. -/
namespace Go.Proofs.Ytnmnijgoggombaa.X
open Go.RowKit
mutual
def sitesV : AVal → List Nat
  | .agg cs => sitesL cs
  | .tup cs => sitesL cs
  | .rsl pl _ _ => [pl.s]
  | .rpt pl _ _ => [pl.s]
  | .rmp pl => [pl.s]
  | .rit pl mp _ => [pl.s, mp.s]
  | _ => []
def sitesL : List AVal → List Nat
  | [] => []
  | a :: l => sitesV a ++ sitesL l
end
mutual
theorem sitesV_ok {s : Nat} : (v : AVal) → v.ment (fun pl => pl.s == s) = true → s ∈ sitesV v
  | .agg cs, h => by simp only [AVal.ment] at h; simp only [sitesV]; exact sitesL_ok cs h
  | .tup cs, h => by simp only [AVal.ment] at h; simp only [sitesV]; exact sitesL_ok cs h
  | .rsl pl _ _, h => by simp only [AVal.ment, beq_iff_eq] at h; simp [sitesV, h]
  | .rpt pl _ _, h => by simp only [AVal.ment, beq_iff_eq] at h; simp [sitesV, h]
  | .rmp pl, h => by simp only [AVal.ment, beq_iff_eq] at h; simp [sitesV, h]
  | .rit pl mp _, h => by simp only [AVal.ment, Bool.or_eq_true, beq_iff_eq] at h; rcases h with h | h <;> simp [sitesV, h]
  | .p _, h => by simp [AVal.ment] at h
  | .own _ _ _, h => by simp [AVal.ment] at h
  | .omap _, h => by simp [AVal.ment] at h
  | .dead, h => by simp [AVal.ment] at h
  | .unk, h => by simp [AVal.ment] at h
  | .siter _ _, h => by simp [AVal.ment] at h
  | .smap _, h => by simp [AVal.ment] at h
  | .miter _ _ _, h => by simp [AVal.ment] at h
theorem sitesL_ok {s : Nat} : (l : List AVal) → AVal.mentL (fun pl => pl.s == s) l = true → s ∈ sitesL l
  | [], h => by simp [AVal.mentL] at h
  | a :: l, h => by
    simp only [AVal.mentL, Bool.or_eq_true] at h
    simp only [sitesL, List.mem_append]
    exact h.imp (sitesV_ok a) (sitesL_ok l)
end
mutual
theorem ment_site {K : Place → Bool} : (v : AVal) → v.ment K = true → ∃ pl, K pl = true ∧ pl.s ∈ sitesV v
  | .agg cs, h => by simp only [AVal.ment] at h; simp only [sitesV]; exact mentL_site cs h
  | .tup cs, h => by simp only [AVal.ment] at h; simp only [sitesV]; exact mentL_site cs h
  | .rsl pl _ _, h => by simp only [AVal.ment] at h; exact ⟨pl, h, by simp [sitesV]⟩
  | .rpt pl _ _, h => by simp only [AVal.ment] at h; exact ⟨pl, h, by simp [sitesV]⟩
  | .rmp pl, h => by simp only [AVal.ment] at h; exact ⟨pl, h, by simp [sitesV]⟩
  | .rit pl mp _, h => by
    simp only [AVal.ment, Bool.or_eq_true] at h
    rcases h with h | h
    · exact ⟨pl, h, by simp [sitesV]⟩
    · exact ⟨mp, h, by simp [sitesV]⟩
  | .p _, h => by simp [AVal.ment] at h
  | .own _ _ _, h => by simp [AVal.ment] at h
  | .omap _, h => by simp [AVal.ment] at h
  | .dead, h => by simp [AVal.ment] at h
  | .unk, h => by simp [AVal.ment] at h
  | .siter _ _, h => by simp [AVal.ment] at h
  | .smap _, h => by simp [AVal.ment] at h
  | .miter _ _ _, h => by simp [AVal.ment] at h
theorem mentL_site {K : Place → Bool} : (l : List AVal) → AVal.mentL K l = true → ∃ pl, K pl = true ∧ pl.s ∈ sitesL l
  | [], h => by simp [AVal.mentL] at h
  | a :: l, h => by
    simp only [AVal.mentL, Bool.or_eq_true] at h
    simp only [sitesL, List.mem_append]
    rcases h with h | h
    · obtain ⟨pl, h1, h2⟩ := ment_site a h; exact ⟨pl, h1, .inl h2⟩
    · obtain ⟨pl, h1, h2⟩ := mentL_site l h; exact ⟨pl, h1, .inr h2⟩
end
def argSites (e : Env) : List Arg → List Nat
  | [] => []
  | x :: xs => (match evA e x with | some v => sitesV v | none => []) ++ argSites e xs
def allEv (e : Env) (xs : List Arg) : Bool := xs.all fun x => (evA e x).isSome
/-- A call's result: the callees' results are 'σ'. -/
def callOut (σ : Nat → List PVal → Option AVal) (f : Nat) (fst caps : List PVal) (args : List Arg) (d : Nat) (e : Env) (m : Mem) : Option Out :=
  match evAs e args with
  | some vs => match allP vs with
    | some ps => match σ f (fst ++ ps ++ caps) with
      | some t => aRet t d m
      | none => none
    | none => none
  | none => none
def itemOut (σ : Nat → List PVal → Option AVal) (it : RItem) (d : Nat) (e : Env) (m : Mem) : Option Out :=
  match it with
  | .op o => aOp o d e m
  | .call f args => callOut σ f [] [] args d e m
  | .callv x args => match evA e x with
    | some (.p (.fn f fst caps)) => callOut σ f fst caps args d e m
    | _ => none
  | .calli _ _ _ => none
/-- What one operation of a region did: the value, the slots forgotten, the sites that it looked at, whether it only looked, the slots that it read. -/
structure Ent where
  r : RO
  v : AVal
  kl : Kill
  T : List Nat
  ro : Bool
  S : List Nat
  /-- where it looked at the kind and the size of a thing alone; what its slots had; the memory before and behind it -/
  hd : List Place
  av : List AVal
  mb : Mem
  ma : Mem
/-- The kind and the size of what is owned at a place. -/
def hdrAt (m : Mem) (q : Place) : Option (Nat × Nat × Nat) :=
  match getAt m q with
  | some (.own false z rows) => some (0, z, rows.length)
  | some (.own true z _) => some (1, z, 0)
  | some (.omap _) => some (2, 0, 0)
  | _ => none
/-- An operation that looks at no more than that. -/
def softOf (o : ROp) (e : Env) (m : Mem) : Option (List Place × List AVal) :=
  match o with
  | .mv x => match evA e x with
    | some v => some ([], [v])
    | none => none
  | .faddr _ x => match evA e x with
    | some v => some ([], [v])
    | none => none
  | .load n ag x => match evA e x with
    | some (.rpt pl i j) => if n = 1 ∧ ag = false ∧ (hdrAt m (pl.ext i j)).isSome = true then some ([pl.ext i j], [.rpt pl i j]) else none
    | _ => none
  | .iaddr _ none x i => match evA e x, evA e i with
    | some (.rsl pl off len), some (.p v) => if (hdrAt m pl).isSome = true then some ([pl], [.rsl pl off len, .p v]) else none
    | _, _ => none
  | _ => none
def Kill.list : Kill → List Nat
  | .sites l => l
  | _ => []
def Kill.isNo : Kill → Bool
  | .no => true
  | _ => false
def entOf (r : RO) (d : Nat) (e : Env) (m : Mem) (out : Out) : Ent :=
  match r.it with
  | .op o => match softOf o e m with
    | some (hd, av) => ⟨r, out.1, out.2.2, [], true, roSlots r, hd, av, m, out.2.1⟩
    | none => ⟨r, out.1, out.2.2, (if roOp o = true then [] else [d]) ++ argSites e (opArgs o), roOp o, roSlots r, [], [], m, out.2.1⟩
  | _ => ⟨r, out.1, out.2.2, out.2.2.list, out.2.2.isNo, roSlots r, [], [], m, out.2.1⟩
/-- The region's operations, in the text's order. -/
def runD (σ : Nat → List PVal → Option AVal) : List RO → Env → Mem → Option (List Ent × Env × Mem)
  | [], e, m => some ([], e, m)
  | r :: rs, e, m =>
    let go : Option (List Ent × Env × Mem) :=
      match itemOut σ r.it (r.dst.getD 0) e m with
      | some out => if allEv e (itemArgs r.it) = true then
          match runD σ rs (upd r.dst out e) out.2.1 with
          | some (es, st) => some (entOf r (r.dst.getD 0) e m out :: es, st)
          | none => none
        else none
      | none => none
    match r.guard with
    | none => go
    | some (s, want) => match lk e s with
      | some v => match gb v with
        | some y => if y = some want then go else
          match runD σ rs (skipped r.dst e) m with
          | some (es, st) => some (⟨r, .p (.tup []), .no, [], true, [s], [], [], m, m⟩ :: es, st)
          | none => none
        | none => none
      | none => none
/-- The callees' results are what 'σ' says. -/
def SigOK (P : Program) (σ : Nat → List PVal → Option AVal) : Prop := ∀ f ps t, σ f ps = some t → Ret P f ps t
section
variable {P : Program} {C : Ctx} {N : Nat} {σ : Nat → List PVal → Option AVal}
theorem xItem_out (hσ : SigOK P σ) {it : RItem} {d : Option Nat} {s : Nat} {e : Env} {m : Mem} {out : Out} {K : Env → Mem → Prop} (h : itemOut σ it s e m = some out) (hk : K (upd d out e) out.2.1) :
    xItem P C N d it K e m := by
  cases it with
  | op o => exact xItem_op h hk
  | call f args =>
    simp only [itemOut, callOut] at h
    split at h
    · rename_i vs hvs
      split at h
      · rename_i ps hps
        split at h
        · rename_i t ht
          rw [List.append_nil, List.nil_append] at ht
          exact xItem_call (hσ f ps t ht) hvs hps h hk
        · cases h
      · cases h
    · cases h
  | callv x args =>
    simp only [itemOut] at h
    split at h
    · rename_i f fst caps hf
      simp only [callOut] at h
      split at h
      · rename_i vs hvs
        split at h
        · rename_i ps hps
          split at h
          · rename_i t ht
            exact xItem_callv hf (hσ f _ t ht) hvs hps h hk
          · cases h
        · cases h
      · cases h
    · cases h
  | calli f args l => cases h
end
end Go.Proofs.Ytnmnijgoggombaa.X
