/- Part 4 of the proof of one statement about the given program: what the program's code computes is carried out over abstract values, and that is proved to hold of the program in every world. -/
import Derived.Test.YtnmnijgoggombaaLoC
import Derived.Test.YtnmnijgoggombaaProg
import Derived.WalkKit
set_option maxRecDepth 100000
/- A range over a map that collects; the loop of 'count'. -/
namespace Go.Proofs.Ytnmnijgoggombaa.X
open Go.RowKit
section
variable {P : Program} {C : Ctx} {N : Nat}
def sloop (d t u b1 b2 : Nat) (live : List Nat) (body : RCode) : RCode :=
  .block b1 (.loop live (.seq (.ops [⟨some t, .op (.mnx (.s d)), none⟩, ⟨some u, .op (.extract 0 (.s t)), none⟩]) (.seq (.cond (.s u) .skip (.exit b1)) (.block b2 body))))
/-- The loop collects at 'mc', whatever the order. -/
theorem sloop_ok {d t u b1 b2 : Nat} {live : List Nat} {body : RCode} {e e0 : Env} {m m0 : Mem} {mp mc : Place} {es : List (PVal × PVal)} {A : List Nat → AVal} {mb : Nat} {a0 : AVal}
    (hd0 : lk e d = some (.rit ⟨d, 0, []⟩ mp mb)) (hi0 : lk m d = some [.miter mb es.length []]) (hmc : mc.s ≠ d) (hm0 : getAt m0 mc = some a0) (hA0 : A [] = a0)
    (hmp : mp.s ≠ d) (hpc : mp.s ≠ mc.s) (hmp0 : getAt m0 mp = some (.omap es))
    (he0 : ∀ y v, lk e0 y = some v → lk e y = some v ∧ y ≠ d ∧ y ≠ t ∧ y ≠ u) (hms : ∀ q cs, lk m0 q = some cs → lk m q = some cs ∧ q ≠ d)
    (hdis : t ≠ d ∧ u ≠ d ∧ t ≠ u)
    (hbody : ∀ (C : Ctx) (dn : List Nat) (i : Nat) (k v : PVal), es[i]? = some (k, v) → i ∉ dn → ∀ (ee : Env) (mm : Mem),
      (∀ y w, lk e0 y = some w → lk ee y = some w) → lk ee d = some (.rit ⟨d, 0, []⟩ mp mb) → getAt mm ⟨d, 0, []⟩ = some (.miter mb es.length (dn ++ [i])) → getAt mm mp = some (.omap es) →
      (∀ q cs, lk (setAt m0 mc (A dn)) q = some cs → lk mm q = some cs) → lk mm d = some [.miter mb es.length (dn ++ [i])] →
      xWp P C N body (fun xe e1 m1 => xe = .normal ∧ (∀ y w, lk e0 y = some w → lk e1 y = some w) ∧ lk e1 d = some (.rit ⟨d, 0, []⟩ mp mb) ∧ lk m1 d = some [.miter mb es.length (dn ++ [i])] ∧
        ∀ q cs, lk (setAt m0 mc (A (dn ++ [i]))) q = some cs → lk m1 q = some cs) ee mm) :
    xWp P C N (sloop d t u b1 b2 live body) (fun xe e1 m1 => xe = .normal ∧ ∃ dn : List Nat, dn.Nodup ∧ (∀ i ∈ dn, i < es.length) ∧ (∀ i, i < es.length → i ∈ dn) ∧ Tells e1 m1 e0 (setAt m0 mc (A dn))) e m := by
  obtain ⟨htd, hud, htu⟩ := hdis
  refine xWp_block ?_
  let E : Env := (d, .rit ⟨d, 0, []⟩ mp mb) :: e0
  let M : List Nat → Mem := fun dn => (d, [.miter mb es.length dn]) :: setAt m0 mc (A dn)
  have hE : ∀ y w, lk e0 y = some w → lk E y = some w := by
    intro y w h
    simp only [E, lk]
    rw [if_neg (he0 y w h).2.1]
    exact h
  have hMs : ∀ dn q cs, lk (setAt m0 mc (A dn)) q = some cs → q ≠ d := by
    intro dn q cs h
    rw [lk_setAt] at h
    split at h
    · rename_i hq; rw [hq]; exact hmc
    · exact (hms q cs h).2
  have hM : ∀ dn q cs, lk (setAt m0 mc (A dn)) q = some cs → lk (M dn) q = some cs := by
    intro dn q cs h
    simp only [M, lk]
    rw [if_neg (hMs dn q cs h)]
    exact h
  have hMi : ∀ dn, getAt (M dn) ⟨d, 0, []⟩ = some (.miter mb es.length dn) := fun dn => by simp [M, getAt, lk, sub]
  have hMp : ∀ dn, getAt (M dn) mp = some (.omap es) := by
    intro dn
    have : getAt (setAt m0 mc (A dn)) mp = some (.omap es) := by rw [getAt_set_other hpc]; exact hmp0
    simp only [M, getAt, lk, hmp, if_false] at this ⊢
    exact this
  refine xWp_loop (S := { dn : List Nat // dn.Nodup ∧ ∀ i ∈ dn, i < es.length }) (fun _ => E) (fun dn => M dn.1) (fun _ => True) (fun dn => es.length + 1 - dn.1.length) ⟨[], List.nodup_nil, by simp⟩ ?_ trivial ?_
  · refine tells_drop ?_ ?_
    · intro y w h
      simp only [E, lk] at h
      split at h
      · rename_i hy; cases h; rw [hy]; exact hd0
      · exact (he0 y w h).1
    · intro q cs h
      simp only [M, lk] at h
      split at h
      · rename_i hq; cases h; rw [hq]; exact hi0
      · rw [hA0, setAt_self hm0] at h
        exact (hms q cs h).1
  · rintro ⟨dn, hnd, hlt⟩ _
    have hlen : dn.length ≤ es.length := nodup_len hnd hlt
    refine xWp_seq (xWp_ops (xOps_cons (xItem_mnx (pl := ⟨d, 0, []⟩) (mp := mp) (mb := mb) (n := es.length) (dn := dn) (es := es) (by simp [E, evA, lk]) (hMi dn) (hMp dn) rfl ?_ ?_)))
    · intro i k v hes hni
      have hilt : i < es.length := (List.getElem?_eq_some_iff.1 hes).1
      refine xOps_op (out := (.p (.bool true), setAt (M dn) ⟨d, 0, []⟩ (.miter mb es.length (dn ++ [i])), .no)) (s := u) (by simp [aOp, ev1, evA, lk, upd, killEnv, oExtract]) (xOps_nil ?_)
      simp only [XQ.then]
      refine xWp_seq (xWp_cond (b := true) (by simp [evA, lk, upd, killEnv]) ?_)
      refine xWp_skip ?_
      simp only [XQ.then]
      refine xWp_block ?_
      have hset : setAt (M dn) ⟨d, 0, []⟩ (.miter mb es.length (dn ++ [i])) = (d, [.miter mb es.length (dn ++ [i])]) :: M dn := by
        simp [setAt, M, lk, putSub]
      refine xWp_mono ?_ (hbody C dn i k v hes hni _ _ ?_ ?_ ?_ ?_ ?_ ?_)
      · rintro xe e1 m1 ⟨rfl, h1, h2, h3, h4⟩
        simp only [XQ.inBlock, XQ.then]
        refine ⟨⟨dn ++ [i], ?_, ?_⟩, tells_drop ?_ ?_, trivial, ?_⟩
        · rw [List.nodup_append]
          exact ⟨hnd, by simp, fun a ha b hb => by simp at hb; subst hb; exact fun e => hni (e ▸ ha)⟩
        · intro j hj
          rcases List.mem_append.1 hj with hj | hj
          · exact hlt j hj
          · simp at hj; subst hj; exact hilt
        · intro y w h
          simp only [E, lk] at h
          split at h
          · rename_i hy; cases h; rw [hy]; exact h2
          · exact h1 y w h
        · intro q cs h
          simp only [M, lk] at h
          split at h
          · rename_i hq; cases h; rw [hq]; exact h3
          · exact h4 q cs h
        · simp only [List.length_append, List.length_singleton]; omega
      · intro y w h
        obtain ⟨k1, k3, k4, k5⟩ := he0 y w h
        simp only [upd, killEnv, lk, if_neg k4, if_neg k5]
        exact hE y w h
      · simp [upd, killEnv, lk, E, Ne.symm hud, Ne.symm htd]
      · simp only [hset]; simp [getAt, lk, sub]
      · simp only [hset]
        have := hMp dn
        simp only [getAt, lk, hmp, if_false] at this ⊢
        exact this
      · intro q cs h
        simp only [hset, lk]
        rw [if_neg (hMs dn q cs h)]
        exact hM dn q cs h
      · simp only [hset]; simp [lk]
    · intro hall
      refine xOps_op (out := (.p (.bool false), M dn, .no)) (s := u) (by simp [aOp, ev1, evA, lk, upd, killEnv, oExtract]) (xOps_nil ?_)
      simp only [XQ.then]
      refine xWp_seq (xWp_cond (b := false) (by simp [evA, lk, upd, killEnv]) ?_)
      refine xWp_exit ?_
      simp only [XQ.then, XQ.inBlock, if_true]
      refine ⟨trivial, dn, hnd, hlt, hall, tells_drop ?_ ?_⟩
      · intro y w h
        obtain ⟨k1, k3, k4, k5⟩ := he0 y w h
        simp only [upd, killEnv, lk, if_neg k4, if_neg k5]
        exact hE y w h
      · intro q cs h
        exact hM dn q cs h
/-- Of a map it is told how many entries it has. -/
theorem tells_smap {e : Env} {m : Mem} {pl : Place} {es : List (PVal × PVal)} (h : getAt m pl = some (.omap es)) : Tells e m e (setAt m pl (.smap es.length)) := by
  intro C G w tmps hm hg he
  refine ⟨G, ?_, hg, he⟩
  obtain ⟨r, ev, clock, h1, h2, h3, h4, _⟩ := hm pl _ h
  intro q x hx
  by_cases hu : pl.under q
  · obtain ⟨r', rfl⟩ := hu
    rw [getAt_set_under h] at hx
    cases r' with
    | nil => simp only [sub, Option.some.injEq] at hx; subst hx; rw [Place.app_nil]; exact ⟨r, ev, clock, h1, h2, h3, h4⟩
    | cons c r' => simp [sub] at hx
  · obtain ⟨y, hy, hsh⟩ := getAt_set_else (a := .smap es.length) rfl h hu hx
    exact (hm q y hy).move hsh (Frz.le_refl _) (fun L hL => ⟨hL, rfl⟩) rfl fun _ _ => rfl
def bC : RCode := (.seq (.ops [⟨(some 27), (.op (.ment (.s 24))), none⟩, ⟨(some 28), (.op (.extract 0 (.s 27))), none⟩, ⟨(some 29), (.op (.extract 1 (.s 27))), none⟩, ⟨(some 9), (.op (.alloc [(.int .i64 0), (.int .i64 0)])), none⟩, ⟨none, (.op (.store 2 (.s 9) (.s 28))), none⟩, ⟨(some 10), (.op (.mv (.s 29))), none⟩]) (.seq (.ops [⟨(some 30), (.op (.mv (.s 6))), none⟩, ⟨(some 31), (.op (.faddr 0 (.s 9))), none⟩, ⟨(some 32), (.op (.load 1 false (.s 31))), none⟩, ⟨(some 33), (.callv (.s 30) [(.s 32)]), none⟩]) (.cond (.s 33) (.ops [⟨(some 34), (.op (.mv (.s 8))), none⟩, ⟨(some 35), (.op (.mv (.s 10))), none⟩, ⟨none, (.op (.mapset [.i] (.s 34) (.s 35) (.c (.bool true)))), none⟩]) .skip)))
def lC : List Nat := [2, 4, 5, 6, 7, 8, 24]
def ccode (f : Nat) : RCode := .seq (.ops [⟨some 22, .op (.load 2 true (.s 2)), none⟩, ⟨some 23, .call f [.s 22], none⟩, ⟨some 24, .op (.mrg (.s 23)), none⟩]) (sloop 24 25 26 0 1 lC bC)
/-- A set of numbers, as a map. -/
def accOf (L : List Int) : List (PVal × PVal) := L.map fun n => (.int .i64 n, .bool true)
def insI (L : List Int) (n : Int) : List Int := if L.contains n = true then L else L ++ [n]
theorem accOf_put {n : Int} : ∀ {L : List Int}, mapPut [.i] (accOf L) (.int .i64 n) (.bool true) = some (accOf (insI L n)) := by
  intro L
  induction L with
  | nil => rfl
  | cons a L ih =>
    have hrec : mapPut [.i] (accOf (a :: L)) (.int .i64 n) (.bool true) = some (if (n == a) = true then (.int .i64 n, .bool true) :: accOf L else (.int .i64 a, .bool true) :: accOf (insI L n)) := by
      simp only [accOf, List.map_cons, mapPut, keyEq, cellEq, if_true, Option.bind_some]
      have := ih
      simp only [accOf] at this
      rw [this]
      rfl
    rw [hrec]
    by_cases h : n = a
    · subst h
      simp [insI, accOf]
    · have h' : (n == a) = false := by simpa using h
      rw [h']
      simp only [Bool.false_eq_true, if_false]
      by_cases hm : n ∈ L
      · simp [insI, accOf, hm]
      · simp [insI, accOf, hm, h]
def stepL (f : Nat → Option Int) (L : List Int) (i : Nat) : List Int := match f i with
  | some n => insI L n
  | none => L
def accL (f : Nat → Option Int) (dn : List Nat) : List Int := dn.foldl (stepL f) []
theorem accL_snoc (f : Nat → Option Int) (dn : List Nat) (i : Nat) : accL f (dn ++ [i]) = stepL f (accL f dn) i := by simp [accL]
theorem insI_nodup {L : List Int} {n : Int} (h : L.Nodup) : (insI L n).Nodup := by
  unfold insI
  split
  · exact h
  · rename_i hc
    rw [List.nodup_append]
    exact ⟨h, by simp, fun a ha b hb => by simp at hb; subst hb; exact fun e => hc (by simp [← e, ha])⟩
theorem mem_insI {L : List Int} {n a : Int} : a ∈ insI L n ↔ a ∈ L ∨ a = n := by
  unfold insI
  split
  · rename_i h
    constructor
    · exact .inl
    · rintro (h1 | rfl)
      · exact h1
      · simpa using h
  · simp
theorem stepL_nodup {f : Nat → Option Int} {L : List Int} {i : Nat} (h : L.Nodup) : (stepL f L i).Nodup := by
  unfold stepL
  split
  · exact insI_nodup h
  · exact h
theorem mem_stepL {f : Nat → Option Int} {L : List Int} {i : Nat} {a : Int} : a ∈ stepL f L i ↔ a ∈ L ∨ f i = some a := by
  unfold stepL
  split
  · rename_i n hn
    rw [mem_insI, hn]
    simp [eq_comm]
  · rename_i hn
    rw [hn]
    simp
theorem foldL_nodup (f : Nat → Option Int) : ∀ (dn : List Nat) (L : List Int), L.Nodup → (dn.foldl (stepL f) L).Nodup := by
  intro dn
  induction dn with
  | nil => intro L h; exact h
  | cons i dn ih => intro L h; exact ih _ (stepL_nodup h)
theorem mem_foldL {f : Nat → Option Int} {a : Int} : ∀ (dn : List Nat) (L : List Int), a ∈ dn.foldl (stepL f) L ↔ a ∈ L ∨ ∃ i ∈ dn, f i = some a := by
  intro dn
  induction dn with
  | nil => intro L; simp
  | cons i dn ih =>
    intro L
    rw [List.foldl_cons, ih, mem_stepL]
    simp [or_assoc]
theorem accL_nodup (f : Nat → Option Int) (dn : List Nat) : (accL f dn).Nodup := foldL_nodup f dn [] List.nodup_nil
theorem mem_accL {f : Nat → Option Int} {a : Int} (dn : List Nat) : a ∈ accL f dn ↔ ∃ i ∈ dn, f i = some a := by
  unfold accL
  rw [mem_foldL]
  simp
/-- Which number an entry adds. -/
def addOf (fl : PVal → Option Bool) (es : List (PVal × PVal)) (i : Nat) : Option Int := match es[i]? with
  | some (k, v) => if fl k = some true then intV v else none
  | none => none
theorem cset_spec {fl : PVal → Option Bool} : ∀ {es : List (PVal × PVal)} {l : List Int}, cset fl es = some l → l.Nodup ∧ (∀ a, a ∈ l ↔ ∃ i, i < es.length ∧ addOf fl es i = some a) ∧ ∀ (i : Nat) (k v : PVal), es[i]? = some (k, v) → ∃ b n, fl k = some b ∧ intV v = some n := by
  intro es
  induction es with
  | nil => intro l h; cases h; exact ⟨List.nodup_nil, by simp, fun i k v h => by simp at h⟩
  | cons x es ih =>
    intro l h
    obtain ⟨k, v⟩ := x
    simp only [cset] at h
    split at h
    · rename_i b n l' hb hn hl
      cases h
      obtain ⟨h1, h2, h3⟩ := ih hl
      have hmem : ∀ a, (∃ i, i < ((k, v) :: es).length ∧ addOf fl ((k, v) :: es) i = some a) ↔ (b = true ∧ n = a) ∨ a ∈ l' := by
        intro a
        rw [h2 a]
        constructor
        · rintro ⟨i, hi, ha⟩
          cases i with
          | zero =>
            simp only [addOf, List.getElem?_cons_zero, hb, Option.some.injEq] at ha
            split at ha
            · rename_i hbt; rw [hn] at ha; cases ha; exact .inl ⟨hbt, rfl⟩
            · cases ha
          | succ i => exact .inr ⟨i, by simpa using hi, by simpa [addOf] using ha⟩
        · rintro (⟨hbt, rfl⟩ | ⟨i, hi, ha⟩)
          · exact ⟨0, by simp, by simp [addOf, hb, hbt, hn]⟩
          · exact ⟨i + 1, by simpa using hi, by simpa [addOf] using ha⟩
      refine ⟨?_, ?_, ?_⟩
      · split
        · split
          · exact h1
          · rename_i hc; exact List.nodup_cons.2 ⟨by simpa using hc, h1⟩
        · exact h1
      · intro a
        rw [hmem]
        cases b with
        | false => simp
        | true =>
          simp only [if_true, true_and]
          split
          · rename_i hc
            constructor
            · exact .inr
            · rintro (rfl | h)
              · simpa using hc
              · exact h
          · simp [eq_comm]
      · intro i k' v' hi
        cases i with
        | zero => simp at hi; obtain ⟨rfl, rfl⟩ := hi; exact ⟨b, n, hb, hn⟩
        | succ i => exact h3 i k' v' (by simpa using hi)
    · cases h
theorem same_length {a b : List Int} (ha : a.Nodup) (hb : b.Nodup) (h : ∀ x, x ∈ a ↔ x ∈ b) : a.length = b.length :=
  ((List.perm_ext_iff_of_nodup ha hb).2 h).length_eq
theorem bC_ok {σ : Sig} (hσ : SigOK P σ) {g : Nat} {fst caps : List PVal} {e0 ee : Env} {mm m0 : Mem} {mp mq : Place} {mb i : Nat} {dn : List Nat} {es : List (PVal × PVal)} {k v : PVal} {b : Bool} {n : Int}
    (hfl : flagOf σ g fst caps k = some b) (hv : intV v = some n) (hmq : mq.s ≠ 24) (hmq2 : mq.s ≠ 9) (hmp2 : mp.s ≠ 9) (ho9 : ∀ y w, lk e0 y = some w → w.ment (Kill.site 9).fn = false) (hm9 : ∀ q cs, lk m0 q = some cs → q ≠ 9)
    (hm0 : getAt m0 mq = some (.omap []))
    (he0 : ∀ y w, lk e0 y = some w → k1.contains y = false) (h6 : lk e0 6 = some (.p (.fn g fst caps))) (h8 : lk e0 8 = some (.rmp mq))
    (hi : es[i]? = some (k, v)) (hee : ∀ y w, lk e0 y = some w → lk ee y = some w) (hd : lk ee 24 = some (.rit ⟨24, 0, []⟩ mp mb))
    (hit : getAt mm ⟨24, 0, []⟩ = some (.miter mb es.length (dn ++ [i]))) (hmm : getAt mm mp = some (.omap es))
    (hms : ∀ q cs, lk (setAt m0 mq (.omap (accOf (accL (addOf (flagOf σ g fst caps) es) dn)))) q = some cs → lk mm q = some cs) (hml : lk mm 24 = some [.miter mb es.length (dn ++ [i])]) :
    xWp P C N bC (fun xe e1 m1 => xe = .normal ∧ (∀ y w, lk e0 y = some w → lk e1 y = some w) ∧ lk e1 24 = some (.rit ⟨24, 0, []⟩ mp mb) ∧ lk m1 24 = some [.miter mb es.length (dn ++ [i])] ∧
        ∀ q cs, lk (setAt m0 mq (.omap (accOf (accL (addOf (flagOf σ g fst caps) es) (dn ++ [i]))))) q = some cs → lk m1 q = some cs) ee mm := by
  have hv' : v = .int .i64 n := by
    unfold intV at hv
    split at hv
    · cases hv; rfl
    · cases hv
  subst hv'
  obtain ⟨k1', p, k2, q, rfl, hσv⟩ : ∃ k1 p k2 q, k = .agg [.int k1 p, .int k2 q] ∧ σ g (fst ++ [.int k1 p] ++ caps) = some (.p (.bool b)) := by
    unfold flagOf at hfl
    split at hfl
    · split at hfl
      · rename_i h; cases hfl; exact ⟨_, _, _, _, rfl, h⟩
      · cases hfl
    · cases hfl
  have hadd : addOf (flagOf σ g fst caps) es i = if b = true then some n else none := by
    simp only [addOf, hi, hfl]
    cases b <;> simp [intV]
  generalize hL : accL (addOf (flagOf σ g fst caps) es) dn = L at *
  have hL2 : accL (addOf (flagOf σ g fst caps) es) (dn ++ [i]) = if b = true then insI L n else L := by
    rw [accL_snoc, hL, stepL, hadd]
    cases b <;> rfl
  rw [hL2]
  let base : Env := (24, .rit ⟨24, 0, []⟩ mp mb) :: (6, .p (.fn g fst caps)) :: (8, .rmp mq) :: e0
  refine xWp_tell (e' := base) (m' := mm) (tells_drop ?_ fun _ _ h => h) ?_
  · intro y w h
    simp only [base, lk] at h
    split at h
    · rename_i hy; cases h; rw [hy]; exact hd
    split at h
    · rename_i hy; cases h; rw [hy]; exact hee 6 _ h6
    split at h
    · rename_i hy; cases h; rw [hy]; exact hee 8 _ h8
    · exact hee y w h
  have hne : ∀ {y w}, lk e0 y = some w → ∀ d ∈ k1, y ≠ d := fun {y w} hw d hd e => by
    subst e
    have := he0 y w hw
    simp [List.contains_eq_mem, hd] at this
  have hbase : ∀ y w, lk e0 y = some w → lk base y = some w := by
    intro y w h
    simp only [base, lk]
    rw [if_neg (hne h 24 (by decide))]
    split
    · rename_i hy; rw [hy, h6] at h; exact h
    split
    · rename_i hy; rw [hy, h8] at h; exact h
    · exact h
  have skip : ∀ {y : Nat} {d : Nat} {v : AVal} {e : Env}, y ≠ d → lk ((d, v) :: e) y = lk e y := fun h => by simp only [lk]; rw [if_neg h]
  have hqm : getAt mm mq = some (.omap (accOf L)) := by
    have := getAt_set_self hm0 (.omap (accOf L))
    simp only [getAt, Option.bind_eq_some_iff] at this ⊢
    obtain ⟨cs, g1, g2⟩ := this
    exact ⟨cs, hms _ _ g1, g2⟩
  let mm2 : Mem := (9, [.own true 2 [[.p (.int k1' p), .p (.int k2 q)]]]) :: mm
  have hgetq : getAt mm2 mq = some (.omap (accOf L)) := by rw [← hqm]; simp only [mm2, getAt, lk, if_neg hmq2]
  have hm0ne : ∀ X q cs, lk (setAt m0 mq X) q = some cs → q ≠ 9 := by
    intro X q cs h
    rw [lk_setAt] at h
    split at h
    · rename_i hq; rw [hq]; exact hmq2
    · exact hm9 q cs h
  unfold bC
  refine xWp_seq (xWp_ops (xOps_cons (xItem_ment (pl := ⟨24, 0, []⟩) (mp := mp) (mb := mb) rfl hit hmm rfl hi ?_)))
  refine xOps_op (s := 28) rfl (xOps_op (s := 29) rfl (xOps_op (s := 9) rfl ?_))
  refine xOps_tell (e' := (9, .rpt ⟨9, 0, []⟩ 0 0) :: (29, .p (.int .i64 n)) :: (28, .p (.agg [.int k1' p, .int k2 q])) :: base) (tells_kill ?_) ?_
  · intro y w hy hy9
    simp only [lk] at hy
    split at hy
    · rename_i h; subst h; cases hy; exact ⟨rfl, rfl⟩
    split at hy
    · rename_i h1 h; subst h; cases hy; exact ⟨rfl, rfl⟩
    rename_i h29 h28
    have : w.ment (Kill.site 9).fn = false := by
      simp only [base, lk] at hy
      split at hy
      · cases hy; simp [AVal.ment, Kill.fn, hmp2]
      split at hy
      · cases hy; rfl
      split at hy
      · cases hy; simp [AVal.ment, Kill.fn, hmq2]
      · exact ho9 y w hy
    refine ⟨?_, this⟩
    simp only [upd, killEnv, lk, if_neg h29, if_neg h28]
    split
    · rename_i h27
      exfalso
      subst h27
      simp only [base, lk] at hy
      have := hne hy 27 (by decide)
      exact this rfl
    · exact hy
  refine xOps_op (s := 0) rfl (xOps_tell (e' := (9, .rpt ⟨9, 0, []⟩ 0 0) :: (29, .p (.int .i64 n)) :: (28, .p (.agg [.int k1' p, .int k2 q])) :: base)
    (m' := mm2) (tells_drop (fun _ _ h => h) ?_) ?_)
  · intro s cs h
    by_cases hq : s = 9
    · subst hq; exact h
    · simp only [mm2, lk, if_neg hq] at h
      change lk ((9, _) :: (9, _) :: mm) s = some cs
      simp only [lk, if_neg hq]
      exact h
  refine xOps_op (s := 10) rfl (xOps_nil ?_)
  simp only [XQ.then]
  refine xWp_seq (xWp_ops (xOps_op (s := 30) rfl (xOps_op (s := 31) rfl (xOps_op (s := 32) (out := (.p (.int k1' p), mm2, .no)) rfl (xOps_cons (xItem_out hσ (s := 33) (out := (.p (.bool b), mm2, .no)) ?_ (xOps_nil ?_)))))))
  · have : ∀ (E : Env), lk E 30 = some (.p (.fn g fst caps)) → lk E 32 = some (.p (.int k1' p)) → itemOut σ (.callv (.s 30) [.s 32]) 33 E mm2 = some (.p (.bool b), mm2, .no) := by
      intro E h30 h32
      simp only [itemOut, evA, h30, callOut, evAs, h32, Option.bind_some, Option.map_some, allP]
      rw [hσv]
      rfl
    exact this _ rfl rfl
  simp only [XQ.then]
  refine xWp_cond (b := b) rfl ?_
  cases b with
  | false =>
    simp only [Bool.false_eq_true, if_false]
    refine xWp_skip ⟨rfl, ?_, rfl, hml, ?_⟩
    · intro y w h
      have hn := hne h
      simp only [upd, killEnv]
      rw [skip (hn 33 (by decide)), skip (hn 32 (by decide)), skip (hn 31 (by decide)), skip (hn 30 (by decide)), skip (hn 10 (by decide)), skip (hn 9 (by decide)), skip (hn 29 (by decide)), skip (hn 28 (by decide))]
      exact hbase y w h
    · intro s cs h
      simp only [mm2, lk]
      rw [if_neg (hm0ne _ s cs h)]
      exact hms s cs h
  | true =>
    have hset : oMapset [.i] mm2 (.rmp mq) (.p (.int .i64 n)) (.p (.bool true)) = some (.p (.tup []), setAt mm2 mq (.omap (accOf (insI L n))), .no) := by
      simp only [oMapset, hgetq, keyEq, cellEq, if_true, accOf_put]
      rfl
    simp only [if_true]
    refine xWp_ops (xOps_op (s := 34) rfl (xOps_op (s := 35) rfl (xOps_op (s := 0) (out := (.p (.tup []), setAt mm2 mq (.omap (accOf (insI L n))), .no)) hset (xOps_nil ?_))))
    refine ⟨rfl, ?_, rfl, ?_, ?_⟩
    · intro y w h
      have hn := hne h
      simp only [upd, killEnv]
      rw [skip (hn 35 (by decide)), skip (hn 34 (by decide)), skip (hn 33 (by decide)), skip (hn 32 (by decide)), skip (hn 31 (by decide)), skip (hn 30 (by decide)), skip (hn 10 (by decide)), skip (hn 9 (by decide)), skip (hn 29 (by decide)), skip (hn 28 (by decide))]
      exact hbase y w h
    · simp only
      rw [lk_setAt, if_neg (Ne.symm hmq)]
      exact hml
    · intro s cs h
      simp only
      have hs9 := hm0ne _ s cs h
      have hself : lk (setAt (setAt m0 mq (.omap (accOf L))) mq (.omap (accOf (insI L n)))) s = some cs := by rw [set_set_lk]; exact h
      have hmm2 : ∀ cs0, lk (setAt m0 mq (.omap (accOf L))) s = some cs0 → lk mm2 s = some cs0 := fun cs0 h0 => by
        simp only [mm2, lk]
        rw [if_neg hs9]
        exact hms s cs0 h0
      rw [lk_setAt] at hself ⊢
      split at hself
      · rename_i hq
        simp only [Option.map_eq_some_iff] at hself
        obtain ⟨cs0, g1, g2⟩ := hself
        rw [if_pos hq, hmm2 cs0 g1]
        simp [g2]
      · rename_i hq
        rw [if_neg hq]
        exact hmm2 cs hself
theorem stepS_ok {σ : Sig} {ι : SigI} (hσ : SigOK P σ) (hι : SigIOK P ι) {r : RO} {rest : List RO} {e : Env} {m : Mem} {s1 : Env × Mem} {K : Env → Mem → Prop} (h1 : stepS σ ι r e m = some s1) (hrest : xOps P C N rest K s1.1 s1.2) : xOps P C N (r :: rest) K e m := by
  have go : (match frzArgs (frzOf r.it) e m with
    | some s => match itemS σ ι r.it (r.dst.getD 0) s.1 s.2 with
      | some out => some (upd r.dst out s.1, out.2.1)
      | none => none
    | none => none) = some s1 → xOps P C N (⟨r.dst, r.it, none⟩ :: rest) K e m := by
    intro h
    split at h
    · rename_i s2 h2
      split at h
      · rename_i out ho
        cases h
        exact xOps_tell (frzArgs_tells h2) (xOps_cons (xItem_itemS hσ hι ho hrest))
      · cases h
    · cases h
  obtain ⟨d, it, g⟩ := r
  simp only [stepS] at h1 go
  cases g with
  | none => exact go h1
  | some sw =>
    obtain ⟨t, want⟩ := sw
    simp only at h1
    split at h1
    · rename_i v hb
      split at h1
      · rename_i y hy
        split at h1
        · rename_i hbw
          exact xOps_guard hb hy (fun _ => go h1) (fun h' => absurd hbw h')
        · rename_i hbw
          cases h1
          exact xOps_guard hb hy (fun h' => absurd h' hbw) (fun _ => hrest)
      · cases h1
    · cases h1
theorem runS_more {σ : Sig} {ι : SigI} (hσ : SigOK P σ) (hι : SigIOK P ι) : ∀ {l rest : List RO} {e : Env} {m : Mem} {s : Env × Mem} {K : Env → Mem → Prop}, runS σ ι l e m = some s → xOps P C N rest K s.1 s.2 → xOps P C N (l ++ rest) K e m := by
  intro l
  induction l with
  | nil => intro rest e m s K h hk; cases h; exact hk
  | cons r rs ih =>
    intro rest e m s K h hk
    simp only [runS] at h
    split at h
    · rename_i s1 h1
      exact stepS_ok hσ hι h1 (ih h hk)
    · cases h
theorem cloop_ok {σ : Sig} (hσ : SigOK P σ) {f : Nat} {e : Env} {m : Mem} {r : XE × Env × Mem} (h : cloop σ f k1 e m = some r) : xWp P C N (ccode f) (fun x e m => (x, e, m) = r) e m := by
  unfold cloop at h
  split at h
  · rename_i e1 m1 hrun
    split at h
    · rename_i mp g fst caps mq h23 h6 h8
      split at h
      · rename_i es hmp hmq
        split at h
        · rename_i l hl
          split at h
          · rename_i hc
            obtain ⟨hpq, hmqk, hmp24, hmp9, hoff, hoff9⟩ := hc
            cases h
            obtain ⟨c1, c2, c3⟩ := cset_spec hl
            have hneq : ∀ d ∈ k1, mq.s ≠ d := fun d hd e => by rw [e] at hmqk; simp [List.contains_eq_mem, hd] at hmqk
            let D : List Nat := k1.filter fun d => d != mp.s
            have hD : ∀ x, D.contains x = false ↔ (k1.contains x = false ∨ x = mp.s) := by
              intro x
              simp only [D, List.contains_eq_mem, List.mem_filter, decide_eq_false_iff_not, not_and, bne_iff_ne, ne_eq, Decidable.not_not]
              constructor
              · intro h
                by_cases hx : x ∈ k1
                · exact .inr (h hx)
                · exact .inl hx
              · rintro (h | h) hx
                · exact absurd hx h
                · exact h
            have hDne : ∀ d ∈ k1, d ≠ mp.s → ∀ q cs, lk (offMem D m1) q = some cs → q ≠ d := by
              intro d hd hdm q cs hq e
              have g1 := (offMem_lk hq).1
              rw [e, hD] at g1
              rcases g1 with g1 | g1
              · simp [List.contains_eq_mem, hd] at g1
              · exact hdm g1
            have hkq : ∀ (y : Nat) (v : AVal), lk (dropS k1 e1) y = some v → ∀ d ∈ k1, y ≠ d := fun y v hv d hd e => by
              have := (dropS_some hv).2
              rw [e] at this
              simp [List.contains_eq_mem, hd] at this
            have hin : ∀ {t v}, lk e1 t = some v → k1.contains t = false → lk (dropS k1 e1) t = some v := fun h1 h2 => by rw [lk_dropS, if_neg (by rw [h2]; decide)]; exact h1
            have hq0 : getAt (offMem D m1) mq = some (.omap []) := by rw [getAt_offMem ((hD _).2 (.inl hmqk))]; exact hmq
            have hp0 : getAt (offMem D m1) mp = some (.omap es) := by rw [getAt_offMem ((hD _).2 (.inr rfl))]; exact hmp
            refine xWp_seq (xWp_ops (runS_more (rest := [⟨some 24, .op (.mrg (.s 23)), none⟩]) hσ noneIOK hrun (xOps_cons (xItem_mrg (mp := mp) (es := es) (by simpa [evA] using h23) hmp hmp24 ?_))))
            intro mb
            refine xOps_nil ?_
            simp only [XQ.then]
            refine xWp_post (xWp_mono ?_ (sloop_ok (d := 24) (t := 25) (u := 26) (b1 := 0) (b2 := 1) (live := lC) (body := bC) (e0 := dropS k1 e1) (m0 := offMem D m1) (mp := mp) (mc := mq) (es := es)
              (A := fun dn => .omap (accOf (accL (addOf (flagOf σ g fst caps) es) dn))) (mb := mb) (a0 := .omap []) rfl rfl (hneq 24 (by decide)) hq0 rfl hmp24 hpq hp0 ?_ ?_ (by decide) ?_))
            · rintro xe e2 m2 ⟨rfl, dn, d1, d2, d3, ht⟩
              refine ⟨_, _, ht.trans ((tells_smap (getAt_set_self hq0 _)).trans (tells_drop (e' := dropS k1 e1) (m' := setAt (offMem k1 m1) mq (.smap l.length)) (fun _ _ h => h) ?_)), rfl⟩
              have hlen : (accOf (accL (addOf (flagOf σ g fst caps) es) dn)).length = l.length := by
                simp only [accOf, List.length_map]
                refine same_length (accL_nodup _ _) c1 fun a => ?_
                rw [mem_accL, c2]
                constructor
                · rintro ⟨i, h1, h2⟩; exact ⟨i, d2 i h1, h2⟩
                · rintro ⟨i, h1, h2⟩; exact ⟨i, d3 i h1, h2⟩
              intro s cs hs
              rw [hlen, set_set_lk]
              rw [lk_setAt] at hs ⊢
              have hoffs : ∀ cs0, lk (offMem k1 m1) s = some cs0 → lk (offMem D m1) s = some cs0 := fun cs0 h0 => by
                obtain ⟨g1, g2⟩ := offMem_lk h0
                rw [lk_offMem ((hD s).2 (.inl g1))]
                exact g2
              split at hs
              · rename_i hq
                rw [if_pos hq]
                simp only [Option.map_eq_some_iff] at hs ⊢
                obtain ⟨cs0, g1, g2⟩ := hs
                exact ⟨cs0, hoffs cs0 g1, g2⟩
              · rename_i hq
                rw [if_neg hq]
                exact hoffs cs hs
            · intro y v hv
              have hkk := hkq y v hv
              refine ⟨?_, hkk 24 (by decide), hkk 25 (by decide), hkk 26 (by decide)⟩
              simp only [upd, lk]
              rw [if_neg (hkk 24 (by decide)), lk_killEnv, (dropS_some hv).1]
              simp [Option.filter, offS_ok hoff hv]
            · intro q cs hq
              have hne24 := hDne 24 (by decide) (Ne.symm hmp24) q cs hq
              refine ⟨?_, hne24⟩
              simp only [lk]
              rw [if_neg hne24]
              exact (offMem_lk hq).2
            · intro C dn i k v hi hni ee mm f1 f2 f3 f4 f5 f6
              obtain ⟨b, n, g1, g2⟩ := c3 i k v hi
              exact bC_ok hσ g1 g2 (hneq 24 (by decide)) (hneq 9 (by decide)) hmp9 (fun y w hw => offS_ok hoff9 hw) (hDne 9 (by decide) (Ne.symm hmp9)) hq0 (fun y w hw => (dropS_some hw).2) (hin h6 (by decide)) (hin h8 (by decide)) hi f1 f2 f3 f4 f5 f6
          · cases h
        · cases h
      · cases h
    · cases h
  · cases h
end
end Go.Proofs.Ytnmnijgoggombaa.X
/- Iterators of pure values: what they hand out. -/
namespace Go.Proofs.Ytnmnijgoggombaa.X
open Go.RowKit
def isYl : AVal → Bool
  | .p (.yl _) => true
  | _ => false
def noYl (e : Env) (xs : List Arg) : Bool := xs.all fun x => match evA e x with
  | some v => !(isYl v)
  | none => true
def isMv : ROp → Bool
  | .mv (.s _) => true
  | _ => false
/-- Operations on pure values alone. -/
def yOps : List RO → Env → Option Env
  | [], e => some e
  | r :: rs, e => match r.it, r.guard with
    | .op o, none => match aOp o (r.dst.getD 0) e [] with
      | some (.p v, [], .no) => if isMv o = true ∨ (noYl e (opArgs o) = true ∧ isYl (.p v) = false) then yOps rs (put r.dst (.p v) e) else none
      | _ => none
    | _, _ => none
/-- The operations up to a call of 'yield', the call's arguments, and the operations behind it. -/
def splitY : List RO → Option (List RO × Option Nat × Arg × List Arg × List RO)
  | [] => none
  | r :: rs => match r.it, r.guard with
    | .callv x args, none => some ([], r.dst, x, args, rs)
    | _, _ => match splitY rs with
      | some (a, d, x, args, b) => some (r :: a, d, x, args, b)
      | none => none
theorem splitY_ok : ∀ {l a b : List RO} {d : Option Nat} {x : Arg} {args : List Arg}, splitY l = some (a, d, x, args, b) → l = a ++ ⟨d, .callv x args, none⟩ :: b := by
  intro l
  induction l with
  | nil => intro a b d x args h; cases h
  | cons r rs ih =>
    intro a b d x args h
    simp only [splitY] at h
    split at h
    · rename_i x' args' h1 h2
      cases h
      obtain ⟨d', it, g⟩ := r
      simp only at h1 h2
      subst h1 h2
      rfl
    · split at h
      · rename_i a' d' x' args' b' hs
        cases h
        rw [ih hs]
        rfl
      · cases h
abbrev YS := Option (XE × List (List PVal) × Env)
def yLoopN : Nat → (Env → YS) → Env → YS
  | 0, _, _ => none
  | n + 1, b, e => match b e with
    | some (.normal, o, e1) => match yLoopN n b e1 with
      | some (x, o', e2) => some (x, o ++ o', e2)
      | none => none
    | r => r
/-- One call of 'yield': it answers true; where it answers false, all is over at once. -/
def yOne (l : List RO) (c : Arg) (e : Env) : YS :=
  match splitY l with
  | some (a, d, x, args, b) => match yOps a e with
    | some e1 => match evA e1 x, evAs e1 args with
      | some (.p (.yl _)), some vs => match allP vs with
        | some ps => if noYl e1 args = true then
            match yOps b (put d (.p (.bool true)) e1), yOps b (put d (.p (.bool false)) e1) with
            | some e2, some e3 => match evA e2 c, evA e3 c with
              | some (.p (.bool false)), some (.p (.bool true)) => some (.normal, [ps], e2)
              | _, _ => none
            | _, _ => none
          else none
        | none => none
      | _, _ => none
    | none => none
  | none => match yOps l e with
    | some e1 => match evA e1 c with
      | some (.p (.bool true)) => some (.ret, [], e1)
      | some (.p (.bool false)) => some (.normal, [], e1)
      | _ => none
    | none => none
def yieldC : RCode → RCode → Option (List RO × Arg)
  | .ops l, .cond c .ret .skip => some (l, c)
  | _, _ => none
/-- What is handed out. -/
def yEx (n : Nat) : RCode → Env → YS
  | .skip, e => some (.normal, [], e)
  | .ops l, e => match yOps l e with
    | some e1 => some (.normal, [], e1)
    | none => none
  | .seq a b, e => match yieldC a b with
    | some (l, c) => yOne l c e
    | none => match yEx n a e with
      | some (.normal, o, e1) => match yEx n b e1 with
        | some (x, o', e2) => some (x, o ++ o', e2)
        | none => none
      | r => r
  | .cond c a b, e => match evA e c with
    | some (.p (.bool t)) => if t = true then yEx n a e else yEx n b e
    | _ => none
  | .block i b, e => match yEx n b e with
    | some (.exit j, o, e1) => if j = i then some (.normal, o, e1) else some (.exit j, o, e1)
    | r => r
  | .loop live b, e => yLoopN n (fun e => match yEx n b e with
    | some (.normal, o, e1) => some (.normal, o, e1.filter fun x => live.contains x.1)
    | r => r) (e.filter fun x => live.contains x.1)
  | .exit i, e => some (.exit i, [], e)
  | .ret, e => some (.ret, [], e)
  | _, _ => none
/-- What an iterator hands out. -/
def yCall (n N : Nat) (rc : RCode) (caps : List PVal) : Option (List (List PVal)) :=
  if caps.length + 1 ≤ N ∧ (caps.all fun p => !(isYl (.p p))) = true then
    match yEx n rc (entry 0 ((.p (.yl 0)) :: caps.map .p)) with
    | some (.exit _, _, _) => none
    | some (_, o, _) => some o
    | none => none
  else none
/-- The slots with the yield itself. -/
def sbY (l : Nat) (v : AVal) : AVal := if isYl v = true then .p (.yl l) else v
def sbE (l : Nat) (e : Env) : Env := e.map fun x => (x.1, sbY l x.2)
theorem lk_sbE (l : Nat) (e : Env) (t : Nat) : lk (sbE l e) t = (lk e t).map (sbY l) := lk_map (sbY l) e t
theorem evA_sbE {l : Nat} {e : Env} {x : Arg} {v : AVal} (h : evA e x = some v) (hy : isYl v = false) : evA (sbE l e) x = some v := by
  cases x with
  | c p => exact h
  | s t =>
    simp only [evA] at h ⊢
    rw [lk_sbE, h]
    simp [sbY, hy]
theorem evA_none {l : Nat} {e : Env} {x : Arg} (h : evA e x = none) : evA (sbE l e) x = none := by
  cases x with
  | c p => cases h
  | s t => simp only [evA] at h ⊢; rw [lk_sbE, h]; rfl
theorem noYl_ev {l : Nat} {e : Env} {xs : List Arg} (h : noYl e xs = true) : ∀ x ∈ xs, evA (sbE l e) x = evA e x := by
  intro x hx
  have := List.all_eq_true.1 h x hx
  cases hv : evA e x with
  | none => exact evA_none hv
  | some v =>
    rw [hv] at this
    exact evA_sbE hv (by simpa using this)
theorem lk_keep {live : List Nat} {t : Nat} {v : AVal} : ∀ {e : Env}, lk (e.filter fun x => live.contains x.1) t = some v → lk e t = some v := by
  intro e
  induction e with
  | nil => intro h; exact h
  | cons x e ih =>
    intro h
    by_cases hx : live.contains x.1 = true
    · rw [List.filter_cons_of_pos (by exact hx)] at h
      simp only [lk] at h ⊢
      split
      · rename_i ht; rw [if_pos ht] at h; exact h
      · rename_i ht; rw [if_neg ht] at h; exact ih h
    · rw [List.filter_cons_of_neg (by exact hx)] at h
      have := ih h
      simp only [lk]
      split
      · rename_i ht
        exfalso
        have key : ∀ (e : Env), lk (e.filter fun x => live.contains x.1) t ≠ none → live.contains t = true := by
          intro e
          induction e with
          | nil => intro h; exact absurd rfl h
          | cons y e ih =>
            intro h
            by_cases hy : live.contains y.1 = true
            · rw [List.filter_cons_of_pos (by exact hy)] at h
              simp only [lk] at h
              split at h
              · rename_i ht; rw [ht]; exact hy
              · exact ih h
            · rw [List.filter_cons_of_neg (by exact hy)] at h
              exact ih h
        have := key e (by rw [h]; simp)
        rw [ht] at this
        exact hx this
      · exact this
section
variable {P : Program} {N l : Nat} {J : Option Nat → Frz → World → Prop}
/-- The iterator's frame, at a phase. -/
def YHolds (J : Option Nat → Frz → World → Prop) (N l : Nat) (i : Option Nat) (e : Env) (a : Act) (w : World) : Prop :=
  ∃ F, J i F w ∧ ER (Ctx.of (bare F) w) (bare F) (sbE l e) a.tmps ∧ a.tmps.size = N ∧ a.defers = []
/-- What the phases keep. -/
structure YOK (J : Option Nat → Frz → World → Prop) : Prop where
  good : ∀ i F W, J i F W → Good (Ctx.of (bare F) W) (bare F) W
  step : ∀ i F W G2 W', J i F W → Good (Ctx.of (bare F) W) G2 W' → J i G2.F W'
theorem YHolds.sub {i : Option Nat} {e e' : Env} {a : Act} {w : World} (h : YHolds J N l i e a w) (hs : ∀ t v, lk e' t = some v → lk e t = some v) : YHolds J N l i e' a w := by
  obtain ⟨F, h1, h2, h3, h4⟩ := h
  refine ⟨F, h1, ?_, h3, h4⟩
  intro t v hv
  rw [lk_sbE] at hv
  simp only [Option.map_eq_some_iff] at hv
  obtain ⟨u, hu, rfl⟩ := hv
  exact h2 t _ (by rw [lk_sbE, hs t u hu]; rfl)
theorem YHolds.keep {i : Option Nat} {e : Env} {a : Act} {w : World} {live : List Nat} (h : YHolds J N l i e a w) : YHolds J N l i (e.filter fun x => live.contains x.1) a w :=
  h.sub fun _ _ => lk_keep
theorem good_of {G G2 : Gh} {w w' : World} {F : Frz} {C : Ctx} (hG : G = bare F) (hg : Good (C.re G w) G2 w') : Good (Ctx.of (bare F) w) G2 w' := by
  subst hG
  have hm : ∀ b, ¬ (C.re (bare F) w).mine b := by
    rintro b ⟨pl, L, h, _⟩
    cases h
  exact ⟨hg.fz, hg.fzl, hg.fm, hg.fml, hg.inj, hg.bnd, hg.size, fun b hb _ => hg.keep b hb (hm b), fun pl L h => .inl ((hg.own pl L h).resolve_right (hm _)), hg.fz0, hg.fm0,
    fun b o v h => (hg.fzn b o v h).imp id (fun h => h.imp id (fun h => (hm _ h).elim)), fun r es h => (hg.fmn r es h).imp id (fun h => h.imp id (fun h => (hm _ h).elim)), hg.os, hg.tape, hg.output⟩
theorem ER.ctx {C C' : Ctx} {G : Gh} {e : Env} {tmps : Array Value} (h : ER C G e tmps) (hh : C'.hid = C.hid) : ER C' G e tmps := by
  intro t v hv
  obtain ⟨c, h1, h2⟩ := h t v hv
  exact ⟨c, by rw [hh]; exact h1, h2⟩
/-- The frame after a step that only made memory: the slots' values are pure. -/
theorem pure_er {C : Ctx} {F F' : Frz} {e : Env} {tmps : Array Value} (h : ER C (bare F) e tmps) (hF : F.le F') : ER C (bare F') e tmps := by
  intro t v hv
  obtain ⟨c, h1, h2⟩ := h t v hv
  exact ⟨c, h1, VR.mono' (G := bare F) (G' := bare F') hF (fun pl L h => h) h2⟩
theorem sbE_put {d : Option Nat} {v : PVal} {e : Env} : sbE l (put d (.p v) e) = put d (sbY l (.p v)) (sbE l e) := by
  cases d <;> rfl
theorem yOp_step {i : Option Nat} {e : Env} {a : Act} {w : World} (hJ : YOK J) (h : YHolds J N l i e a w) {o : Oper} {r : ROp} {d : Option Nat} {v : PVal} (ho : opIs P o.op r = true) (hd : dstIs N o.dst d = true)
    (hr : aOp r (d.getD 0) e [] = some (.p v, [], .no)) (hc : isMv r = true ∨ (noYl e (opArgs r) = true ∧ isYl (.p v) = false)) {next : Act → World → Prop} {Q : Exit → Act → World → Prop}
    (hn : ∀ a w, YHolds J N l i (put d (.p v) e) a w → next a w) : o.wpIn Fence.wide 0 P a w next Q := by
  obtain ⟨F, h1, h2, h3, h4⟩ := h
  have hr' : aOp r (d.getD 0) (sbE l e) [] = some (sbY l (.p v), [], .no) := by
    rcases hc with hc | ⟨hc1, hc2⟩
    · cases r <;> simp only [isMv, Bool.false_eq_true] at hc
      rename_i x
      cases x with
      | c => simp at hc
      | s t =>
        simp only [aOp, ev1, evA] at hr ⊢
        rw [lk_sbE]
        cases hl : lk e t with
        | none => rw [hl] at hr; cases hr
        | some u => rw [hl] at hr; cases hr; rfl
    · rw [aOp_env (noYl_ev hc1), hr]
      simp [sbY, hc2]
  obtain ⟨n, c, w', G', k1, k2, k3, k4⟩ := aOp_ok (C := (Ctx.of (bare F) w).re (bare F) w) (o := o) ho (fun pl a h => by simp [getAt, lk] at h) (hJ.good i F w h1).re (h2.ctx rfl) hr'
  have hgood := good_of rfl k4.good
  have hput : YHolds J N l i (put d (.p v) e) (a.put o.dst c) w' := by
    refine ⟨G'.F, hJ.step i F w G' w' h1 hgood, ?_, ?_, by cases hod : o.dst <;> simp [Act.put, h4]⟩
    · rw [sbE_put]
      have he : ER (Ctx.of (bare G'.F) w') (bare G'.F) (sbE l e) a.tmps := (pure_er h2 k4.le).ctx rfl
      have hv : VR (bare G'.F) (sbY l (.p v)) c := by
        have : ∃ u, sbY l (.p v) = .p u := by unfold sbY; split <;> exact ⟨_, rfl⟩
        obtain ⟨u, hu⟩ := this
        rw [hu] at k3 ⊢
        cases k3 with | p h => exact .p h
      unfold dstIs at hd
      split at hd
      · rename_i heq1
        rw [heq1]
        exact he
      · rename_i d1 d2 heq1
        simp only [Bool.and_eq_true, beq_iff_eq] at hd
        obtain ⟨⟨rfl, hd1⟩, hd2⟩ := hd
        have g1 := Nat.le_of_ble_eq_true hd1
        have g2 := Nat.le_of_ble_eq_true hd2
        rw [heq1]
        exact ER.put he (by rw [h3]; omega) (by omega) hv
      · cases hd
    · cases hod : o.dst <;> simp [Act.put, h3]
  refine ⟨fun _ _ => trivial, ?_⟩
  rw [Oper.semAt_eq _ _ _ (opIs_plain ho), k1]
  rcases k2 with rfl | ⟨rfl, rfl⟩
  · exact hn _ _ hput
  · exact hn _ _ hput
theorem yOps_ok (hJ : YOK J) {i : Option Nat} : ∀ {pre : List RO} {e e1 : Env}, yOps pre e = some e1 → ∀ {all : Array Oper} {os : List Oper} {rest : List RO} {a : Act} {w : World} {Q : Exit → Act → World → Prop},
    opsAre P N all os (pre ++ rest) = true → YHolds J N l i e a w → (∀ os' a w, opsAre P N all os' rest = true → YHolds J N l i e1 a w → wpListIn Fence.wide 0 P all Q os' a w) → wpListIn Fence.wide 0 P all Q os a w := by
  intro pre
  induction pre with
  | nil => intro e e1 h all os rest a w Q ho hh hn; cases h; exact hn os a w ho hh
  | cons r rs ih =>
    intro e e1 h all os rest a w Q ho hh hn
    cases os with
    | nil => simp [opsAre] at ho
    | cons o os =>
      simp only [List.cons_append, opsAre, roIs, Bool.and_eq_true] at ho
      obtain ⟨⟨⟨hd, hg⟩, hi⟩, hrest⟩ := ho
      obtain ⟨d, it, g⟩ := r
      cases it with
      | op o' =>
        cases g with
        | some g => simp [yOps] at h
        | none =>
          simp only [yOps] at h
          split at h
          · rename_i v hv
            split at h
            · rename_i hc
              have hg' := guardIs_none hg
              unfold wpListIn
              rw [if_pos (by simp [Region.wanted, hg'])]
              exact yOp_step hJ hh hi hd hv hc (fun a w hh' => ih h hrest hh' hn)
            · cases h
          · cases h
      | call f avs => simp [yOps] at h
      | callv f avs => simp [yOps] at h
      | calli f avs l => simp [yOps] at h
/-- What a yield does, phase by phase. -/
def YieldOK (P : Program) (l : Nat) (xs : List (List PVal)) (J : Option Nat → Frz → World → Prop) : Prop :=
  ∀ i F W x (av : Array Value), J (some i) F W → xs[i]? = some x → av.size = x.length → (∀ (k : Nat) (p : PVal) (c : Value), x[k]? = some p → av[k]? = some c → PV F p c) →
      YieldAt Fence.wide 0 P l av W fun e W' => (e = .returned (.bool true) ∧ ∃ F', F.le F' ∧ J (some (i + 1)) F' W') ∨ (e = .returned (.bool false) ∧ ∃ F', F.le F' ∧ J none F' W')
def toEx : XE → Exit
  | .normal => .normal
  | .exit i => .exit i
  | .ret => .ret
def YQ (J : Option Nat → Frz → World → Prop) (N l : Nat) (x : XE) (i : Nat) (e : Env) : Exit → Act → World → Prop :=
  fun ex a w => (ex = toEx x ∧ YHolds J N l (some i) e a w) ∨ (ex = .ret ∧ ∃ e', YHolds J N l none e' a w)
def Outs (xs : List (List PVal)) (i : Nat) (o : List (List PVal)) : Prop := ∀ (k : Nat) (x : List PVal), o[k]? = some x → xs[i + k]? = some x
theorem Outs.left {xs : List (List PVal)} {i : Nat} {o o' : List (List PVal)} (h : Outs xs i (o ++ o')) : Outs xs i o := fun k x hk => h k x (by rw [List.getElem?_append_left (List.getElem?_eq_some_iff.1 hk).1]; exact hk)
theorem Outs.right {xs : List (List PVal)} {i : Nat} {o o' : List (List PVal)} (h : Outs xs i (o ++ o')) : Outs xs (i + o.length) o' := fun k x hk => by
  have := h (o.length + k) x (by rw [List.getElem?_append_right (by omega)]; simpa using hk)
  rwa [← Nat.add_assoc] at this
variable {xs : List (List PVal)}
theorem y_evA {i : Option Nat} {e : Env} {a : Act} {w : World} (h : YHolds J N l i e a w) {x : Operand} {y : Arg} (hx : argIs x y = true) {v : AVal} (hv : evA e y = some v) (hy : isYl v = false) :
    ∃ F, J i F w ∧ VR (bare F) v (a.eval x) := by
  obtain ⟨F, h1, h2, _⟩ := h
  exact ⟨F, h1, arg_ok hx h2 (evA_sbE hv hy)⟩
theorem yCond {i : Option Nat} {e : Env} {a : Act} {w : World} (h : YHolds J N l i e a w) {x : Operand} {y : Arg} (hx : argIs x y = true) {b : Bool} (hv : evA e y = some (.p (.bool b))) : a.eval x = .bool b := by
  obtain ⟨F, _, hvr⟩ := y_evA h hx hv rfl
  have := hvr.out
  generalize a.eval x = c at this
  cases this
  rfl
theorem yOne_ok (hJ : YOK J) (hY : YieldOK P l xs J) {ls : List RO} {c : Arg} {e e' : Env} {x : XE} {o : List (List PVal)} (h : yOne ls c e = some (x, o, e')) {ca cb : Code} (h1 : codeIs P N ca (.ops ls) = true) (h2 : codeIs P N cb (.cond c .ret .skip) = true)
    {i : Nat} (hO : Outs xs i o) {a : Act} {w : World} (hh : YHolds J N l (some i) e a w) : (Code.seq ca cb).wpIn Fence.wide 0 P (YQ J N l x (i + o.length) e') a w := by
  obtain ⟨id, ops, rfl, hops⟩ := codeIs_ops h1
  obtain ⟨co, cA, cB, rfl, hc0, hcA, hcB⟩ := codeIs_cond h2
  obtain rfl := codeIs_ret hcA
  have hskip := codeIs_skip hcB
  -- what the condition says
  have fin : ∀ {ph : Option Nat} {e2 : Env} {t : Bool} {a : Act} {w : World} {Q : Exit → Act → World → Prop}, YHolds J N l ph e2 a w → evA e2 c = some (.p (.bool t)) → (t = true → Q .ret a w) → (t = false → Q .normal a w) →
      (Code.cond co .ret cB).wpIn Fence.wide 0 P Q a w := by
    intro ph e2 t a w Q hh2 ht q1 q2
    refine wpIn_cond (yCond hh2 hc0 ht) ?_
    cases t with
    | true => exact wpIn_ret (q1 rfl)
    | false =>
      rcases hskip with rfl | ⟨lb, rfl⟩
      · exact wpIn_skip (q2 rfl)
      · exact wpIn_label (q2 rfl)
  refine wpIn_seq (wpIn_region_list ?_)
  unfold yOne at h
  split at h
  · rename_i pre d x' args post hsp
    rw [splitY_ok hsp] at hops
    split at h
    · rename_i e1 he1
      split at h
      · rename_i yl vs hx' hvs
        split at h
        · rename_i ps hps
          split at h
          · rename_i hny
            split at h
            · rename_i e2 e3 he2 he3
              split at h
              · rename_i t2 t3
                cases h
                refine yOps_ok hJ he1 hops hh ?_
                intro os' a w hos hh1
                cases os' with
                | nil => simp [opsAre] at hos
                | cons op os' =>
                  simp only [opsAre, roIs, Bool.and_eq_true] at hos
                  obtain ⟨⟨⟨hd, hg⟩, hi⟩, hrest⟩ := hos
                  have hg' := guardIs_none hg
                  unfold wpListIn
                  rw [if_pos (by simp [Region.wanted, hg'])]
                  obtain ⟨dst, opp, type, pos, after, guard⟩ := op
                  simp only [itemIs] at hi
                  split at hi
                  · rename_i g ys tys
                    simp only [Bool.and_eq_true] at hi
                    obtain ⟨hgx, hxs⟩ := hi
                    obtain ⟨F, f1, f2, f3, f4⟩ := hh1
                    have hgv : a.eval g = .func (.yield l) #[] #[] := by
                      have hvr : VR (bare F) (.p (.yl l)) (a.eval g) := by
                        cases x' with
                        | c p =>
                          simp only [evA, Option.some.injEq, AVal.p.injEq] at hx'
                          subst hx'
                          cases g <;> simp [argIs, valIs, scIs] at hgx
                        | s t =>
                          simp only [evA] at hx'
                          have := arg_ok hgx f2 (v := .p (.yl l)) (by simp only [evA]; rw [lk_sbE, hx']; rfl)
                          exact this
                      have := hvr.out
                      generalize a.eval g = cc at this
                      cases this
                      rfl
                    have hev : evAs (sbE l e1) args = some vs := by rw [← hvs]; exact evAs_congr (noYl_ev hny)
                    obtain ⟨p1, p2⟩ := args_pv f2 hxs hev hps
                    have hya := hY i F w ps (ys.map a.eval) f1 (by have := hO 0 ps (by simp); simpa using this) (by simpa using p1) (fun k p c hk hc => p2 k p c hk (by simpa [← Array.toList_map] using hc))
                    obtain ⟨fn, tmps, assign, body, y1, y2⟩ := hya
                    refine ⟨fun _ _ => trivial, ?_⟩
                    rw [Oper.semAt_eq _ _ _ (fun c h => by cases h)]
                    have hrun : (execOp a.eval { dst := dst, op := .call { callee := .value g, args := ys, argTypes := tys }, type := type, pos := pos, after := after, guard := guard }).run P w = .ok (.round l fn tmps assign body) w := by
                      rw [← y1]
                      simp [execOp, resolve, hgv, invoke, Deferred.ofValue]
                    rw [hrun, Oper.uponIn_round]
                    refine ⟨(fun h => by cases h), RoundIn.mono y2 ?_⟩
                    intro en w' hen
                    have after : ∀ {ph : Option Nat} {b : Bool} {F' : Frz}, F.le F' → J ph F' w' → YHolds J N l ph (put d (.p (.bool b)) e1) (a.put dst (.bool b)) w' := by
                      intro ph b F' hle hj
                      refine ⟨F', hj, ?_, by cases dst <;> simp [Act.put, f3], by cases dst <;> simp [Act.put, f4]⟩
                      rw [sbE_put]
                      have he : ER (Ctx.of (bare F') w') (bare F') (sbE l e1) a.tmps := (pure_er f2 hle).ctx rfl
                      have hv : VR (bare F') (sbY l (.p (.bool b))) (.bool b) := .p (.bool b)
                      cases dst with
                      | none => cases d with
                        | none => exact he
                        | some d2 => simp [dstIs] at hd
                      | some d1 => cases d with
                        | none => simp [dstIs] at hd
                        | some d2 =>
                          simp only [dstIs, Bool.and_eq_true, beq_iff_eq] at hd
                          obtain ⟨⟨rfl, hd1⟩, hd2⟩ := hd
                          have g1 := Nat.le_of_ble_eq_true hd1
                          have g2 := Nat.le_of_ble_eq_true hd2
                          exact ER.put he (by rw [f3]; omega) (by omega) hv
                    rcases hen with ⟨rfl, F', hle, hj⟩ | ⟨rfl, F', hle, hj⟩
                    · refine yOps_ok hJ (rest := []) he2 (by rw [List.append_nil]; exact hrest) (after hle hj) ?_
                      intro os2 a2 w2 ho2 hh2
                      cases os2 with
                      | cons => simp [opsAre] at ho2
                      | nil => exact wpListIn_nil (fin hh2 t2 (fun h => by cases h) (fun _ => .inl ⟨rfl, hh2⟩))
                    · refine yOps_ok hJ (rest := []) he3 (by rw [List.append_nil]; exact hrest) (after hle hj) ?_
                      intro os2 a2 w2 ho2 hh2
                      cases os2 with
                      | cons => simp [opsAre] at ho2
                      | nil => exact wpListIn_nil (fin hh2 t3 (fun _ => .inr ⟨rfl, _, hh2⟩) (fun h => by cases h))
                  · cases hi
              · cases h
            · cases h
          · cases h
        · cases h
      · cases h
    · cases h
  · split at h
    · rename_i e1 he1
      refine yOps_ok hJ (rest := []) he1 (by rw [List.append_nil]; exact hops) hh ?_
      intro os2 a2 w2 ho2 hh2
      cases os2 with
      | cons => simp [opsAre] at ho2
      | nil =>
        split at h
        · rename_i t
          cases h
          exact wpListIn_nil (fin hh2 t (fun _ => .inl ⟨rfl, hh2⟩) (fun h => by cases h))
        · rename_i t
          cases h
          exact wpListIn_nil (fin hh2 t (fun h => by cases h) (fun _ => .inl ⟨rfl, hh2⟩))
        · cases h
    · cases h
theorem YQ.cast {x : XE} {i j : Nat} {e : Env} (h : i = j) : ∀ ex a w, YQ J N l x i e ex a w → YQ J N l x j e ex a w := by subst h; exact fun _ _ _ h => h
/-- WHAT IS HANDED OUT HOLDS OF THE PROGRAM. -/
theorem yEx_ok (hJ : YOK J) (hY : YieldOK P l xs J) (n : Nat) : ∀ (rc : RCode) (e : Env) (x : XE) (o : List (List PVal)) (e' : Env), yEx n rc e = some (x, o, e') → ∀ c, codeIs P N c rc = true →
    ∀ i, Outs xs i o → ∀ a w, YHolds J N l (some i) e a w → c.wpIn Fence.wide 0 P (YQ J N l x (i + o.length) e') a w := by
  intro rc
  induction rc with
  | skip =>
    intro e x o e' h c hc i hO a w hh
    simp only [yEx, Option.some.injEq, Prod.mk.injEq] at h
    obtain ⟨rfl, rfl, rfl⟩ := h
    rcases codeIs_skip hc with rfl | ⟨lb, rfl⟩
    · exact wpIn_skip (.inl ⟨rfl, hh⟩)
    · exact wpIn_label (.inl ⟨rfl, hh⟩)
  | ops ls =>
    intro e x o e' h c hc i hO a w hh
    obtain ⟨id, ops, rfl, hops⟩ := codeIs_ops hc
    simp only [yEx] at h
    split at h
    · rename_i e1 he1
      cases h
      refine wpIn_region_list (yOps_ok hJ (rest := []) he1 (by rw [List.append_nil]; exact hops) hh ?_)
      intro os2 a2 w2 ho2 hh2
      cases os2 with
      | cons => simp [opsAre] at ho2
      | nil => exact wpListIn_nil (.inl ⟨rfl, hh2⟩)
    · cases h
  | seq ra rb iha ihb =>
    intro e x o e' h c hc i hO a w hh
    obtain ⟨ca, cb, rfl, h1, h2⟩ := codeIs_seq hc
    simp only [yEx] at h
    split at h
    · rename_i ls cnd hy
      unfold yieldC at hy
      split at hy
      · cases hy
        exact yOne_ok hJ hY h h1 h2 hO hh
      · cases hy
    · split at h
      · rename_i o1 e1 he1
        split at h
        · rename_i x2 o2 e2 he2
          cases h
          refine wpIn_seq (wpIn_mono (iha _ _ _ _ he1 ca h1 i hO.left a w hh) ?_)
          intro ex a1 w1 hl
          rcases hl with ⟨rfl, hh1⟩ | ⟨rfl, e3, hh1⟩
          · exact wpIn_mono (ihb _ _ _ _ he2 cb h2 _ hO.right a1 w1 hh1) (YQ.cast (by simp; omega))
          · exact .inr ⟨rfl, e3, hh1⟩
        · cases h
      · rename_i hne
        refine wpIn_seq (wpIn_mono (iha _ _ _ _ h ca h1 i hO a w hh) ?_)
        intro ex a1 w1 hl
        rcases hl with ⟨rfl, hh1⟩ | ⟨rfl, e3, hh1⟩
        · cases x with
          | normal => exact absurd h (hne _ _)
          | exit j => exact .inl ⟨rfl, hh1⟩
          | ret => exact .inl ⟨rfl, hh1⟩
        · exact .inr ⟨rfl, e3, hh1⟩
  | cond cd ra rb iha ihb =>
    intro e x o e' h c hc i hO a w hh
    obtain ⟨co, ca, cb, rfl, h0, h1, h2⟩ := codeIs_cond hc
    simp only [yEx] at h
    split at h
    · rename_i t ht
      refine wpIn_cond (yCond hh h0 ht) ?_
      cases t with
      | true => exact iha _ _ _ _ (by simpa using h) ca h1 i hO a w hh
      | false => exact ihb _ _ _ _ (by simpa using h) cb h2 i hO a w hh
    · cases h
  | block id rb ih =>
    intro e x o e' h c hc i hO a w hh
    obtain ⟨cb, rfl, h1⟩ := codeIs_block hc
    simp only [yEx] at h
    refine wpIn_block ?_
    split at h
    · rename_i j o1 e1 he1
      have ho : o1 = o ∧ e1 = e' ∧ x = if j = id then .normal else .exit j := by
        split at h
        · rename_i hj; cases h; exact ⟨rfl, rfl, by rw [if_pos hj]⟩
        · rename_i hj; cases h; exact ⟨rfl, rfl, by rw [if_neg hj]⟩
      obtain ⟨rfl, rfl, rfl⟩ := ho
      refine wpIn_mono (ih _ _ _ _ he1 cb h1 i hO a w hh) ?_
      intro ex a1 w1 hl
      rcases hl with ⟨rfl, hh1⟩ | ⟨rfl, e3, hh1⟩
      · simp only [toEx, Exit.inBlock]
        by_cases hj : j = id
        · rw [if_pos hj]; rw [if_pos hj]; exact .inl ⟨rfl, hh1⟩
        · rw [if_neg hj]; rw [if_neg hj]; exact .inl ⟨rfl, hh1⟩
      · exact .inr ⟨rfl, e3, hh1⟩
    · rename_i hne
      refine wpIn_mono (ih _ _ _ _ h cb h1 i hO a w hh) ?_
      intro ex a1 w1 hl
      rcases hl with ⟨rfl, hh1⟩ | ⟨rfl, e3, hh1⟩
      · cases x with
        | exit j => exact absurd h (hne _ _ _)
        | normal => exact .inl ⟨rfl, hh1⟩
        | ret => exact .inl ⟨rfl, hh1⟩
      · exact .inr ⟨rfl, e3, hh1⟩
  | loop live rb ih =>
    intro e x o e' h c hc i hO a w hh
    obtain ⟨b, rfl, hb⟩ := codeIs_loop hc
    simp only [yEx] at h
    let B : Env → YS := fun e => match yEx n rb e with
      | some (.normal, o, e1) => some (.normal, o, e1.filter fun x => live.contains x.1)
      | r => r
    have hB : yLoopN n B (e.filter fun x => live.contains x.1) = some (x, o, e') := h
    let I : Nat → Act → World → Prop := fun k a w => ∃ j e1 o1, yLoopN k B e1 = some (x, o1, e') ∧ YHolds J N l (some j) e1 a w ∧ Outs xs j o1 ∧ j + o1.length = i + o.length
    classical
    refine wpIn_loop (fun a w => ∃ k, I k a w) (fun a w => if h : ∃ k, I k a w then Classical.choose (least h) else 0) ?_ ?_
    · exact ⟨n, i, _, o, hB, hh.keep, hO, rfl⟩
    · intro a w hex
      obtain ⟨j, e1, o1, hk, hh1, hO1, hlen⟩ := (Classical.choose_spec (least hex)).1
      generalize hkk : Classical.choose (least hex) = k at hk
      have hmin : ∀ k', I k' a w → k ≤ k' := by rw [← hkk]; exact (Classical.choose_spec (least hex)).2
      cases k with
      | zero => cases hk
      | succ k =>
        simp only [yLoopN] at hk
        have hμ : (if h : ∃ k, I k a w then Classical.choose (least h) else 0) = k + 1 := by rw [dif_pos hex]; exact hkk
        cases hy : yEx n rb e1 with
        | none => simp [B, hy] at hk
        | some r =>
          obtain ⟨x1, o2, e2⟩ := r
          cases x1 with
          | normal =>
            have hBe : B e1 = some (.normal, o2, e2.filter fun x => live.contains x.1) := by simp [B, hy]
            rw [hBe] at hk
            simp only at hk
            split at hk
            · rename_i x3 o3 e3 hk3
              simp only [Option.some.injEq, Prod.mk.injEq] at hk
              obtain ⟨rfl, rfl, rfl⟩ := hk
              refine wpIn_mono (ih _ _ _ _ hy b hb j hO1.left a w hh1) ?_
              intro ex a1 w1 hl
              rcases hl with ⟨rfl, hh2⟩ | ⟨rfl, e4, hh2⟩
              · have hex' : ∃ k, I k a1 w1 := ⟨k, j + o2.length, _, o3, hk3, hh2.keep, hO1.right, by simp at hlen; omega⟩
                refine ⟨hex', ?_⟩
                rw [hμ, dif_pos hex']
                have := (Classical.choose_spec (least hex')).2 k ⟨j + o2.length, _, o3, hk3, hh2.keep, hO1.right, by simp at hlen; omega⟩
                omega
              · exact .inr ⟨rfl, e4, hh2⟩
            · cases hk
          | exit q =>
            have hBe : B e1 = some (.exit q, o2, e2) := by simp [B, hy]
            rw [hBe] at hk
            simp only [Option.some.injEq, Prod.mk.injEq] at hk
            obtain ⟨rfl, rfl, rfl⟩ := hk
            refine wpIn_mono (ih _ _ _ _ hy b hb j hO1 a w hh1) ?_
            intro ex a1 w1 hl
            rcases hl with ⟨rfl, hh2⟩ | ⟨rfl, e4, hh2⟩
            · exact .inl ⟨rfl, by rw [← hlen]; exact hh2⟩
            · exact .inr ⟨rfl, e4, hh2⟩
          | ret =>
            have hBe : B e1 = some (.ret, o2, e2) := by simp [B, hy]
            rw [hBe] at hk
            simp only [Option.some.injEq, Prod.mk.injEq] at hk
            obtain ⟨rfl, rfl, rfl⟩ := hk
            refine wpIn_mono (ih _ _ _ _ hy b hb j hO1 a w hh1) ?_
            intro ex a1 w1 hl
            rcases hl with ⟨rfl, hh2⟩ | ⟨rfl, e4, hh2⟩
            · exact .inl ⟨rfl, by rw [← hlen]; exact hh2⟩
            · exact .inr ⟨rfl, e4, hh2⟩
  | exit q =>
    intro e x o e' h c hc i hO a w hh
    simp only [yEx, Option.some.injEq, Prod.mk.injEq] at h
    obtain ⟨rfl, rfl, rfl⟩ := h
    obtain rfl := codeIs_exit hc
    exact wpIn_exit (.inl ⟨rfl, hh⟩)
  | ret =>
    intro e x o e' h c hc i hO a w hh
    simp only [yEx, Option.some.injEq, Prod.mk.injEq] at h
    obtain ⟨rfl, rfl, rfl⟩ := h
    obtain rfl := codeIs_ret hc
    exact wpIn_ret (.inl ⟨rfl, hh⟩)
  | _ => intro e x o e' h; simp [yEx] at h
/-- AN ITERATOR OF PURE VALUES. -/
theorem yCall_ok {g n : Nat} {rc : RCode} {caps : List PVal} (hf : fnIs P g N [] rc = true) (hc : calleeIs P g = true) {xs : List (List PVal)} (h : yCall n N rc caps = some xs) : Seq P g caps xs := by
  unfold yCall at h
  split at h
  · rename_i hcond
    obtain ⟨hN1, hny⟩ := hcond
    have hN := hf
    unfold fnIs at hf
    split at hf
    · rename_i fn hfn
      split at hf
      · rename_i c hbody
        simp only [Bool.and_eq_true, beq_iff_eq] at hf
        obtain ⟨⟨⟨rfl, hN6⟩, hres⟩, hcode⟩ := hf
        have hN6 := Nat.le_of_ble_eq_true hN6
        refine ⟨hc, ?_⟩
        intro l cv Jn Jx F0 W0 hsz hcv hg1 hg2 hs1 hs2 hY hJ0
        let J : Option Nat → Frz → World → Prop := fun i => match i with | some i => Jn i | none => Jx
        have hJ : YOK J := ⟨fun i F W hj => by cases i with | some i => exact hg1 i F W hj | none => exact hg2 F W hj, fun i F W G2 W' hj => by cases i with | some i => exact hs1 i F W G2 W' hj | none => exact hs2 F W G2 W' hj⟩
        have hYO : YieldOK P l xs J := hY
        have key : ∃ x e', (∀ i, x ≠ .exit i) ∧ yEx n rc (entry 0 ((.p (.yl 0)) :: caps.map .p)) = some (x, xs, e') := by
          cases hy : yEx n rc (entry 0 ((.p (.yl 0)) :: caps.map .p)) with
          | none => rw [hy] at h; cases h
          | some r =>
            obtain ⟨x, o, e'⟩ := r
            rw [hy] at h
            cases x with
            | exit i => cases h
            | normal => cases h; exact ⟨_, e', (fun i hi => by cases hi), rfl⟩
            | ret => cases h; exact ⟨_, e', (fun i hi => by cases hi), rfl⟩
        obtain ⟨x, e', hne, hx⟩ := key
        have hstart : YHolds J fn.ntmps l (some 0) (entry 0 ((.p (.yl 0)) :: caps.map .p)) { tmps := (#[Value.func (.yield l) #[] #[]] ++ cv) ++ Array.replicate (fn.ntmps - (#[Value.func (.yield l) #[] #[]] ++ cv).size) undef, defers := [] } W0 := by
          refine ⟨F0, hJ0, ?_, by simp [hsz]; omega, rfl⟩
          intro t v hv
          rw [lk_sbE] at hv
          simp only [Option.map_eq_some_iff] at hv
          obtain ⟨u, hu, rfl⟩ := hv
          obtain ⟨_, h2⟩ := entry_lk hu
          rw [Nat.sub_zero] at h2
          have hlt : t < (caps.length + 1) := by have := (List.getElem?_eq_some_iff.1 h2).1; simpa using this
          rw [slotOf_lt (by omega)]
          cases t with
          | zero =>
            simp at h2
            subst h2
            refine ⟨.func (.yield l) #[] #[], ?_, .p (.yl l)⟩
            rw [Array.getElem?_append_left (by simp; omega), Array.getElem?_append_left (by simp)]
            rfl
          | succ t =>
            simp only [List.getElem?_cons_succ, List.getElem?_map, Option.map_eq_some_iff] at h2
            obtain ⟨p, hp, rfl⟩ := h2
            have hty : t < cv.size := by omega
            refine ⟨cv[t], ?_, ?_⟩
            · rw [Array.getElem?_append_left (by simp; omega), Array.getElem?_append_right (by simp)]
              simp [hty]
            · have hyl : isYl (.p p) = false := by
                have := List.all_eq_true.1 hny p (List.mem_of_getElem? hp)
                simpa using this
              simp only [sbY, hyl, Bool.false_eq_true, if_false]
              exact .p (hcv t p _ hp (by simp [hty]))
        refine (callsIn_wide (n := 0)).1 (callsIn_of_wp_marks hfn hbody trivial (wpIn_mono (yEx_ok hJ hYO n rc _ _ _ _ hx c hcode 0 (fun k y hk => by rw [Nat.zero_add]; exact hk) _ W0 hstart) ?_) rfl)
        intro ex a w' hl
        have fin : ∀ {ph : Option Nat} {e1 : Env}, YHolds J fn.ntmps l ph e1 a w' → (∀ F, J ph F w' → (∃ F', Jn xs.length F' w') ∨ ∃ F', Jx F' w') →
            LeavesInM Fence.wide 0 P fn a.tmps (fun e W' => (∃ v, e = .returned v) ∧ ((∃ F', Jn xs.length F' W') ∨ ∃ F', Jx F' W')) a.defers .returning w' := by
          rintro ph e1 ⟨F, f1, f2, f3, f4⟩ hph
          have hgd := hJ.good ph F w' f1
          rw [f4]
          obtain ⟨cc, g1, g2⟩ := resVal_ok (P := P) (C := Ctx.of (bare F) w') (fn := fn) (ts := []) hres (tmps := a.tmps) (e := sbE l e1) (m := []) (v := mkTup []) rfl (G := bare F) (w := w') (fun pl a h => by simp [getAt, lk] at h) hgd f2
          exact ⟨cc, g1, ⟨_, rfl⟩, hph F f1⟩
        rcases hl with ⟨rfl, hh⟩ | ⟨rfl, e1, hh⟩
        · rw [Nat.zero_add] at hh
          cases x with
          | normal => exact fin hh (fun F hj => .inl ⟨F, hj⟩)
          | ret => exact fin hh (fun F hj => .inl ⟨F, hj⟩)
          | exit i => exact absurd rfl (hne i)
        · exact fin hh (fun F hj => .inr ⟨F, hj⟩)
      · cases hf
    · cases hf
  · cases h
end
end Go.Proofs.Ytnmnijgoggombaa.X
/- The hands of a table. -/
namespace Go.Proofs.Ytnmnijgoggombaa.X
open Go.RowKit
def handsIn : RCode → List (Nat × RCode)
  | .hand i b => [(i, b)]
  | .seq a b => handsIn a ++ handsIn b
  | .cond _ a b => handsIn a ++ handsIn b
  | .block _ b => handsIn b
  | .loop _ b => handsIn b
  | .scope b => handsIn b
  | .frz _ b => handsIn b
  | .rangeF _ _ _ a b => handsIn a ++ handsIn b
  | _ => []
theorem handsIn_ok {P : Program} {N : Nat} {σ : Sig} {O : Ora} : ∀ {rc : RCode}, (∀ i b, (i, b) ∈ handsIn rc → ∀ (C : Ctx) (e : Env) (m : Mem) (r : XE × Env × Mem), O.ρ σ i e m = some r → xWp P C N b (fun x e m => (x, e, m) = r) e m) → HandsOK P N σ O rc := by
  intro rc
  induction rc with
  | hand i b _ => intro h; exact h i b (by simp [handsIn])
  | seq a b iha ihb => intro h; exact ⟨iha fun i c hc => h i c (by simp [handsIn, hc]), ihb fun i c hc => h i c (by simp [handsIn, hc])⟩
  | cond x a b iha ihb => intro h; exact ⟨iha fun i c hc => h i c (by simp [handsIn, hc]), ihb fun i c hc => h i c (by simp [handsIn, hc])⟩
  | rangeF x ps l a b iha ihb => intro h; exact ⟨iha fun i c hc => h i c (by simp [handsIn, hc]), ihb fun i c hc => h i c (by simp [handsIn, hc])⟩
  | block i b ih => intro h; exact ih h
  | loop l b ih => intro h; exact ih h
  | scope b ih => intro h; exact ih h
  | frz t b ih => intro h; exact ih h
  | _ => intro _; trivial
theorem itN_ok (n : Nat) : LoopOK (itN n) := fun _ _ _ _ h => ⟨n, h⟩
def noH : Sig := fun _ _ => none
def noHI : SigI := fun _ _ => none
theorem noH_ok {P : Program} : SigOK P noH := fun f ps t h => by cases h
theorem noHI_ok {P : Program} : SigIOK P noHI := fun f ps t bs h => by cases h
end Go.Proofs.Ytnmnijgoggombaa.X
/- The program's functions, resolved. -/
namespace Go.Proofs.Ytnmnijgoggombaa.X
open Go.RowKit Go.Proofs.Try
abbrev oD (d : Nat) (r : ROp) : RO := ⟨some d, .op r, none⟩
abbrev oDg (d : Nat) (r : ROp) (s : Nat) (b : Bool) : RO := ⟨some d, .op r, some (s, b)⟩
abbrev oN (r : ROp) : RO := ⟨none, .op r, none⟩
abbrev oNg (r : ROp) (s : Nat) (b : Bool) : RO := ⟨none, .op r, some (s, b)⟩
abbrev iD (d : Nat) (i : RItem) : RO := ⟨some d, i, none⟩
abbrev iDg (d : Nat) (i : RItem) (s : Nat) (b : Bool) : RO := ⟨some d, i, some (s, b)⟩
abbrev iN (i : RItem) : RO := ⟨none, i, none⟩
abbrev iNg (i : RItem) (s : Nat) (b : Bool) : RO := ⟨none, i, some (s, b)⟩
abbrev vI (n : Int) : PVal := .int .i64 n
abbrev kI (n : Int) : Arg := .c (.int .i64 n)
abbrev mS (s : Nat) : ROp := .mv (.s s)
attribute [go_sem] oD oDg oN oNg iD iDg iN iNg vI kI mS
/- codend/codendlaw07.TrawlLoads -/
def c3l0 : RCode := (.seq (.ops [(oD 39 (.bin .lss (.s 38) (.s 37)))]) (.seq (.cond (.s 39) .skip (.exit 0)) (.frz [999999999, 0, 3, 5, 36, 37, 38] (.seq (.block 1 (.seq (.ops [(oD 40 (.iaddr 3 none (.s 36) (.s 38))), (oD 41 (.load 3 true (.s 40))), (oD 7 (.alloc [(.str (bs [])), (vI 0), (vI 0)])), (oN (.store 3 (.s 7) (.s 41)))]) (.seq (.seq (.ops [(oD 42 (.faddr 0 (.s 7))), (oD 43 (.load 1 false (.s 42))), (oD 44 (.len .str (.s 43))), (oD 45 (.bin .gtr (.s 44) (kI 60)))]) (.cond (.s 45) (.seq (.ops [(iD 46 (.call 10 [])), (oD 4 (mS 46))]) .ret) .skip)) (.frz [999999999, 0, 3, 5, 7, 36, 37, 38] (.ops [(oD 47 (mS 5)), (oD 48 (.load 3 true (.s 7))), (oD 49 (.fslice 3 1 [(.str (bs [])), (vI 0), (vI 0)] [(0, (.s 48))])), (oD 50 (.append 3 32 [(.str (bs [])), (vI 0), (vI 0)] (.s 47) (.s 49))), (oD 5 (mS 50))]))))) (.frz [999999999, 0, 3, 5, 36, 37, 38] (.ops [(oD 51 (.bin .add (.s 38) (kI 1))), (oD 38 (mS 51))]))))))
def c3 : RCode := (.seq (.ops [(oD 3 (.box (.s 1))), (oD 4 (.mv (.c (.bool false))))]) (.seq (.seq (.ops [(iD 18 (.call 10 [])), (oD 19 (.un .not (.s 18))), (oD 20 (mS 19)), (oDg 21 (mS 0) 20 false), (oDg 22 (.len .sl (.s 21)) 20 false), (oDg 23 (.bin .gtr (.s 22) (kI 8)) 20 false), (oDg 24 (mS 23) 20 false), (oDg 25 (mS 0) 24 true), (oDg 26 (.len .sl (.s 25)) 24 true), (oDg 27 (.bin .leq (.s 26) (kI 64)) 24 true), (oDg 28 (.pick (.s 24) (.s 27) (.c (.bool false))) 20 false), (oD 29 (.pick (.s 20) (.c (.bool true)) (.s 28))), (oD 30 (mS 29)), (oDg 31 (mS 0) 30 false), (oDg 32 (.len .sl (.s 31)) 30 false), (oDg 33 (.bin .gtr (.s 32) (kI 66)) 30 false), (oD 34 (.pick (.s 30) (.c (.bool true)) (.s 33)))]) (.frz [999999999, 0, 3, 34] (.cond (.s 34) (.seq (.ops [(iD 35 (.call 10 [])), (oD 4 (mS 35))]) .ret) .skip))) (.frz [999999999, 0, 3] (.seq (.ops [(oD 5 (.mv (.c .nilslice)))]) (.seq (.seq (.ops [(oD 36 (mS 0)), (oD 37 (.len .sl (.s 36))), (oD 38 (.mv (kI 0)))]) (.block 0 (.loop [0, 3, 5, 36, 37, 38] c3l0))) (.frz [999999999, 0, 3, 5] (.seq (.ops [(oD 53 (.bslice 3 0 [(.str (bs [])), (vI 0), (vI 0)] [])), (oD 54 (mS 5)), (oD 55 (.append 3 32 [(.str (bs [])), (vI 0), (vI 0)] (.s 53) (.s 54))), (iD 56 (.call 11 [(.s 55)])), (oD 52 (mS 56)), (oD 57 (.extract 0 (.s 52))), (oD 58 (.extract 1 (.s 52))), (oD 59 (.extract 2 (.s 52))), (oD 8 (mS 57)), (oD 9 (mS 58)), (oD 10 (mS 59))]) (.frz [999999999, 0, 3, 5, 8, 9, 10] (.seq (.draw [0, 0, 3, 0, 8, 0, 32, 127, 255, 511, 511, 0, 3071, 8191] [(oD 61 (.bslice 3 0 [(.str (bs [])), (vI 0), (vI 0)] [])), (oD 62 (mS 5)), (oD 63 (.appendF 3 32 [(.str (bs [])), (vI 0), (vI 0)] (.s 61) (.s 62))), (oD 64 (.iaddr 1 (some 2) (.s 3) (kI 0))), (oD 65 (.load 1 false (.s 64))), (oD 66 (.iaddr 1 (some 2) (.s 3) (kI 1))), (oD 67 (.load 1 false (.s 66))), (iD 68 (.call 12 [(.s 63), (.s 65), (.s 67)])), (oD 60 (mS 68)), (oD 69 (.extract 0 (.s 60))), (oD 70 (.extract 1 (.s 60))), (oD 11 (.alloc [(vI 0), (vI 0)])), (oN (.store 2 (.s 11) (.s 69))), (oD 12 (mS 70))]) (.frz [999999999, 0, 3, 8, 9, 10, 11, 12] (.seq (.ops [(oD 71 (mS 0)), (iD 72 (.call 13 [(.s 71)])), (oD 13 (mS 72))]) (.seq (.ops [(oD 73 (mS 13)), (oD 14 (mS 73))]) (.seq (.ops [(oD 15 (.mv (kI 0))), (oD 16 (.mv (kI 0)))]) (.seq (.ops [(oD 17 (.alloc [(vI 0), (vI 0)]))]) (.seq (.seq (.ops [(oD 74 (mS 13)), (oD 75 (.bin .eql (.s 74) (kI 0)))]) (.cond (.s 75) (.seq (.ops [(oD 77 (mS 0)), (iD 78 (.call 14 [(.s 77)])), (oD 76 (mS 78)), (oD 79 (.extract 0 (.s 76))), (oD 80 (.extract 1 (.s 76))), (oD 15 (mS 79)), (oD 16 (mS 80))]) (.seq (.ops [(oD 81 (.iaddr 1 (some 2) (.s 3) (kI 0))), (oD 82 (.load 1 false (.s 81))), (oD 83 (.bin .lss (.s 82) (kI 1))), (oD 84 (mS 83)), (oDg 85 (.iaddr 1 (some 2) (.s 3) (kI 0)) 84 false), (oDg 86 (.load 1 false (.s 85)) 84 false), (oDg 87 (.bin .gtr (.s 86) (kI 1000000)) 84 false), (oD 88 (.pick (.s 84) (.c (.bool true)) (.s 87))), (oD 89 (mS 88)), (oDg 90 (.iaddr 1 (some 2) (.s 3) (kI 1)) 89 false), (oDg 91 (.load 1 false (.s 90)) 89 false), (oDg 92 (.bin .lss (.s 91) (kI 1)) 89 false), (oD 93 (.pick (.s 89) (.c (.bool true)) (.s 92))), (oD 94 (mS 93)), (oDg 95 (.iaddr 1 (some 2) (.s 3) (kI 1)) 94 false), (oDg 96 (.load 1 false (.s 95)) 94 false), (oDg 97 (.bin .gtr (.s 96) (kI 10000)) 94 false), (oD 98 (.pick (.s 94) (.c (.bool true)) (.s 97)))]) (.frz [999999999, 0, 3, 8, 9, 10, 11, 12, 13, 15, 16, 17, 98] (.cond (.s 98) (.ops [(oD 14 (.mv (kI 3)))]) (.ops [(oD 100 (mS 0)), (oD 101 (.iaddr 1 (some 2) (.s 3) (kI 0))), (oD 102 (.load 1 false (.s 101))), (oD 103 (.iaddr 1 (some 2) (.s 3) (kI 1))), (oD 104 (.load 1 false (.s 103))), (iD 105 (.call 15 [(.s 100), (.s 102), (.s 104)])), (oD 99 (mS 105)), (oD 106 (.extract 0 (.s 99))), (oD 107 (.extract 1 (.s 99))), (oN (.store 2 (.s 17) (.s 106))), (oD 14 (mS 107))]))))) .skip)) (.frz [999999999, 8, 9, 10, 11, 12, 13, 14, 15, 16, 17] (.seq (.ops [(oD 108 (mS 8)), (oD 109 (mS 15)), (oD 110 (.bin .eql (.s 108) (.s 109))), (oD 111 (mS 110)), (oDg 112 (mS 9) 111 true), (oDg 113 (mS 16) 111 true), (oDg 114 (.bin .eql (.s 112) (.s 113)) 111 true), (oD 115 (.pick (.s 111) (.s 114) (.c (.bool false)))), (oD 116 (mS 115)), (oDg 117 (mS 10) 116 true), (oDg 118 (mS 13) 116 true), (oDg 119 (.bin .eql (.s 117) (.s 118)) 116 true), (oD 120 (.pick (.s 116) (.s 119) (.c (.bool false)))), (oD 121 (mS 120)), (oDg 122 (.load 2 true (.s 11)) 121 true), (oDg 123 (.load 2 true (.s 17)) 121 true), (oDg 124 (.eq (.agg [.i, .i]) false (.s 122) (.s 123)) 121 true), (oD 125 (.pick (.s 121) (.s 124) (.c (.bool false)))), (oD 126 (mS 125)), (oDg 127 (mS 12) 126 true), (oDg 128 (mS 14) 126 true), (oDg 129 (.bin .eql (.s 127) (.s 128)) 126 true), (oD 130 (.pick (.s 126) (.s 129) (.c (.bool false)))), (oD 4 (mS 130))]) .ret)))))))))))))))))
def f3 : Fn := ⟨131, [(.t 4)], c3⟩
/- codend/codendlaw07.awake -/
def c10 : RCode := (.seq (.ops [(oD 0 (.mv (.c (.bool false))))]) (.seq (.ops [(iD 33 (.call 47 [(.c (.bool false))])), (iD 34 (.call 46 [(.s 33)])), (oD 32 (mS 34)), (oD 35 (.extract 0 (.s 32))), (oD 36 (.extract 1 (.s 32))), (oD 1 (mS 35)), (oD 2 (mS 36))]) (.seq (.ops [(iD 38 (.call 47 [(.c (.bool false))])), (iD 39 (.call 20 [(.s 38)])), (oD 37 (mS 39)), (oD 40 (.extract 0 (.s 37))), (oD 41 (.extract 1 (.s 37))), (oD 3 (.alloc [(vI 0), (vI 0), (vI 0), (vI 0), (vI 0), (vI 0)])), (oN (.store 6 (.s 3) (.s 40))), (oD 4 (mS 41))]) (.frz [999999999, 1, 2, 3, 4] (.seq (.ops [(iD 43 (.call 47 [(.c (.bool false))])), (iD 44 (.call 19 [(.s 43)])), (oD 42 (mS 44)), (oD 45 (.extract 0 (.s 42))), (oD 46 (.extract 1 (.s 42))), (oD 5 (mS 45)), (oD 6 (mS 46))]) (.seq (.ops [(iD 48 (.call 47 [(.c (.bool false))])), (iD 49 (.call 22 [(.s 48)])), (oD 47 (mS 49)), (oD 50 (.extract 0 (.s 47))), (oD 51 (.extract 1 (.s 47))), (oD 52 (.extract 2 (.s 47))), (oD 7 (mS 50)), (oD 8 (mS 51)), (oD 9 (mS 52))]) (.frz [999999999, 1, 2, 3, 4, 5, 6, 7, 8, 9] (.seq (.ops [(iD 54 (.call 47 [(.c (.bool false))])), (iD 55 (.call 41 [(.s 54)])), (oD 53 (mS 55)), (oD 56 (.extract 0 (.s 53))), (oD 57 (.extract 1 (.s 53))), (oD 10 (mS 56)), (oD 11 (mS 57))]) (.seq (.ops [(iD 59 (.call 47 [(.c (.bool false))])), (iD 60 (.call 21 [(.s 59)])), (oD 58 (mS 60)), (oD 61 (.extract 0 (.s 58))), (oD 62 (.extract 1 (.s 58))), (oD 12 (mS 61)), (oD 13 (mS 62))]) (.seq (.ops [(iD 64 (.call 47 [(.c (.bool false))])), (iD 65 (.call 25 [(.s 64)])), (oD 63 (mS 65)), (oD 66 (.extract 0 (.s 63))), (oD 67 (.extract 1 (.s 63))), (oD 14 (mS 66)), (oD 15 (mS 67))]) (.seq (.seq (.ops [(oD 68 (mS 2)), (oD 69 (mS 4)), (oD 70 (.bin .add (.s 68) (.s 69))), (oD 71 (mS 6)), (oD 72 (.bin .add (.s 70) (.s 71))), (oD 73 (mS 9)), (oD 74 (.bin .add (.s 72) (.s 73))), (oD 75 (mS 11)), (oD 76 (.bin .add (.s 74) (.s 75))), (oD 77 (mS 13)), (oD 78 (.bin .add (.s 76) (.s 77))), (oD 79 (mS 15)), (oD 80 (.bin .add (.s 78) (.s 79))), (oD 81 (.bin .neq (.s 80) (kI 0))), (oD 82 (mS 81)), (oDg 83 (mS 1) 82 false), (oDg 84 (.bslice 1 4 [(vI 0)] [(0, (kI 0)), (1, (kI 1)), (2, (kI 2)), (3, (kI 3))]) 82 false), (oDg 85 (.bslice 1 4 [(vI 0)] [(0, (kI 1)), (1, (kI 0)), (2, (kI 3)), (3, (kI 2))]) 82 false), (oDg 86 (.fslice 1 2 [.nilslice] [(0, (.s 84)), (1, (.s 85))]) 82 false), (iDg 87 (.call 48 [(.s 83), (.s 86)]) 82 false), (oDg 88 (.un .not (.s 87)) 82 false), (oD 89 (.pick (.s 82) (.c (.bool true)) (.s 88))), (oD 90 (mS 89)), (oDg 91 (.load 6 true (.s 3)) 90 false), (oDg 92 (.build [(vI 0), (vI 0), (vI 0), (vI 0), (vI 0), (vI 0)] [(0, (1, (kI 4))), (1, (1, (kI 6))), (2, (1, (kI 2))), (3, (1, (kI 1))), (4, (1, (kI 2))), (5, (1, (kI 0)))]) 90 false), (oDg 93 (.eq (.agg [.i, .i, .i, .i, .i, .i]) true (.s 91) (.s 92)) 90 false), (oD 94 (.pick (.s 90) (.c (.bool true)) (.s 93))), (oD 95 (mS 94)), (oDg 96 (mS 5) 95 false), (oDg 97 (.len .sl (.s 96)) 95 false), (oDg 98 (.bin .neq (.s 97) (kI 2)) 95 false), (oD 99 (.pick (.s 95) (.c (.bool true)) (.s 98))), (oD 100 (mS 99)), (oDg 101 (mS 5) 100 false), (oDg 102 (.iaddr 1 none (.s 101) (kI 1)) 100 false), (oDg 103 (.load 1 false (.s 102)) 100 false), (oDg 104 (.len .sl (.s 103)) 100 false), (oDg 105 (.bin .neq (.s 104) (kI 2)) 100 false), (oD 106 (.pick (.s 100) (.c (.bool true)) (.s 105))), (oD 107 (mS 106)), (oDg 108 (mS 5) 107 false), (oDg 109 (.iaddr 1 none (.s 108) (kI 1)) 107 false), (oDg 110 (.load 1 false (.s 109)) 107 false), (oDg 111 (.iaddr 2 none (.s 110) (kI 1)) 107 false), (oDg 112 (.load 2 true (.s 111)) 107 false), (oDg 113 (.build [(vI 0), (vI 0)] [(0, (1, (kI 1))), (1, (1, (kI 2)))]) 107 false), (oDg 114 (.eq (.agg [.i, .i]) true (.s 112) (.s 113)) 107 false), (oD 115 (.pick (.s 107) (.c (.bool true)) (.s 114))), (oD 116 (mS 115)), (oDg 117 (mS 7) 116 false), (oDg 118 (.len .sl (.s 117)) 116 false), (oDg 119 (.bin .neq (.s 118) (kI 2)) 116 false), (oD 120 (.pick (.s 116) (.c (.bool true)) (.s 119))), (oD 121 (mS 120)), (oDg 122 (mS 8) 121 false), (oDg 123 (.bin .neq (.s 122) (kI 20)) 121 false), (oD 124 (.pick (.s 121) (.c (.bool true)) (.s 123))), (oD 125 (mS 124)), (oDg 126 (mS 10) 125 false), (oDg 127 (.bslice 1 4 [(vI 0)] [(0, (kI 0)), (1, (kI 0)), (2, (kI 5)), (3, (kI 5))]) 125 false), (oDg 128 (.bslice 1 4 [(vI 0)] [(0, (kI 0)), (1, (kI 0)), (2, (kI 5)), (3, (kI 5))]) 125 false), (oDg 129 (.fslice 1 2 [.nilslice] [(0, (.s 127)), (1, (.s 128))]) 125 false), (iDg 130 (.call 48 [(.s 126), (.s 129)]) 125 false), (oDg 131 (.un .not (.s 130)) 125 false), (oD 132 (.pick (.s 125) (.c (.bool true)) (.s 131))), (oD 133 (mS 132)), (oDg 134 (mS 12) 133 false), (oDg 135 (.len .sl (.s 134)) 133 false), (oDg 136 (.bin .neq (.s 135) (kI 1)) 133 false), (oD 137 (.pick (.s 133) (.c (.bool true)) (.s 136))), (oD 138 (mS 137)), (oDg 139 (mS 12) 138 false), (oDg 140 (.iaddr 3 none (.s 139) (kI 0)) 138 false), (oDg 141 (.load 3 true (.s 140)) 138 false), (oDg 142 (.build [(.bool false), (vI 0), (vI 0)] [(0, (1, (.c (.bool true)))), (2, (1, (kI 2)))]) 138 false), (oDg 143 (.eq (.agg [.b, .i, .i]) true (.s 141) (.s 142)) 138 false), (oD 144 (.pick (.s 138) (.c (.bool true)) (.s 143))), (oD 145 (mS 144)), (oDg 146 (mS 14) 145 false), (oDg 147 (.fslice 1 2 [(vI 0)] [(0, (kI 1)), (1, (kI 1))]) 145 false), (iDg 148 (.call 31 [(.s 146), (.s 147)]) 145 false), (oDg 149 (.un .not (.s 148)) 145 false), (oD 150 (.pick (.s 145) (.c (.bool true)) (.s 149)))]) (.frz [999999999, 150] (.cond (.s 150) (.seq (.ops [(oD 0 (.mv (.c (.bool false))))]) .ret) .skip))) (.frz [999999999] (.seq (.ops [(iD 152 (.call 47 [(.c (.bool true))])), (iD 153 (.call 19 [(.s 152)])), (oD 151 (mS 153)), (oD 154 (.extract 0 (.s 151))), (oD 155 (.extract 1 (.s 151))), (oD 16 (mS 154)), (oD 17 (mS 155))]) (.seq (.ops [(iD 157 (.call 47 [(.c (.bool true))])), (iD 158 (.call 21 [(.s 157)])), (oD 156 (mS 158)), (oD 159 (.extract 0 (.s 156))), (oD 160 (.extract 1 (.s 156))), (oD 18 (mS 159)), (oD 19 (mS 160))]) (.seq (.ops [(iD 162 (.call 47 [(.c (.bool true))])), (iD 163 (.call 25 [(.s 162)])), (oD 161 (mS 163)), (oD 164 (.extract 0 (.s 161))), (oD 165 (.extract 1 (.s 161))), (oD 20 (mS 164)), (oD 21 (mS 165))]) (.seq (.ops [(iD 167 (.call 47 [(.c (.bool true))])), (iD 168 (.call 41 [(.s 167)])), (oD 166 (mS 168)), (oD 169 (.extract 0 (.s 166))), (oD 170 (.extract 1 (.s 166))), (oD 22 (mS 169)), (oD 23 (mS 170))]) (.seq (.ops [(iD 171 (.call 47 [(.c (.bool true))])), (oD 172 (.bslice 1 2 [(vI 0)] [(0, (kI 0)), (1, (kI 1))])), (oD 173 (.build [(vI 0), .nilslice] [(0, (1, (kI 0))), (1, (1, (.s 172)))])), (iD 174 (.call 27 [(.s 171), (.s 173)])), (oD 24 (mS 174))]) (.seq (.ops [(iD 175 (.call 47 [(.c (.bool true))])), (oD 176 (.build [(vI 0), (vI 0)] [(0, (1, (kI 1))), (1, (1, (kI 0)))])), (oD 177 (.build [(vI 0), (vI 0), (.bool false)] [(0, (2, (.s 176)))])), (oD 178 (.build [(vI 0), (vI 0)] [(0, (1, (kI 0))), (1, (1, (kI 2)))])), (oD 179 (.build [(vI 0), (vI 0), (.bool false)] [(0, (2, (.s 178))), (2, (1, (.c (.bool true))))])), (oD 180 (.build [(vI 0), (vI 0)] [(0, (1, (kI 0))), (1, (1, (kI 1)))])), (oD 181 (.build [(vI 0), (vI 0), (.bool false)] [(0, (2, (.s 180))), (2, (1, (.c (.bool true))))])), (oD 182 (.fslice 3 3 [(vI 0), (vI 0), (.bool false)] [(0, (.s 177)), (1, (.s 179)), (2, (.s 181))])), (iD 183 (.call 49 [(.s 175), (.s 182)])), (oD 25 (mS 183))]) (.frz [999999999, 16, 17, 18, 19, 21, 23, 24, 25] (.seq (.ops [(oD 184 (.build [(.str (bs [])), (vI 0), (vI 0)] [(0, (1, (.c (.str (bs [97]))))), (1, (1, (kI 300))), (2, (1, (kI (-2))))])), (oD 185 (.build [(.str (bs [])), (vI 0), (vI 0)] [(0, (1, (.c (.str (bs [98]))))), (1, (1, (kI (-500)))), (2, (1, (kI 4)))])), (oD 186 (.bslice 3 2 [(.str (bs [])), (vI 0), (vI 0)] [(0, (.s 184)), (1, (.s 185))])), (oD 26 (mS 186))]) (.seq (.ops [(oD 188 (mS 26)), (iD 189 (.call 11 [(.s 188)])), (oD 187 (mS 189)), (oD 190 (.extract 0 (.s 187))), (oD 191 (.extract 1 (.s 187))), (oD 192 (.extract 2 (.s 187))), (oD 27 (mS 190)), (oD 28 (mS 191)), (oD 29 (mS 192))]) (.frz [999999999, 16, 17, 18, 19, 21, 23, 24, 25, 26, 27, 28, 29] (.seq (.ops [(oD 194 (mS 26)), (iD 195 (.call 12 [(.s 194), (kI 100), (kI 13)])), (oD 193 (mS 195)), (oD 196 (.extract 0 (.s 193))), (oD 197 (.extract 1 (.s 193))), (oD 30 (.alloc [(vI 0), (vI 0)])), (oN (.store 2 (.s 30) (.s 196))), (oD 31 (mS 197))]) (.frz [999999999, 16, 17, 18, 19, 21, 23, 24, 25, 27, 28, 29, 30, 31] (.seq (.ops [(oD 198 (mS 17)), (oD 199 (mS 19)), (oD 200 (.bin .add (.s 198) (.s 199))), (oD 201 (mS 24)), (oD 202 (.bin .add (.s 200) (.s 201))), (oD 203 (mS 25)), (oD 204 (.bin .add (.s 202) (.s 203))), (oD 205 (mS 29)), (oD 206 (.bin .add (.s 204) (.s 205))), (oD 207 (mS 31)), (oD 208 (.bin .add (.s 206) (.s 207))), (oD 209 (.bin .eql (.s 208) (kI 0))), (oD 210 (mS 209)), (oDg 211 (mS 16) 210 true), (oDg 212 (.len .sl (.s 211)) 210 true), (oDg 213 (.bin .eql (.s 212) (kI 1)) 210 true), (oD 214 (.pick (.s 210) (.s 213) (.c (.bool false)))), (oD 215 (mS 214)), (oDg 216 (mS 16) 215 true), (oDg 217 (.iaddr 1 none (.s 216) (kI 0)) 215 true), (oDg 218 (.load 1 false (.s 217)) 215 true), (oDg 219 (.len .sl (.s 218)) 215 true), (oDg 220 (.bin .eql (.s 219) (kI 4)) 215 true), (oD 221 (.pick (.s 215) (.s 220) (.c (.bool false)))), (oD 222 (mS 221)), (oDg 223 (mS 16) 222 true), (oDg 224 (.iaddr 1 none (.s 223) (kI 0)) 222 true), (oDg 225 (.load 1 false (.s 224)) 222 true), (oDg 226 (.iaddr 2 none (.s 225) (kI 2)) 222 true), (oDg 227 (.load 2 true (.s 226)) 222 true), (oDg 228 (.build [(vI 0), (vI 0)] [(0, (1, (kI 0))), (1, (1, (kI 2)))]) 222 true), (oDg 229 (.eq (.agg [.i, .i]) false (.s 227) (.s 228)) 222 true), (oD 230 (.pick (.s 222) (.s 229) (.c (.bool false)))), (oD 231 (mS 230)), (oDg 232 (mS 18) 231 true), (oDg 233 (.len .sl (.s 232)) 231 true), (oDg 234 (.bin .eql (.s 233) (kI 1)) 231 true), (oD 235 (.pick (.s 231) (.s 234) (.c (.bool false)))), (oD 236 (mS 235)), (oDg 237 (mS 18) 236 true), (oDg 238 (.iaddr 3 none (.s 237) (kI 0)) 236 true), (oDg 239 (.load 3 true (.s 238)) 236 true), (oDg 240 (.build [(.bool false), (vI 0), (vI 0)] [(1, (1, (kI 1))), (2, (1, (kI 1)))]) 236 true), (oDg 241 (.eq (.agg [.b, .i, .i]) false (.s 239) (.s 240)) 236 true), (oD 242 (.pick (.s 236) (.s 241) (.c (.bool false)))), (oD 243 (mS 242)), (oDg 244 (mS 21) 243 true), (oDg 245 (.bin .eql (.s 244) (kI 29)) 243 true), (oD 246 (.pick (.s 243) (.s 245) (.c (.bool false)))), (oD 247 (mS 246)), (oDg 248 (mS 23) 247 true), (oDg 249 (.bin .eql (.s 248) (kI 29)) 247 true), (oD 250 (.pick (.s 247) (.s 249) (.c (.bool false)))), (oD 251 (mS 250)), (oDg 252 (mS 27) 251 true), (oDg 253 (.bin .eql (.s 252) (kI (-200))) 251 true), (oD 254 (.pick (.s 251) (.s 253) (.c (.bool false)))), (oD 255 (mS 254)), (oDg 256 (mS 28) 255 true), (oDg 257 (.bin .eql (.s 256) (kI (-2600))) 255 true), (oD 258 (.pick (.s 255) (.s 257) (.c (.bool false)))), (oD 259 (mS 258)), (oDg 260 (.load 2 true (.s 30)) 259 true), (oDg 261 (.build [(vI 0), (vI 0)] [(0, (1, (kI 0))), (1, (1, (kI 2)))]) 259 true), (oDg 262 (.eq (.agg [.i, .i]) false (.s 260) (.s 261)) 259 true), (oD 263 (.pick (.s 259) (.s 262) (.c (.bool false)))), (oD 0 (mS 263))]) .ret)))))))))))))))))))))))))
def f10 : Fn := ⟨264, [(.t 0)], c10⟩
/- codend/trawl.Sum -/
def c11l0 : RCode := (.seq (.ops [(oD 18 (.bin .lss (.s 17) (.s 16)))]) (.seq (.cond (.s 18) .skip (.exit 0)) (.frz [999999999, 6, 7, 15, 16, 17] (.seq (.block 1 (.seq (.ops [(oD 19 (.iaddr 3 none (.s 15) (.s 17))), (oD 20 (.load 3 true (.s 19))), (oD 9 (.alloc [(.str (bs [])), (vI 0), (vI 0)])), (oN (.store 3 (.s 9) (.s 20)))]) (.seq (.ops [(oD 21 (mS 6)), (oD 22 (.faddr 1 (.s 9))), (oD 23 (.load 1 false (.s 22))), (oD 24 (.bin .add (.s 21) (.s 23))), (oD 6 (mS 24))]) (.ops [(oD 25 (mS 7)), (oD 26 (.faddr 1 (.s 9))), (oD 27 (.load 1 false (.s 26))), (oD 28 (.faddr 2 (.s 9))), (oD 29 (.load 1 false (.s 28))), (oD 30 (.bin .mul (.s 27) (.s 29))), (oD 31 (.bin .add (.s 25) (.s 30))), (oD 7 (mS 31))])))) (.frz [999999999, 6, 7, 15, 16, 17] (.ops [(oD 32 (.bin .add (.s 17) (kI 1))), (oD 17 (mS 32))]))))))
def c11 : RCode := (.seq (.ops [(oD 2 (.mv (kI 0))), (oD 3 (.mv (kI 0))), (oD 4 (.mv (kI 0)))]) (.seq (.seq (.ops [(oD 10 (mS 0)), (iD 11 (.call 50 [(.s 10)])), (oD 5 (mS 11))]) (.seq (.ops [(oD 12 (mS 5)), (oD 13 (.bin .neq (.s 12) (kI 0)))]) (.cond (.s 13) (.seq (.ops [(oD 14 (mS 5)), (oD 2 (.mv (kI 0))), (oD 3 (.mv (kI 0))), (oD 4 (mS 14))]) .ret) .skip))) (.frz [999999999, 0] (.seq (.ops [(oD 6 (.mv (kI 0))), (oD 7 (.mv (kI 0)))]) (.seq (.seq (.ops [(oD 15 (mS 0)), (oD 16 (.len .sl (.s 15))), (oD 17 (.mv (kI 0)))]) (.block 0 (.loop [6, 7, 15, 16, 17] c11l0))) (.frz [999999999, 6, 7] (.seq (.ops [(oD 33 (mS 6)), (oD 34 (mS 7)), (oD 2 (mS 33)), (oD 3 (mS 34)), (oD 4 (.mv (kI 0)))]) .ret)))))))
def f11 : Fn := ⟨35, [(.t 2), (.t 3), (.t 4)], c11⟩
/- codend/trawl.Floats -/
def c12 : RCode := (.seq (.ops [(oD 6 (.alloc [(vI 0), (vI 0)])), (oD 7 (.mv (kI 0)))]) (.seq (.ops [(oD 15 (mS 0)), (iD 16 (.call 11 [(.s 15)])), (oD 14 (mS 16)), (oD 17 (.extract 0 (.s 14))), (oD 18 (.extract 1 (.s 14))), (oD 19 (.extract 2 (.s 14))), (oD 8 (mS 17)), (oD 9 (mS 18)), (oD 10 (mS 19))]) (.frz [999999999, 1, 2, 6, 8, 9, 10] (.seq (.seq (.ops [(oD 20 (mS 10)), (oD 21 (mS 1)), (iD 22 (.call 52 [(.s 21), (kI 1), (kI 1000000)])), (oD 23 (mS 2)), (iD 24 (.call 52 [(.s 23), (kI 1), (kI 10000)])), (oD 25 (.fslice 1 3 [(vI 0)] [(0, (.s 20)), (1, (.s 22)), (2, (.s 24))])), (iD 26 (.call 51 [(.s 25)])), (oD 11 (mS 26))]) (.frz [999999999, 1, 2, 6, 8, 9, 11] (.seq (.ops [(oD 27 (mS 11)), (oD 28 (.bin .neq (.s 27) (kI 0)))]) (.cond (.s 28) (.seq (.ops [(oD 29 (.build [(vI 0), (vI 0)] [])), (oD 30 (mS 11)), (oN (.store 2 (.s 6) (.s 29))), (oD 7 (mS 30))]) .ret) .skip)))) (.frz [999999999, 1, 2, 6, 8, 9] (.seq (.seq (.ops [(oD 31 (mS 9)), (oD 32 (mS 1)), (oD 33 (mS 2)), (oD 34 (.bin .mul (.s 32) (.s 33))), (oD 35 (.bin .rem (.s 31) (.s 34))), (oD 36 (.bin .neq (.s 35) (kI 0)))]) (.cond (.s 36) (.seq (.ops [(oD 37 (.build [(vI 0), (vI 0)] [])), (oN (.store 2 (.s 6) (.s 37))), (oD 7 (.mv (kI 23)))]) .ret) .skip)) (.frz [999999999, 1, 2, 6, 8, 9] (.seq (.ops [(oD 38 (mS 9)), (oD 39 (.un .neg (.s 38))), (oD 40 (mS 1)), (oD 41 (mS 2)), (oD 42 (.bin .mul (.s 40) (.s 41))), (oD 43 (.bin .quo (.s 39) (.s 42))), (oD 12 (mS 43))]) (.seq (.ops [(oD 44 (mS 12)), (oD 45 (mS 12)), (oD 46 (.un .neg (.s 45))), (oD 47 (.minmax true [(.s 44), (.s 46)])), (oD 13 (mS 47))]) (.seq (.seq (.ops [(oD 48 (mS 8)), (oD 49 (.bin .lss (.s 48) (kI 0)))]) (.cond (.s 49) (.ops [(oD 50 (mS 13)), (oD 51 (mS 1)), (oD 52 (.bin .sub (.s 51) (kI 1))), (oD 53 (mS 8)), (oD 54 (.bin .sub (.s 52) (.s 53))), (oD 55 (mS 1)), (oD 56 (.bin .quo (.s 54) (.s 55))), (oD 57 (.minmax true [(.s 50), (.s 56)])), (oD 13 (mS 57))]) .skip)) (.frz [999999999, 6, 12, 13] (.seq (.seq (.ops [(oD 58 (mS 13)), (oD 59 (mS 12)), (oD 60 (.bin .sub (.s 58) (.s 59))), (oD 61 (.bin .rem (.s 60) (kI 2))), (oD 62 (.bin .neq (.s 61) (kI 0)))]) (.cond (.s 62) (.ops [(oD 63 (mS 13)), (oD 64 (.bin .add (.s 63) (kI 1))), (oD 13 (mS 64))]) .skip)) (.frz [999999999, 6, 12, 13] (.seq (.seq (.ops [(oD 65 (mS 13)), (oD 66 (.bin .gtr (.s 65) (kI 10000)))]) (.cond (.s 66) (.seq (.ops [(oD 67 (.build [(vI 0), (vI 0)] [])), (oN (.store 2 (.s 6) (.s 67))), (oD 7 (.mv (kI 5)))]) .ret) .skip)) (.frz [999999999, 6, 12, 13] (.seq (.ops [(oD 68 (mS 13)), (oD 69 (mS 12)), (oD 70 (.bin .sub (.s 68) (.s 69))), (oD 71 (.bin .quo (.s 70) (kI 2))), (oD 72 (mS 13)), (oD 73 (mS 12)), (oD 74 (.bin .add (.s 72) (.s 73))), (oD 75 (.bin .quo (.s 74) (kI 2))), (oD 76 (.build [(vI 0), (vI 0)] [(0, (1, (.s 71))), (1, (1, (.s 75)))])), (oN (.store 2 (.s 6) (.s 76))), (oD 7 (.mv (kI 0)))]) .ret))))))))))))))))
def f12 : Fn := ⟨77, [(.cell 6 2 true), (.t 7)], c12⟩
/- codend/codendref07.CheckLoads -/
def c13l0 : RCode := (.seq (.seq (.ops [(oD 8 (mS 3)), (oD 9 (mS 0)), (oD 10 (.len .sl (.s 9))), (oD 11 (.bin .lss (.s 8) (.s 10)))]) (.cond (.s 11) .skip (.exit 0))) (.frz [999999999, 0, 3] (.seq (.block 1 (.seq (.seq (.ops [(oD 14 (mS 0)), (oD 15 (mS 3)), (oD 16 (.iaddr 3 none (.s 14) (.s 15))), (oD 17 (.faddr 0 (.s 16))), (oD 18 (.load 1 false (.s 17))), (iD 19 (.call 53 [(.s 18)])), (oD 20 (.un .not (.s 19)))]) (.cond (.s 20) (.seq (.ops [(oD 2 (.mv (kI 8)))]) .ret) .skip)) (.frz [999999999, 0, 3] (.seq (.draw [0, 0, 3, 7, 15, 31, 0, 0, 192, 448, 960, 2047, 4095, 8191, 16383] [(oD 21 (mS 0)), (oD 22 (mS 3)), (oD 23 (.iaddr 3 none (.s 21) (.s 22))), (oD 24 (.faddr 1 (.s 23))), (oD 25 (.load 1 false (.s 24))), (iD 26 (.call 55 [(.s 25), (kI (-1000000)), (kI 1000000)])), (oD 27 (mS 0)), (oD 28 (mS 3)), (oD 29 (.iaddr 3 none (.s 27) (.s 28))), (oD 30 (.faddr 2 (.s 29))), (oD 31 (.load 1 false (.s 30))), (iD 32 (.call 55 [(.s 31), (kI (-10000)), (kI 10000)])), (oD 33 (.fslice 1 2 [(vI 0)] [(0, (.s 26)), (1, (.s 32))])), (iD 34 (.call 54 [(.s 33)])), (oD 4 (mS 34))]) (.frz [999999999, 0, 3, 4] (.seq (.ops [(oD 35 (mS 4)), (oD 36 (.bin .neq (.s 35) (kI 0)))]) (.cond (.s 36) (.seq (.ops [(oD 37 (mS 4)), (oD 2 (mS 37))]) .ret) .skip))))))) (.frz [999999999, 0, 3] (.ops [(oD 12 (mS 3)), (oD 13 (.bin .add (.s 12) (kI 1))), (oD 3 (mS 13))])))))
def c13 : RCode := (.seq (.ops [(oD 2 (.mv (kI 0)))]) (.seq (.seq (.ops [(oD 5 (mS 0)), (oD 6 (.len .sl (.s 5))), (oD 7 (.bin .gtr (.s 6) (kI 64)))]) (.cond (.s 7) (.seq (.ops [(oD 2 (.mv (kI 5)))]) .ret) .skip)) (.frz [999999999, 0] (.seq (.seq (.ops [(oD 3 (.mv (kI 0)))]) (.block 0 (.loop [0, 3] c13l0))) (.frz [999999999] (.seq (.ops [(oD 2 (.mv (kI 0)))]) .ret))))))
def f13 : Fn := ⟨38, [(.t 2)], c13⟩
/- codend/codendref07.Sum -/
def c14l0 : RCode := (.seq (.seq (.ops [(oD 7 (mS 6)), (oD 8 (mS 0)), (oD 9 (.len .sl (.s 8))), (oD 10 (.bin .lss (.s 7) (.s 9)))]) (.cond (.s 10) .skip (.exit 0))) (.frz [999999999, 0, 4, 5, 6] (.seq (.block 1 (.draw [0, 0, 0, 6, 14, 30, 63, 0, 0, 0, 768, 1792, 3840, 0, 0, 24576, 57344, 122880, 261888, 524160, 127, 2097151] [(oD 13 (mS 4)), (oD 14 (mS 0)), (oD 15 (mS 6)), (oD 16 (.iaddr 3 none (.s 14) (.s 15))), (oD 17 (.faddr 1 (.s 16))), (oD 18 (.load 1 false (.s 17))), (oD 19 (.bin .add (.s 13) (.s 18))), (oD 20 (mS 5)), (oD 21 (mS 0)), (oD 22 (mS 6)), (oD 23 (.iaddr 3 none (.s 21) (.s 22))), (oD 24 (.faddr 1 (.s 23))), (oD 25 (.load 1 false (.s 24))), (oD 26 (mS 0)), (oD 27 (mS 6)), (oD 28 (.iaddr 3 none (.s 26) (.s 27))), (oD 29 (.faddr 2 (.s 28))), (oD 30 (.load 1 false (.s 29))), (oD 31 (.bin .mul (.s 25) (.s 30))), (oD 32 (.bin .add (.s 20) (.s 31))), (oD 4 (mS 19)), (oD 5 (mS 32))])) (.frz [999999999, 0, 4, 5, 6] (.ops [(oD 11 (mS 6)), (oD 12 (.bin .add (.s 11) (kI 1))), (oD 6 (mS 12))])))))
def c14 : RCode := (.seq (.ops [(oD 2 (.mv (kI 0))), (oD 3 (.mv (kI 0)))]) (.seq (.ops [(oD 4 (.mv (kI 0))), (oD 5 (.mv (kI 0)))]) (.seq (.seq (.ops [(oD 6 (.mv (kI 0)))]) (.block 0 (.loop [0, 4, 5, 6] c14l0))) (.frz [999999999, 4, 5] (.seq (.ops [(oD 33 (mS 4)), (oD 34 (mS 5)), (oD 2 (mS 33)), (oD 3 (mS 34))]) .ret)))))
def f14 : Fn := ⟨35, [(.t 2), (.t 3)], c14⟩
/- codend/codendref07.Floats -/
def c15l0 : RCode := (.seq (.seq (.ops [(oD 29 (mS 11)), (oD 30 (.bin .leq (.s 29) (kI 10000)))]) (.cond (.s 30) .skip (.exit 0))) (.frz [999999999, 1, 6, 8, 10, 11] (.seq (.block 1 (.seq (.ops [(oD 33 (mS 11)), (oD 34 (mS 10)), (oD 35 (.bin .geq (.s 33) (.s 34))), (oD 36 (mS 35)), (oDg 37 (mS 11) 36 true), (oDg 38 (mS 10) 36 true), (oDg 39 (.bin .sub (kI 0) (.s 38)) 36 true), (oDg 40 (.bin .geq (.s 37) (.s 39)) 36 true), (oD 41 (.pick (.s 36) (.s 40) (.c (.bool false)))), (oD 42 (mS 41)), (oDg 43 (mS 11) 42 true), (oDg 44 (mS 10) 42 true), (oDg 45 (.bin .sub (.s 43) (.s 44)) 42 true), (oDg 46 (.bin .rem (.s 45) (kI 2)) 42 true), (oDg 47 (.bin .eql (.s 46) (kI 0)) 42 true), (oD 48 (.pick (.s 42) (.s 47) (.c (.bool false)))), (oD 49 (mS 48)), (oDg 50 (mS 8) 49 true), (oDg 51 (mS 1) 49 true), (oDg 52 (mS 11) 49 true), (oDg 53 (.bin .mul (.s 51) (.s 52)) 49 true), (oDg 54 (.bin .add (.s 50) (.s 53)) 49 true), (oDg 55 (.bin .geq (.s 54) (kI 0)) 49 true), (oD 56 (.pick (.s 49) (.s 55) (.c (.bool false))))]) (.frz [999999999, 1, 6, 8, 10, 11, 56] (.cond (.s 56) (.seq (.ops [(oD 57 (mS 11)), (oD 58 (mS 10)), (oD 59 (.bin .add (.s 57) (.s 58))), (oD 60 (.bin .quo (.s 59) (kI 2))), (oD 61 (mS 11)), (oD 62 (mS 10)), (oD 63 (.bin .sub (.s 61) (.s 62))), (oD 64 (.bin .quo (.s 63) (kI 2))), (oD 65 (.build [(vI 0), (vI 0)] [(0, (1, (.s 60))), (1, (1, (.s 64)))])), (oN (.store 2 (.s 6) (.s 65))), (oD 7 (.mv (kI 0)))]) .ret) .skip)))) (.frz [999999999, 1, 6, 8, 10, 11] (.ops [(oD 31 (mS 11)), (oD 32 (.bin .add (.s 31) (kI 1))), (oD 11 (mS 32))])))))
def c15 : RCode := (.seq (.ops [(oD 6 (.alloc [(vI 0), (vI 0)])), (oD 7 (.mv (kI 0)))]) (.seq (.ops [(oD 13 (mS 0)), (iD 14 (.call 14 [(.s 13)])), (oD 12 (mS 14)), (oD 15 (.extract 0 (.s 12))), (oD 16 (.extract 1 (.s 12))), (oD 8 (mS 15)), (oD 9 (mS 16))]) (.seq (.seq (.ops [(oD 17 (mS 9)), (oD 18 (mS 1)), (oD 19 (mS 2)), (oD 20 (.bin .mul (.s 18) (.s 19))), (oD 21 (.bin .rem (.s 17) (.s 20))), (oD 22 (.bin .neq (.s 21) (kI 0)))]) (.cond (.s 22) (.seq (.ops [(oD 23 (.build [(vI 0), (vI 0)] [])), (oN (.store 2 (.s 6) (.s 23))), (oD 7 (.mv (kI 23)))]) .ret) .skip)) (.frz [999999999, 1, 2, 6, 8, 9] (.seq (.ops [(oD 24 (mS 9)), (oD 25 (mS 1)), (oD 26 (mS 2)), (oD 27 (.bin .mul (.s 25) (.s 26))), (oD 28 (.bin .quo (.s 24) (.s 27))), (oD 10 (mS 28))]) (.seq (.seq (.ops [(oD 11 (.mv (kI 0)))]) (.block 0 (.loop [1, 6, 8, 10, 11] c15l0))) (.frz [999999999, 6] (.seq (.ops [(oD 66 (.build [(vI 0), (vI 0)] [])), (oN (.store 2 (.s 6) (.s 66))), (oD 7 (.mv (kI 5)))]) .ret))))))))
def f15 : Fn := ⟨67, [(.cell 6 2 true), (.t 7)], c15⟩
/- codend/trawl.Openings -/
def c19 : RCode := (.seq (.ops [(oD 1 (.box (.s 0))), (oD 2 (.mv (.c .nilslice))), (oD 3 (.mv (kI 0)))]) (.seq (.seq (.ops [(oD 5 (.load 2 true (.s 1))), (iD 6 (.call 35 [(.s 5)])), (oD 4 (mS 6))]) (.seq (.ops [(oD 7 (mS 4)), (oD 8 (.bin .neq (.s 7) (kI 0)))]) (.cond (.s 8) (.seq (.ops [(oD 9 (mS 4)), (oD 2 (.mv (.c .nilslice))), (oD 3 (mS 9))]) .ret) .skip))) (.frz [999999999, 1] (.seq (.ops [(oD 10 (.load 2 true (.s 1))), (iD 11 (.call 57 [(.s 10)])), (oD 2 (mS 11)), (oD 3 (.mv (kI 0)))]) .ret))))
def f19 : Fn := ⟨12, [(.t 2), (.t 3)], c19⟩
/- codend/trawl.Count -/
def c20 : RCode := (.seq (.ops [(oD 1 (.box (.s 0))), (oD 2 (.alloc [(vI 0), (vI 0), (vI 0), (vI 0), (vI 0), (vI 0)])), (oD 3 (.mv (kI 0)))]) (.seq (.seq (.ops [(oD 5 (.load 2 true (.s 1))), (iD 6 (.call 35 [(.s 5)])), (oD 4 (mS 6))]) (.seq (.ops [(oD 7 (mS 4)), (oD 8 (.bin .neq (.s 7) (kI 0)))]) (.cond (.s 8) (.seq (.ops [(oD 9 (.build [(vI 0), (vI 0), (vI 0), (vI 0), (vI 0), (vI 0)] [])), (oD 10 (mS 4)), (oN (.store 6 (.s 2) (.s 9))), (oD 3 (mS 10))]) .ret) .skip))) (.frz [999999999, 1, 2] (.seq (.ops [(oD 11 (.load 2 true (.s 1))), (iD 12 (.call 58 [(.s 11), (kI (-1))])), (oN (.store 6 (.s 2) (.s 12))), (oD 3 (.mv (kI 0)))]) .ret))))
def f20 : Fn := ⟨13, [(.cell 2 6 true), (.t 3)], c20⟩
/- codend/trawl.Kinds -/
def c21l0 : RCode := (.seq (.ops [(oD 19 (.bin .lss (.s 18) (.s 17)))]) (.seq (.cond (.s 19) .skip (.exit 0)) (.frz [999999999, 1, 5, 17, 18] (.seq (.block 1 (.seq (.ops [(oD 20 (mS 18)), (oD 6 (mS 20))]) (.seq (.ops [(oD 21 (.load 2 true (.s 1))), (oD 22 (mS 6)), (iD 23 (.call 58 [(.s 21), (.s 22)])), (oD 7 (.alloc [(vI 0), (vI 0), (vI 0), (vI 0), (vI 0), (vI 0)])), (oN (.store 6 (.s 7) (.s 23)))]) (.seq (.frz [6] (.draw [0, 0, 3, 0, 8, 24, 0, 64, 248, 0, 512, 2047, 0, 8191] [(oD 24 (.load 2 true (.s 1))), (oD 25 (mS 6)), (iD 26 (.call 61 [(.s 24), (.s 25)])), (oD 27 (.faddr 5 (.s 7))), (oD 28 (.load 1 false (.s 27))), (oD 29 (.bin .sub (kI 2) (.s 28))), (oD 30 (.faddr 4 (.s 7))), (oD 31 (.load 1 false (.s 30))), (oD 32 (.bin .sub (.s 29) (.s 31))), (oD 33 (.faddr 4 (.s 7))), (oD 34 (.load 1 false (.s 33))), (oD 35 (.build [(.bool false), (vI 0), (vI 0)] [(0, (1, (.s 26))), (1, (1, (.s 32))), (2, (1, (.s 34)))])), (oD 8 (.alloc [(.bool false), (vI 0), (vI 0)])), (oN (.store 3 (.s 8) (.s 35)))])) (.frz [999999999, 1, 5, 8, 17, 18] (.seq (.seq (.ops [(oD 36 (.faddr 0 (.s 8))), (oD 37 (.load 1 false (.s 36)))]) (.cond (.s 37) (.ops [(oD 38 (.faddr 1 (.s 8))), (oD 39 (.load 1 false (.s 38))), (oD 40 (.bin .quo (.s 39) (kI 2))), (oD 41 (.faddr 1 (.s 8))), (oN (.store 1 (.s 41) (.s 40)))]) .skip)) (.frz [999999999, 1, 5, 8, 17, 18] (.ops [(oD 42 (mS 5)), (oD 43 (.load 3 true (.s 8))), (oD 44 (.fslice 3 1 [(.bool false), (vI 0), (vI 0)] [(0, (.s 43))])), (oD 45 (.append 3 24 [(.bool false), (vI 0), (vI 0)] (.s 42) (.s 44))), (oD 5 (mS 45))])))))))) (.frz [999999999, 1, 5, 17, 18] (.ops [(oD 46 (.bin .add (.s 18) (kI 1))), (oD 18 (mS 46))]))))))
def c21 : RCode := (.seq (.ops [(oD 1 (.box (.s 0))), (oD 2 (.mv (.c .nilslice))), (oD 3 (.mv (kI 0)))]) (.seq (.seq (.ops [(oD 9 (.load 2 true (.s 1))), (iD 10 (.call 35 [(.s 9)])), (oD 4 (mS 10))]) (.seq (.ops [(oD 11 (mS 4)), (oD 12 (.bin .neq (.s 11) (kI 0)))]) (.cond (.s 12) (.seq (.ops [(oD 13 (mS 4)), (oD 2 (.mv (.c .nilslice))), (oD 3 (mS 13))]) .ret) .skip))) (.frz [999999999, 1] (.seq (.ops [(oD 5 (.mv (.c .nilslice)))]) (.seq (.seq (.ops [(oD 14 (.load 2 true (.s 1))), (iD 15 (.call 60 [(.s 14)])), (iD 16 (.call 59 [(.s 15)])), (oD 17 (.bin .add (.s 16) (kI 1))), (oD 18 (.mv (kI 0)))]) (.block 0 (.loop [1, 5, 17, 18] c21l0))) (.frz [999999999, 5] (.seq (.ops [(oD 47 (mS 5)), (oD 2 (mS 47)), (oD 3 (.mv (kI 0)))]) .ret)))))))
def f21 : Fn := ⟨48, [(.t 2), (.t 3)], c21⟩
/- codend/trawl.Mouth -/
def c22l0 : RCode := (.seq (.ops [(oD 20 (.bin .lss (.s 19) (.s 18)))]) (.seq (.cond (.s 20) .skip (.exit 0)) (.frz [999999999, 1, 6, 7, 17, 18, 19] (.seq (.block 1 (.seq (.ops [(oD 21 (.iaddr 1 none (.s 17) (.s 19))), (oD 22 (.load 1 false (.s 21))), (oD 9 (mS 22))]) (.seq (.ops [(oD 23 (.load 2 true (.s 1))), (oD 24 (mS 9)), (iD 25 (.call 62 [(.s 23), (.s 24)])), (oD 10 (mS 25))]) (.seq (.ops [(oD 26 (mS 10)), (oD 27 (mS 7)), (oD 28 (.bin .gtr (.s 26) (.s 27)))]) (.cond (.s 28) (.ops [(oD 29 (mS 9)), (oD 30 (mS 10)), (oD 6 (mS 29)), (oD 7 (mS 30))]) .skip))))) (.frz [999999999, 1, 6, 7, 17, 18, 19] (.ops [(oD 31 (.bin .add (.s 19) (kI 1))), (oD 19 (mS 31))]))))))
def c22 : RCode := (.seq (.ops [(oD 1 (.box (.s 0))), (oD 2 (.mv (.c .nilslice))), (oD 3 (.mv (kI 0))), (oD 4 (.mv (kI 0)))]) (.seq (.seq (.ops [(oD 11 (.load 2 true (.s 1))), (iD 12 (.call 35 [(.s 11)])), (oD 5 (mS 12))]) (.seq (.ops [(oD 13 (mS 5)), (oD 14 (.bin .neq (.s 13) (kI 0)))]) (.cond (.s 14) (.seq (.ops [(oD 15 (mS 5)), (oD 2 (.mv (.c .nilslice))), (oD 3 (.mv (kI 0))), (oD 4 (mS 15))]) .ret) .skip))) (.frz [999999999, 1] (.seq (.ops [(oD 6 (.mv (.c .nilslice)))]) (.seq (.ops [(oD 7 (.mv (kI 0)))]) (.seq (.seq (.ops [(oD 16 (.load 2 true (.s 1))), (iD 17 (.call 57 [(.s 16)])), (oD 18 (.len .sl (.s 17))), (oD 19 (.mv (kI 0)))]) (.block 0 (.loop [1, 6, 7, 17, 18, 19] c22l0))) (.frz [999999999, 6, 7] (.seq (.ops [(oD 32 (mS 6)), (oD 33 (mS 7)), (oD 34 (mS 7)), (oD 35 (.bin .eql (.s 34) (kI 0))), (iD 36 (.call 63 [(.s 35), (kI 7)])), (oD 2 (mS 32)), (oD 3 (mS 33)), (oD 4 (mS 36))]) .ret))))))))
def f22 : Fn := ⟨37, [(.t 2), (.t 3), (.t 4)], c22⟩
/- codend/trawl.Signs -/
def c25 : RCode := (.seq (.ops [(oD 1 (.box (.s 0))), (oD 2 (.mv (.c .nilslice))), (oD 3 (.mv (kI 0)))]) (.seq (.seq (.ops [(oD 7 (.load 2 true (.s 1))), (iD 8 (.call 35 [(.s 7)])), (oD 4 (mS 8))]) (.seq (.ops [(oD 9 (mS 4)), (oD 10 (.bin .neq (.s 9) (kI 0)))]) (.cond (.s 10) (.seq (.ops [(oD 11 (mS 4)), (oD 2 (.mv (.c .nilslice))), (oD 3 (mS 11))]) .ret) .skip))) (.frz [999999999, 1] (.seq (.ops [(oD 13 (.load 2 true (.s 1))), (iD 14 (.call 64 [(.s 13)])), (oD 12 (mS 14)), (oD 15 (.extract 0 (.s 12))), (oD 16 (.extract 1 (.s 12))), (oD 5 (.alloc [.nilslice, .nilslice])), (oN (.store 2 (.s 5) (.s 15))), (oD 6 (mS 16))]) (.frz [999999999, 5, 6] (.seq (.seq (.ops [(oD 17 (mS 6)), (oD 18 (.eq .ptr true (.s 17) (.c .nilptr)))]) (.cond (.s 18) (.seq (.ops [(oD 2 (.mv (.c .nilslice))), (oD 3 (.mv (kI 29)))]) .ret) .skip)) (.frz [999999999, 5] (.seq (.ops [(oD 19 (.faddr 0 (.s 5))), (oD 20 (.load 1 false (.s 19))), (oD 2 (mS 20)), (oD 3 (.mv (kI 0)))]) .ret))))))))
def f25 : Fn := ⟨21, [(.t 2), (.t 3)], c25⟩
/- codend/trawl.CheckTwist -/
def c27l0 : RCode := (.seq (.ops [(oD 47 (.bin .lss (.s 46) (.s 45)))]) (.seq (.cond (.s 47) .skip (.exit 0)) (.frz [999999999, 2, 3, 6, 7, 44, 45, 46] (.seq (.block 1 (.seq (.ops [(oD 48 (.iaddr 1 none (.s 44) (.s 46))), (oD 49 (.load 1 false (.s 48))), (oD 9 (mS 49))]) (.seq (.ops [(oD 50 (.faddr 1 (.s 2))), (oD 51 (.load 1 false (.s 50))), (oD 52 (mS 9)), (oD 53 (.iaddr 5 none (.s 51) (.s 52))), (oD 54 (.load 5 true (.s 53))), (oD 55 (.fn 67 [(.s 54)] [])), (oD 10 (mS 55))]) (.seq (.ops [(oD 57 (mS 10)), (oD 58 (mS 6)), (iD 59 (.callv (.s 57) [(.s 58)])), (oD 56 (mS 59)), (oD 60 (.extract 0 (.s 56))), (oD 61 (.extract 1 (.s 56))), (oD 11 (mS 60)), (oD 12 (mS 61))]) (.frz [999999999, 2, 3, 7, 9, 11, 12, 44, 45, 46] (.seq (.seq (.ops [(oD 62 (mS 12)), (oD 63 (.un .not (.s 62)))]) (.cond (.s 63) (.seq (.ops [(oD 4 (.mv (kI 21)))]) .ret) .skip)) (.frz [999999999, 2, 3, 7, 9, 11, 44, 45, 46] (.seq (.ops [(oD 64 (mS 11)), (oD 6 (mS 64))]) (.ops [(oD 65 (mS 7)), (oD 66 (.faddr 1 (.s 2))), (oD 67 (.load 1 false (.s 66))), (oD 68 (mS 9)), (oD 69 (.iaddr 5 none (.s 67) (.s 68))), (oD 70 (.faddr 4 (.s 69))), (oD 71 (.load 1 false (.s 70))), (oD 72 (.eq .b true (.s 65) (.s 71))), (oD 7 (mS 72))]))))))))) (.frz [999999999, 2, 3, 6, 7, 44, 45, 46] (.ops [(oD 73 (.bin .add (.s 46) (kI 1))), (oD 46 (mS 73))]))))))
def c27 : RCode := (.seq (.ops [(oD 2 (.box (.s 0))), (oD 3 (.box (.s 1))), (oD 4 (.mv (kI 0)))]) (.seq (.seq (.draw [0, 1, 0, 4, 12, 28, 63, 0, 128, 384, 1023, 2047, 4095, 2047, 10239, 26623, 65535, 131071, 262143, 524287, 1048575, 2097151] [(oD 13 (.load 2 true (.s 2))), (iD 14 (.call 35 [(.s 13)])), (oD 15 (.faddr 1 (.s 3))), (oD 16 (.load 1 false (.s 15))), (oD 17 (.len .sl (.s 16))), (oD 18 (.bin .gtr (.s 17) (kI 256))), (iD 19 (.call 63 [(.s 18), (kI 5)])), (oD 20 (.faddr 0 (.s 3))), (oD 21 (.load 1 false (.s 20))), (oD 22 (.bin .lss (.s 21) (kI 0))), (oD 23 (mS 22)), (oDg 24 (.faddr 0 (.s 3)) 23 false), (oDg 25 (.load 1 false (.s 24)) 23 false), (oDg 26 (.faddr 0 (.s 2)) 23 false), (oDg 27 (.load 1 false (.s 26)) 23 false), (oDg 28 (.len .sl (.s 27)) 23 false), (oDg 29 (.bin .geq (.s 25) (.s 28)) 23 false), (oD 30 (.pick (.s 23) (.c (.bool true)) (.s 29))), (iD 31 (.call 63 [(.s 30), (kI 10)])), (oD 32 (.fslice 1 3 [(vI 0)] [(0, (.s 14)), (1, (.s 19)), (2, (.s 31))])), (iD 33 (.call 51 [(.s 32)])), (oD 5 (mS 33))]) (.frz [999999999, 2, 3, 5] (.seq (.ops [(oD 34 (mS 5)), (oD 35 (.bin .neq (.s 34) (kI 0)))]) (.cond (.s 35) (.seq (.ops [(oD 36 (mS 5)), (oD 4 (mS 36))]) .ret) .skip)))) (.frz [999999999, 2, 3] (.seq (.seq (.ops [(oD 37 (.faddr 1 (.s 3))), (oD 38 (.load 1 false (.s 37))), (oD 39 (.fn 66 [] [(.s 2)])), (iD 40 (.call 65 [(.s 38), (.s 39)]))]) (.cond (.s 40) (.seq (.ops [(oD 4 (.mv (kI 10)))]) .ret) .skip)) (.frz [999999999, 2, 3] (.seq (.ops [(oD 41 (.faddr 0 (.s 3))), (oD 42 (.load 1 false (.s 41))), (oD 6 (mS 42)), (oD 7 (.mv (.c (.bool false))))]) (.seq (.seq (.ops [(oD 43 (.faddr 1 (.s 3))), (oD 44 (.load 1 false (.s 43))), (oD 45 (.len .sl (.s 44))), (oD 46 (.mv (kI 0)))]) (.block 0 (.loop [2, 3, 6, 7, 44, 45, 46] c27l0))) (.frz [999999999, 3, 6, 7] (.seq (.ops [(oD 74 (mS 6)), (oD 75 (.faddr 0 (.s 3))), (oD 76 (.load 1 false (.s 75))), (oD 77 (.bin .neq (.s 74) (.s 76))), (oD 78 (mS 77)), (oDg 79 (mS 7) 78 false), (oDg 80 (.un .not (.s 79)) 78 false), (oD 81 (.pick (.s 78) (.c (.bool true)) (.s 80))), (iD 82 (.call 63 [(.s 81), (kI 21)])), (oD 4 (mS 82))]) .ret)))))))))
def f27 : Fn := ⟨83, [(.t 4)], c27⟩
/- codend/codendref01.SameInts -/
def c31l0 : RCode := (.seq (.seq (.ops [(oD 11 (mS 5)), (oD 12 (mS 0)), (oD 13 (.len .sl (.s 12))), (oD 14 (.bin .lss (.s 11) (.s 13)))]) (.cond (.s 14) .skip (.exit 0))) (.frz [999999999, 0, 1, 5] (.seq (.block 1 (.seq (.draw [0, 0, 3, 7, 0, 0, 48, 112, 255] [(oD 17 (mS 0)), (oD 18 (mS 5)), (oD 19 (.iaddr 1 none (.s 17) (.s 18))), (oD 20 (.load 1 false (.s 19))), (oD 21 (mS 1)), (oD 22 (mS 5)), (oD 23 (.iaddr 1 none (.s 21) (.s 22))), (oD 24 (.load 1 false (.s 23))), (oD 25 (.bin .neq (.s 20) (.s 24)))]) (.frz [999999999, 0, 1, 5, 25] (.cond (.s 25) (.seq (.ops [(oD 4 (.mv (.c (.bool false))))]) .ret) .skip)))) (.frz [999999999, 0, 1, 5] (.ops [(oD 15 (mS 5)), (oD 16 (.bin .add (.s 15) (kI 1))), (oD 5 (mS 16))])))))
def c31 : RCode := (.seq (.ops [(oD 4 (.mv (.c (.bool false))))]) (.seq (.seq (.ops [(oD 6 (mS 0)), (oD 7 (.len .sl (.s 6))), (oD 8 (mS 1)), (oD 9 (.len .sl (.s 8))), (oD 10 (.bin .neq (.s 7) (.s 9)))]) (.cond (.s 10) (.seq (.ops [(oD 4 (.mv (.c (.bool false))))]) .ret) .skip)) (.frz [999999999, 0, 1] (.seq (.seq (.ops [(oD 5 (.mv (kI 0)))]) (.block 0 (.loop [0, 1, 5] c31l0))) (.frz [999999999] (.seq (.ops [(oD 4 (.mv (.c (.bool true))))]) .ret))))))
def f31 : Fn := ⟨26, [(.t 4)], c31⟩
/- codend/trawl.CheckTrawl -/
def c35l0 : RCode := (.seq (.ops [(oD 39 (.bin .lss (.s 38) (.s 37)))]) (.seq (.cond (.s 39) .skip (.exit 0)) (.frz [999999999, 1, 36, 37, 38] (.seq (.block 1 (.seq (.ops [(oD 40 (mS 38)), (oD 41 (.iaddr 5 none (.s 36) (.s 38))), (oD 42 (.load 5 true (.s 41))), (oD 5 (.alloc [(vI 0), (vI 0), (vI 0), (vI 0), (.bool false)])), (oD 4 (mS 40)), (oN (.store 5 (.s 5) (.s 42)))]) (.seq (.draw [0, 0, 0, 4, 0, 28, 63, 127] [(oD 43 (.load 2 true (.s 1))), (oD 44 (.load 5 true (.s 5))), (oD 45 (.faddr 1 (.s 1))), (oD 46 (.load 1 false (.s 45))), (oD 47 (mS 4)), (oD 48 (.slc 5 (.s 46) none (some (.s 47)))), (iD 49 (.call 74 [(.s 43), (.s 44), (.s 48)])), (oD 6 (mS 49))]) (.frz [999999999, 1, 6, 36, 37, 38] (.seq (.ops [(oD 50 (mS 6)), (oD 51 (.bin .neq (.s 50) (kI 0)))]) (.cond (.s 51) (.seq (.ops [(oD 52 (mS 6)), (oD 2 (mS 52))]) .ret) .skip)))))) (.frz [999999999, 1, 36, 37, 38] (.ops [(oD 53 (.bin .add (.s 38) (kI 1))), (oD 38 (mS 53))]))))))
def c35 : RCode := (.seq (.ops [(oD 1 (.box (.s 0))), (oD 2 (.mv (kI 0)))]) (.seq (.seq (.draw [0, 1, 3, 7, 15, 0, 32, 96, 224, 511, 0, 1024, 0, 4096, 12288, 28672, 64512, 131071, 0, 262144, 786432, 1835008, 4194303, 8388607, 16777215, 33554431] [(oD 7 (.faddr 0 (.s 1))), (oD 8 (.load 1 false (.s 7))), (oD 9 (.len .sl (.s 8))), (oD 10 (.bin .eql (.s 9) (kI 0))), (iD 11 (.call 63 [(.s 10), (kI 12)])), (oD 12 (.faddr 0 (.s 1))), (oD 13 (.load 1 false (.s 12))), (oD 14 (.len .sl (.s 13))), (oD 15 (.bin .gtr (.s 14) (kI 16))), (iD 16 (.call 63 [(.s 15), (kI 5)])), (oD 17 (.faddr 0 (.s 1))), (oD 18 (.load 1 false (.s 17))), (oD 19 (.faddr 0 (.s 1))), (oD 20 (.load 1 false (.s 19))), (oD 21 (.len .sl (.s 20))), (oD 22 (.minmax false [(.s 21), (kI 16)])), (oD 23 (.slc 2 (.s 18) none (some (.s 22)))), (iD 24 (.call 73 [(.s 23)])), (oD 25 (.faddr 1 (.s 1))), (oD 26 (.load 1 false (.s 25))), (oD 27 (.len .sl (.s 26))), (oD 28 (.bin .gtr (.s 27) (kI 64))), (iD 29 (.call 63 [(.s 28), (kI 5)])), (oD 30 (.fslice 1 4 [(vI 0)] [(0, (.s 11)), (1, (.s 16)), (2, (.s 24)), (3, (.s 29))])), (iD 31 (.call 51 [(.s 30)])), (oD 3 (mS 31))]) (.frz [999999999, 1, 3] (.seq (.ops [(oD 32 (mS 3)), (oD 33 (.bin .neq (.s 32) (kI 0)))]) (.cond (.s 33) (.seq (.ops [(oD 34 (mS 3)), (oD 2 (mS 34))]) .ret) .skip)))) (.frz [999999999, 1] (.seq (.seq (.ops [(oD 35 (.faddr 1 (.s 1))), (oD 36 (.load 1 false (.s 35))), (oD 37 (.len .sl (.s 36))), (oD 38 (.mv (kI 0)))]) (.block 0 (.loop [1, 36, 37, 38] c35l0))) (.frz [999999999] (.seq (.ops [(oD 2 (.mv (kI 0)))]) .ret))))))
def f35 : Fn := ⟨54, [(.t 2)], c35⟩
/- codend/trawl.Heights -/
def c41l0 : RCode := (.ops [(oD 9 (.alloc [(vI 0), (vI 0)])), (oN (.store 2 (.s 9) (.s 30)))])
def c41l1 : RCode := (.block 1 (.draw [0, 0, 2, 0, 0, 16, 56, 120, 0, 0, 0, 1536, 3840, 7936, 16376, 32767, 65535] [(oD 31 (.load 1 false (.s 8))), (oD 32 (.faddr 0 (.s 9))), (oD 33 (.load 1 false (.s 32))), (oD 34 (.load 1 false (.s 8))), (oD 35 (.faddr 0 (.s 9))), (oD 36 (.load 1 false (.s 35))), (oD 37 (.iaddr 1 none (.s 34) (.s 36))), (oD 38 (.load 1 false (.s 37))), (oD 39 (.load 1 false (.s 5))), (oD 40 (.load 1 false (.s 7))), (oD 41 (.load 2 true (.s 9))), (oD 42 (.lookup [.i, .i] (vI 0) false (.s 40) (.s 41))), (oD 43 (.lookup [.i] (vI 0) false (.s 39) (.s 42))), (oD 44 (.fslice 1 1 [(vI 0)] [(0, (.s 43))])), (oD 45 (.append 1 8 [(vI 0)] (.s 38) (.s 44))), (oD 46 (.iaddr 1 none (.s 31) (.s 33))), (oN (.store 1 (.s 46) (.s 45)))]))
def c41 : RCode := (.seq (.ops [(oD 1 (.box (.s 0))), (oD 2 (.mv (.c .nilslice))), (oD 3 (.mv (kI 0)))]) (.seq (.seq (.ops [(oD 10 (.load 2 true (.s 1))), (iD 11 (.call 35 [(.s 10)])), (oD 4 (mS 11))]) (.seq (.ops [(oD 12 (mS 4)), (oD 13 (.bin .neq (.s 12) (kI 0)))]) (.cond (.s 13) (.seq (.ops [(oD 14 (mS 4)), (oD 2 (.mv (.c .nilslice))), (oD 3 (mS 14))]) .ret) .skip))) (.frz [999999999, 1, 2, 3] (.seq (.ops [(oD 16 (.load 2 true (.s 1))), (iD 17 (.call 78 [(.s 16)])), (oD 15 (mS 17)), (oD 18 (.extract 0 (.s 15))), (oD 19 (.extract 1 (.s 15))), (oD 5 (.alloc [.nilmap])), (oN (.store 1 (.s 5) (.s 18))), (oD 6 (mS 19))]) (.frz [999999999, 1, 2, 3, 5, 6] (.seq (.seq (.ops [(oD 20 (mS 6)), (oD 21 (.eq .sl true (.s 20) (.c .nilslice)))]) (.cond (.s 21) (.seq (.ops [(oD 2 (.mv (.c .nilslice))), (oD 3 (.mv (kI 29)))]) .ret) .skip)) (.frz [999999999, 1, 2, 3, 5] (.seq (.ops [(oD 22 (.load 2 true (.s 1))), (iD 23 (.call 79 [(.s 22)])), (oD 7 (.alloc [.nilmap])), (oN (.store 1 (.s 7) (.s 23)))]) (.seq (.ops [(oD 24 (.faddr 0 (.s 1))), (oD 25 (.load 1 false (.s 24))), (oD 26 (.len .sl (.s 25))), (oD 27 (.mkslice 1 24 [.nilslice] (.s 26) (.s 26))), (oD 8 (.alloc [.nilslice])), (oN (.store 1 (.s 8) (.s 27)))]) (.seq (.seq (.ops [(oD 28 (.load 2 true (.s 1))), (iD 29 (.call 80 [(.s 28)]))]) (.block 0 (.rangeF (.s 29) [30] [2, 3, 5, 7, 8, 29] c41l0 c41l1))) (.frz [999999999, 8] (.seq (.ops [(oD 47 (.load 1 false (.s 8))), (oD 2 (mS 47)), (oD 3 (.mv (kI 0)))]) .ret))))))))))))
def f41 : Fn := ⟨48, [(.t 2), (.t 3)], c41⟩
/- codend/trawl.Corners -/
def c46l0 : RCode := (.ops [(oD 7 (.alloc [(vI 0), (vI 0)])), (oN (.store 2 (.s 7) (.s 21)))])
def c46l1 : RCode := (.block 1 (.draw [0, 0, 2, 0, 0, 16, 56, 120, 0, 0, 768, 1792, 4088, 8191, 16383] [(oD 22 (.load 1 false (.s 6))), (oD 23 (.faddr 0 (.s 7))), (oD 24 (.load 1 false (.s 23))), (oD 25 (.load 1 false (.s 6))), (oD 26 (.faddr 0 (.s 7))), (oD 27 (.load 1 false (.s 26))), (oD 28 (.iaddr 1 none (.s 25) (.s 27))), (oD 29 (.load 1 false (.s 28))), (oD 30 (.load 1 false (.s 5))), (oD 31 (.load 2 true (.s 7))), (oD 32 (.lookup [.i, .i] (vI 0) false (.s 30) (.s 31))), (oD 33 (.fslice 1 1 [(vI 0)] [(0, (.s 32))])), (oD 34 (.append 1 8 [(vI 0)] (.s 29) (.s 33))), (oD 35 (.iaddr 1 none (.s 22) (.s 24))), (oN (.store 1 (.s 35) (.s 34)))]))
def c46 : RCode := (.seq (.ops [(oD 1 (.box (.s 0))), (oD 2 (.mv (.c .nilslice))), (oD 3 (.mv (kI 0)))]) (.seq (.seq (.ops [(oD 8 (.load 2 true (.s 1))), (iD 9 (.call 35 [(.s 8)])), (oD 4 (mS 9))]) (.seq (.ops [(oD 10 (mS 4)), (oD 11 (.bin .neq (.s 10) (kI 0)))]) (.cond (.s 11) (.seq (.ops [(oD 12 (mS 4)), (oD 2 (.mv (.c .nilslice))), (oD 3 (mS 12))]) .ret) .skip))) (.frz [999999999, 1, 2, 3] (.seq (.ops [(oD 13 (.load 2 true (.s 1))), (iD 14 (.call 79 [(.s 13)])), (oD 5 (.alloc [.nilmap])), (oN (.store 1 (.s 5) (.s 14)))]) (.seq (.ops [(oD 15 (.faddr 0 (.s 1))), (oD 16 (.load 1 false (.s 15))), (oD 17 (.len .sl (.s 16))), (oD 18 (.mkslice 1 24 [.nilslice] (.s 17) (.s 17))), (oD 6 (.alloc [.nilslice])), (oN (.store 1 (.s 6) (.s 18)))]) (.seq (.seq (.ops [(oD 19 (.load 2 true (.s 1))), (iD 20 (.call 80 [(.s 19)]))]) (.block 0 (.rangeF (.s 20) [21] [2, 3, 5, 6, 20] c46l0 c46l1))) (.frz [999999999, 6] (.seq (.ops [(oD 36 (.load 1 false (.s 6))), (oD 2 (mS 36)), (oD 3 (.mv (kI 0)))]) .ret))))))))
def f46 : Fn := ⟨37, [(.t 2), (.t 3)], c46⟩
/- codend/codendlaw07.tube -/
def c47 : RCode := (.seq (.ops [(oD 2 (.alloc [.nilslice, .nilslice]))]) (.seq (.ops [(oD 3 (.mv (.c (.fn 83 [] []))))]) (.seq (.ops [(oD 4 (mS 3)), (iD 5 (.callv (.s 4) [])), (oD 6 (.build [(.str (bs [])), .nilslice] [(0, (1, (.c (.str (bs [80]))))), (1, (1, (.s 5)))])), (oD 7 (mS 3)), (iD 8 (.callv (.s 7) [])), (oD 9 (.build [(.str (bs [])), .nilslice] [(0, (1, (.c (.str (bs [81]))))), (1, (1, (.s 8)))])), (oD 10 (.bslice 2 2 [(.str (bs [])), .nilslice] [(0, (.s 6)), (1, (.s 9))])), (oD 11 (.build [(vI 0), (vI 0)] [(0, (1, (kI 0))), (1, (1, (kI 1)))])), (oD 12 (.build [(vI 0), (vI 0)] [(0, (1, (kI 1))), (1, (1, (kI 3)))])), (oD 13 (.build [(vI 0), (vI 0), (vI 0), (vI 0), (.bool false)] [(0, (2, (.s 11))), (2, (2, (.s 12)))])), (oD 14 (.build [(vI 0), (vI 0)] [(0, (1, (kI 0))), (1, (1, (kI 3)))])), (oD 15 (.build [(vI 0), (vI 0)] [(0, (1, (kI 1))), (1, (1, (kI 1)))])), (oD 16 (mS 0)), (oD 17 (.build [(vI 0), (vI 0), (vI 0), (vI 0), (.bool false)] [(0, (2, (.s 14))), (2, (2, (.s 15))), (4, (1, (.s 16)))])), (oD 18 (.bslice 5 2 [(vI 0), (vI 0), (vI 0), (vI 0), (.bool false)] [(0, (.s 13)), (1, (.s 17))])), (oD 19 (.build [.nilslice, .nilslice] [(0, (1, (.s 10))), (1, (1, (.s 18)))])), (oN (.store 2 (.s 2) (.s 19)))]) .ret)))
def f47 : Fn := ⟨20, [(.cell 2 2 true)], c47⟩
/- codend/codendref07.SameRows -/
def c48l0 : RCode := (.seq (.seq (.ops [(oD 11 (mS 5)), (oD 12 (mS 0)), (oD 13 (.len .sl (.s 12))), (oD 14 (.bin .lss (.s 11) (.s 13)))]) (.cond (.s 14) .skip (.exit 0))) (.frz [999999999, 0, 1, 5] (.seq (.block 1 (.seq (.draw [0, 0, 3, 7, 0, 0, 48, 112, 255, 511] [(oD 17 (mS 0)), (oD 18 (mS 5)), (oD 19 (.iaddr 1 none (.s 17) (.s 18))), (oD 20 (.load 1 false (.s 19))), (oD 21 (mS 1)), (oD 22 (mS 5)), (oD 23 (.iaddr 1 none (.s 21) (.s 22))), (oD 24 (.load 1 false (.s 23))), (iD 25 (.call 31 [(.s 20), (.s 24)])), (oD 26 (.un .not (.s 25)))]) (.frz [999999999, 0, 1, 5, 26] (.cond (.s 26) (.seq (.ops [(oD 4 (.mv (.c (.bool false))))]) .ret) .skip)))) (.frz [999999999, 0, 1, 5] (.ops [(oD 15 (mS 5)), (oD 16 (.bin .add (.s 15) (kI 1))), (oD 5 (mS 16))])))))
def c48 : RCode := (.seq (.ops [(oD 4 (.mv (.c (.bool false))))]) (.seq (.seq (.ops [(oD 6 (mS 0)), (oD 7 (.len .sl (.s 6))), (oD 8 (mS 1)), (oD 9 (.len .sl (.s 8))), (oD 10 (.bin .neq (.s 7) (.s 9)))]) (.cond (.s 10) (.seq (.ops [(oD 4 (.mv (.c (.bool false))))]) .ret) .skip)) (.frz [999999999, 0, 1] (.seq (.seq (.ops [(oD 5 (.mv (kI 0)))]) (.block 0 (.loop [0, 1, 5] c48l0))) (.frz [999999999] (.seq (.ops [(oD 4 (.mv (.c (.bool true))))]) .ret))))))
def f48 : Fn := ⟨27, [(.t 4)], c48⟩
/- codend/trawl.CheckClash -/
def c49l0 : RCode := (.seq (.ops [(oD 31 (.bin .lss (.s 30) (.s 29)))]) (.seq (.cond (.s 31) .skip (.exit 0)) (.frz [999999999, 1, 2, 6, 7, 28, 29, 30] (.seq (.block 1 (.seq (.ops [(oD 32 (mS 30)), (oD 33 (.iaddr 3 none (.s 28) (.s 30))), (oD 34 (.load 3 true (.s 33))), (oD 9 (.alloc [(vI 0), (vI 0), (.bool false)])), (oD 8 (mS 32)), (oN (.store 3 (.s 9) (.s 34)))]) (.seq (.ops [(oD 35 (mS 1)), (oD 36 (mS 8)), (oD 37 (mS 1)), (oD 38 (.len .sl (.s 37))), (oD 39 (.bin .add (.s 36) (.s 38))), (oD 40 (.bin .sub (.s 39) (kI 1))), (oD 41 (mS 1)), (oD 42 (.len .sl (.s 41))), (oD 43 (.bin .rem (.s 40) (.s 42))), (oD 44 (.iaddr 3 none (.s 35) (.s 43))), (oD 45 (.load 3 true (.s 44))), (oD 10 (.alloc [(vI 0), (vI 0), (.bool false)])), (oN (.store 3 (.s 10) (.s 45)))]) (.frz [999999999, 1, 2, 6, 7, 9, 10, 28, 29, 30] (.seq (.seq (.frz [6] (.draw [0, 0, 0, 7, 0, 0, 0, 127, 255] [(oD 46 (.load 2 true (.s 2))), (oD 47 (.load 3 true (.s 9))), (oD 48 (mS 6)), (iD 49 (.call 86 [(.s 46), (.s 47), (.s 48)])), (oD 50 (.load 2 true (.s 2))), (oD 51 (.load 3 true (.s 10))), (oD 52 (mS 6)), (iD 53 (.call 87 [(.s 50), (.s 51), (.s 52)])), (oD 54 (.bin .neq (.s 49) (.s 53)))])) (.frz [999999999, 1, 2, 6, 7, 9, 28, 29, 30, 54] (.cond (.s 54) (.seq (.ops [(oD 4 (.mv (kI 21)))]) .ret) .skip))) (.frz [999999999, 1, 2, 6, 7, 9, 28, 29, 30] (.seq (.ops [(oD 55 (.load 2 true (.s 2))), (oD 56 (.faddr 0 (.s 9))), (oD 57 (.load 2 true (.s 56))), (iD 58 (.call 88 [(.s 55), (.s 57)])), (oD 59 (.field 1 1 false (.s 58))), (oD 11 (mS 59))]) (.seq (.seq (.ops [(oD 60 (.faddr 2 (.s 9))), (oD 61 (.load 1 false (.s 60)))]) (.cond (.s 61) (.ops [(oD 62 (mS 11)), (oD 63 (.un .neg (.s 62))), (oD 11 (mS 63))]) .skip)) (.frz [999999999, 1, 2, 6, 7, 11, 28, 29, 30] (.ops [(oD 64 (mS 7)), (oD 65 (mS 11)), (oD 66 (.bin .add (.s 64) (.s 65))), (oD 7 (mS 66))])))))))))) (.frz [999999999, 1, 2, 6, 7, 28, 29, 30] (.ops [(oD 67 (.bin .add (.s 30) (kI 1))), (oD 30 (mS 67))]))))))
def c49 : RCode := (.seq (.ops [(oD 2 (.box (.s 0))), (oD 4 (.mv (kI 0)))]) (.seq (.seq (.ops [(oD 12 (.load 2 true (.s 2))), (iD 13 (.call 35 [(.s 12)])), (oD 14 (mS 1)), (oD 15 (.len .sl (.s 14))), (oD 16 (.bin .gtr (.s 15) (kI 256))), (iD 17 (.call 63 [(.s 16), (kI 5)])), (oD 18 (.fslice 1 2 [(vI 0)] [(0, (.s 13)), (1, (.s 17))])), (iD 19 (.call 51 [(.s 18)])), (oD 5 (mS 19))]) (.frz [999999999, 1, 2, 5] (.seq (.ops [(oD 20 (mS 5)), (oD 21 (.bin .neq (.s 20) (kI 0)))]) (.cond (.s 21) (.seq (.ops [(oD 22 (mS 5)), (oD 4 (mS 22))]) .ret) .skip)))) (.frz [999999999, 1, 2] (.seq (.seq (.ops [(oD 23 (mS 1)), (oD 24 (.fn 85 [] [(.s 2)])), (iD 25 (.call 84 [(.s 23), (.s 24)]))]) (.cond (.s 25) (.seq (.ops [(oD 4 (.mv (kI 10)))]) .ret) .skip)) (.frz [999999999, 1, 2] (.seq (.ops [(oD 26 (.load 2 true (.s 2))), (iD 27 (.call 79 [(.s 26)])), (oD 6 (mS 27))]) (.seq (.ops [(oD 7 (.mv (kI 0)))]) (.seq (.seq (.ops [(oD 28 (mS 1)), (oD 29 (.len .sl (.s 28))), (oD 30 (.mv (kI 0)))]) (.block 0 (.loop [1, 2, 6, 7, 28, 29, 30] c49l0))) (.frz [999999999, 7] (.seq (.ops [(oD 68 (mS 7)), (oD 69 (.bin .eql (.s 68) (kI 0))), (iD 70 (.call 63 [(.s 69), (kI 21)])), (oD 4 (mS 70))]) .ret))))))))))
def f49 : Fn := ⟨71, [(.t 4)], c49⟩
/- codend/trawl.checkLoads -/
def c50l0 : RCode := (.seq (.ops [(oD 12 (.bin .lss (.s 11) (.s 10)))]) (.seq (.cond (.s 12) .skip (.exit 0)) (.frz [999999999, 9, 10, 11] (.seq (.block 1 (.seq (.ops [(oD 13 (.iaddr 3 none (.s 9) (.s 11))), (oD 14 (.load 3 true (.s 13))), (oD 4 (.alloc [(.str (bs [])), (vI 0), (vI 0)])), (oN (.store 3 (.s 4) (.s 14)))]) (.seq (.draw [0, 1, 3, 7, 15, 0, 32, 127, 0, 256, 1023, 2047, 4095, 8191] [(oD 15 (.faddr 0 (.s 4))), (oD 16 (.load 1 false (.s 15))), (iD 17 (.call 89 [(.s 16)])), (oD 18 (.un .not (.s 17))), (iD 19 (.call 63 [(.s 18), (kI 8)])), (oD 20 (.faddr 1 (.s 4))), (oD 21 (.load 1 false (.s 20))), (iD 22 (.call 52 [(.s 21), (kI (-1000000)), (kI 1000000)])), (oD 23 (.faddr 2 (.s 4))), (oD 24 (.load 1 false (.s 23))), (iD 25 (.call 52 [(.s 24), (kI (-10000)), (kI 10000)])), (oD 26 (.fslice 1 3 [(vI 0)] [(0, (.s 19)), (1, (.s 22)), (2, (.s 25))])), (iD 27 (.call 51 [(.s 26)])), (oD 5 (mS 27))]) (.frz [999999999, 5, 9, 10, 11] (.seq (.ops [(oD 28 (mS 5)), (oD 29 (.bin .neq (.s 28) (kI 0)))]) (.cond (.s 29) (.seq (.ops [(oD 30 (mS 5)), (oD 2 (mS 30))]) .ret) .skip)))))) (.frz [999999999, 9, 10, 11] (.ops [(oD 31 (.bin .add (.s 11) (kI 1))), (oD 11 (mS 31))]))))))
def c50 : RCode := (.seq (.ops [(oD 2 (.mv (kI 0)))]) (.seq (.seq (.ops [(oD 6 (mS 0)), (oD 7 (.len .sl (.s 6))), (oD 8 (.bin .gtr (.s 7) (kI 64)))]) (.cond (.s 8) (.seq (.ops [(oD 2 (.mv (kI 5)))]) .ret) .skip)) (.frz [999999999, 0] (.seq (.seq (.ops [(oD 9 (mS 0)), (oD 10 (.len .sl (.s 9))), (oD 11 (.mv (kI 0)))]) (.block 0 (.loop [9, 10, 11] c50l0))) (.frz [999999999] (.seq (.ops [(oD 2 (.mv (kI 0)))]) .ret))))))
def f50 : Fn := ⟨32, [(.t 2)], c50⟩
/- codend/trawl.first -/
def c51l0 : RCode := (.seq (.ops [(oD 8 (.bin .lss (.s 7) (.s 6)))]) (.seq (.cond (.s 8) .skip (.exit 0)) (.frz [999999999, 5, 6, 7] (.seq (.block 1 (.seq (.ops [(oD 9 (.iaddr 1 none (.s 5) (.s 7))), (oD 10 (.load 1 false (.s 9))), (oD 4 (mS 10))]) (.seq (.ops [(oD 11 (mS 4)), (oD 12 (.bin .neq (.s 11) (kI 0)))]) (.cond (.s 12) (.seq (.ops [(oD 13 (mS 4)), (oD 2 (mS 13))]) .ret) .skip)))) (.frz [999999999, 5, 6, 7] (.ops [(oD 14 (.bin .add (.s 7) (kI 1))), (oD 7 (mS 14))]))))))
def c51 : RCode := (.seq (.ops [(oD 2 (.mv (kI 0)))]) (.seq (.seq (.ops [(oD 5 (mS 0)), (oD 6 (.len .sl (.s 5))), (oD 7 (.mv (kI 0)))]) (.block 0 (.loop [5, 6, 7] c51l0))) (.frz [999999999] (.seq (.ops [(oD 2 (.mv (kI 0)))]) .ret))))
def f51 : Fn := ⟨15, [(.t 2)], c51⟩
/- codend/trawl.within -/
def c52 : RCode := (.seq (.ops [(oD 6 (.mv (kI 0)))]) (.seq (.ops [(oD 7 (mS 0)), (oD 8 (mS 1)), (oD 9 (.bin .lss (.s 7) (.s 8))), (oD 10 (mS 9)), (oDg 11 (mS 0) 10 false), (oDg 12 (mS 2) 10 false), (oDg 13 (.bin .gtr (.s 11) (.s 12)) 10 false), (oD 14 (.pick (.s 10) (.c (.bool true)) (.s 13))), (iD 15 (.call 63 [(.s 14), (kI 3)])), (oD 6 (mS 15))]) .ret))
def f52 : Fn := ⟨16, [(.t 6)], c52⟩
/- codend/codendref01.IsName -/
def c53l0 : RCode := (.seq (.seq (.ops [(oD 14 (mS 3)), (oD 15 (mS 0)), (oD 16 (.len .str (.s 15))), (oD 17 (.bin .lss (.s 14) (.s 16)))]) (.cond (.s 17) .skip (.exit 0))) (.frz [999999999, 0, 3] (.seq (.block 1 (.seq (.ops [(oD 20 (mS 0)), (oD 21 (mS 3)), (oD 22 (.sindex (.s 20) (.s 21))), (oD 4 (mS 22))]) (.seq (.ops [(oD 23 (mS 4)), (oD 24 (.bin .geq (.s 23) (.c (.int .u8 97)))), (oD 25 (mS 24)), (oDg 26 (mS 4) 25 true), (oDg 27 (.bin .leq (.s 26) (.c (.int .u8 122))) 25 true), (oD 28 (.pick (.s 25) (.s 27) (.c (.bool false)))), (oD 29 (mS 28)), (oDg 30 (mS 4) 29 false), (oDg 31 (.bin .geq (.s 30) (.c (.int .u8 65))) 29 false), (oDg 32 (mS 31) 29 false), (oDg 33 (mS 4) 32 true), (oDg 34 (.bin .leq (.s 33) (.c (.int .u8 90))) 32 true), (oDg 35 (.pick (.s 32) (.s 34) (.c (.bool false))) 29 false), (oD 36 (.pick (.s 29) (.c (.bool true)) (.s 35))), (oD 5 (mS 36))]) (.frz [999999999, 0, 3, 4, 5] (.seq (.ops [(oD 37 (mS 5)), (oD 38 (.un .not (.s 37))), (oD 39 (mS 38)), (oDg 40 (mS 3) 39 true), (oDg 41 (.bin .eql (.s 40) (kI 0)) 39 true), (oDg 42 (mS 41) 39 true), (oDg 43 (mS 4) 42 false), (oDg 44 (.bin .neq (.s 43) (.c (.int .u8 95))) 42 false), (oDg 45 (mS 44) 42 false), (oDg 46 (mS 4) 45 true), (oDg 47 (.bin .lss (.s 46) (.c (.int .u8 48))) 45 true), (oDg 48 (mS 47) 45 true), (oDg 49 (mS 4) 48 false), (oDg 50 (.bin .gtr (.s 49) (.c (.int .u8 57))) 48 false), (oDg 51 (.pick (.s 48) (.c (.bool true)) (.s 50)) 45 true), (oDg 52 (.pick (.s 45) (.s 51) (.c (.bool false))) 42 false), (oDg 53 (.pick (.s 42) (.c (.bool true)) (.s 52)) 39 true), (oD 54 (.pick (.s 39) (.s 53) (.c (.bool false))))]) (.frz [999999999, 0, 3, 54] (.cond (.s 54) (.seq (.ops [(oD 2 (.mv (.c (.bool false))))]) .ret) .skip))))))) (.frz [999999999, 0, 3] (.ops [(oD 18 (mS 3)), (oD 19 (.bin .add (.s 18) (kI 1))), (oD 3 (mS 19))])))))
def c53 : RCode := (.seq (.ops [(oD 2 (.mv (.c (.bool false))))]) (.seq (.seq (.ops [(oD 6 (mS 0)), (oD 7 (.len .str (.s 6))), (oD 8 (.bin .eql (.s 7) (kI 0))), (oD 9 (mS 8)), (oDg 10 (mS 0) 9 false), (oDg 11 (.len .str (.s 10)) 9 false), (oDg 12 (.bin .gtr (.s 11) (kI 24)) 9 false), (oD 13 (.pick (.s 9) (.c (.bool true)) (.s 12)))]) (.frz [999999999, 0, 13] (.cond (.s 13) (.seq (.ops [(oD 2 (.mv (.c (.bool false))))]) .ret) .skip))) (.frz [999999999, 0] (.seq (.seq (.ops [(oD 3 (.mv (kI 0)))]) (.block 0 (.loop [0, 3] c53l0))) (.frz [999999999] (.seq (.ops [(oD 2 (.mv (.c (.bool true))))]) .ret))))))
def f53 : Fn := ⟨55, [(.t 2)], c53⟩
/- codend/codendref07.First -/
def c54l0 : RCode := (.seq (.seq (.ops [(oD 4 (mS 3)), (oD 5 (mS 0)), (oD 6 (.len .sl (.s 5))), (oD 7 (.bin .lss (.s 4) (.s 6)))]) (.cond (.s 7) .skip (.exit 0))) (.frz [999999999, 0, 3] (.seq (.block 1 (.seq (.ops [(oD 10 (mS 0)), (oD 11 (mS 3)), (oD 12 (.iaddr 1 none (.s 10) (.s 11))), (oD 13 (.load 1 false (.s 12))), (oD 14 (.bin .neq (.s 13) (kI 0)))]) (.cond (.s 14) (.seq (.ops [(oD 15 (mS 0)), (oD 16 (mS 3)), (oD 17 (.iaddr 1 none (.s 15) (.s 16))), (oD 18 (.load 1 false (.s 17))), (oD 2 (mS 18))]) .ret) .skip))) (.frz [999999999, 0, 3] (.ops [(oD 8 (mS 3)), (oD 9 (.bin .add (.s 8) (kI 1))), (oD 3 (mS 9))])))))
def c54 : RCode := (.seq (.ops [(oD 2 (.mv (kI 0)))]) (.seq (.seq (.ops [(oD 3 (.mv (kI 0)))]) (.block 0 (.loop [0, 3] c54l0))) (.frz [999999999] (.seq (.ops [(oD 2 (.mv (kI 0)))]) .ret))))
def f54 : Fn := ⟨19, [(.t 2)], c54⟩
/- codend/codendref07.outside -/
def c55 : RCode := (.seq (.ops [(oD 6 (.mv (kI 0)))]) (.seq (.seq (.ops [(oD 7 (mS 0)), (oD 8 (mS 1)), (oD 9 (.bin .lss (.s 7) (.s 8))), (oD 10 (mS 9)), (oDg 11 (mS 0) 10 false), (oDg 12 (mS 2) 10 false), (oDg 13 (.bin .gtr (.s 11) (.s 12)) 10 false), (oD 14 (.pick (.s 10) (.c (.bool true)) (.s 13)))]) (.frz [999999999, 14] (.cond (.s 14) (.seq (.ops [(oD 6 (.mv (kI 3)))]) .ret) .skip))) (.frz [999999999] (.seq (.ops [(oD 6 (.mv (kI 0)))]) .ret))))
def f55 : Fn := ⟨15, [(.t 6)], c55⟩
/- (codend/trawl.Trawl).free -/
def c56l0 : RCode := (.ops [(oD 4 (.alloc [(vI 0), (vI 0)])), (oN (.store 2 (.s 4) (.s 10)))])
def c56l1 : RCode := (.block 1 (.seq (.ops [(oD 12 (.load 2 true (.s 1))), (oD 13 (.load 2 true (.s 4))), (iD 14 (.call 72 [(.s 12), (.s 13)])), (oD 11 (mS 14)), (oD 15 (.extract 0 (.s 11))), (oD 16 (.extract 1 (.s 11))), (oD 17 (.extract 2 (.s 11))), (oD 5 (.alloc [(vI 0), (vI 0)])), (oN (.store 2 (.s 5) (.s 15))), (oD 6 (mS 16)), (oD 7 (mS 17))]) (.seq (.ops [(oD 18 (mS 7)), (oD 19 (.un .not (.s 18)))]) (.cond (.s 19) (.ops [(oD 20 (.load 1 false (.s 3))), (oD 21 (.load 2 true (.s 4))), (oD 22 (.fslice 2 1 [(vI 0), (vI 0)] [(0, (.s 21))])), (oD 23 (.append 2 16 [(vI 0), (vI 0)] (.s 20) (.s 22))), (oN (.store 1 (.s 3) (.s 23)))]) .skip))))
def c56 : RCode := (.seq (.ops [(oD 1 (.box (.s 0))), (oD 2 (.mv (.c .nilslice)))]) (.seq (.ops [(oD 3 (.alloc [.nilslice]))]) (.seq (.seq (.ops [(oD 8 (.load 2 true (.s 1))), (iD 9 (.call 80 [(.s 8)]))]) (.block 0 (.rangeF (.s 9) [10] [1, 2, 3, 9] c56l0 c56l1))) (.frz [999999999, 3] (.seq (.ops [(oD 24 (.load 1 false (.s 3))), (oD 2 (mS 24))]) .ret)))))
def f56 : Fn := ⟨25, [(.t 2)], c56⟩
/- (codend/trawl.Trawl).openings -/
def c57l0 : RCode := (.block 3 (.seq (.ops [(oD 23 (mS 7)), (oD 24 (.load 2 true (.s 8))), (oD 25 (.fslice 2 1 [(vI 0), (vI 0)] [(0, (.s 24))])), (oD 26 (.append 2 16 [(vI 0), (vI 0)] (.s 23) (.s 25))), (oD 7 (mS 26))]) (.seq (.ops [(oD 27 (mS 3)), (oD 28 (.load 2 true (.s 8))), (oN (.mapset [.i, .i] (.s 27) (.s 28) (.c (.bool true))))]) (.seq (.ops [(oD 29 (.load 2 true (.s 1))), (oD 30 (.load 2 true (.s 8))), (iD 31 (.call 90 [(.s 29), (.s 30)])), (oD 32 (.aindex 2 2 true (.s 31) (kI 0))), (oD 10 (.alloc [(vI 0), (vI 0)])), (oN (.store 2 (.s 10) (.s 32)))]) (.seq (.seq (.ops [(oD 33 (mS 9))]) (.cond (.s 33) (.ops [(oD 34 (.load 2 true (.s 1))), (oD 35 (.load 2 true (.s 8))), (iD 36 (.call 90 [(.s 34), (.s 35)])), (oD 37 (.aindex 2 2 true (.s 36) (kI 1))), (oN (.store 2 (.s 10) (.s 37)))]) .skip)) (.frz [999999999, 1, 3, 4, 6, 7, 8, 10, 13, 14, 15] (.seq (.ops [(oD 39 (.load 2 true (.s 1))), (oD 40 (.load 2 true (.s 8))), (oD 41 (.load 2 true (.s 10))), (iD 42 (.call 91 [(.s 39), (.s 40), (.s 41)])), (oD 38 (mS 42)), (oD 43 (.extract 0 (.s 38))), (oD 44 (.extract 1 (.s 38))), (oN (.store 2 (.s 8) (.s 43))), (oD 9 (mS 44))]) (.frz [999999999, 1, 3, 4, 6, 7, 8, 9, 13, 14, 15] (.seq (.ops [(oD 45 (.load 2 true (.s 8))), (oD 46 (.load 2 true (.s 6))), (oD 47 (.eq (.agg [.i, .i]) false (.s 45) (.s 46)))]) (.cond (.s 47) (.seq (.ops [(oD 48 (mS 4)), (oD 49 (mS 7)), (oD 50 (.bslice 1 1 [.nilslice] [(0, (.s 49))])), (oD 51 (.append 1 24 [.nilslice] (.s 48) (.s 50))), (oD 4 (mS 51))]) (.exit 1)) .skip))))))))))
def c57l1 : RCode := (.seq (.ops [(oD 16 (.bin .lss (.s 15) (.s 14)))]) (.seq (.cond (.s 16) .skip (.exit 0)) (.frz [999999999, 1, 3, 4, 13, 14, 15] (.seq (.block 1 (.seq (.ops [(oD 17 (.iaddr 2 none (.s 13) (.s 15))), (oD 18 (.load 2 true (.s 17))), (oD 6 (.alloc [(vI 0), (vI 0)])), (oN (.store 2 (.s 6) (.s 18)))]) (.seq (.seq (.ops [(oD 19 (mS 3)), (oD 20 (.load 2 true (.s 6))), (oD 21 (.lookup [.i, .i] (.bool false) false (.s 19) (.s 20)))]) (.cond (.s 21) (.exit 1) .skip)) (.frz [999999999, 1, 3, 4, 6, 13, 14, 15] (.seq (.ops [(oD 7 (.mv (.c .nilslice)))]) (.seq (.ops [(oD 22 (.load 2 true (.s 6))), (oD 8 (.alloc [(vI 0), (vI 0)])), (oN (.store 2 (.s 8) (.s 22))), (oD 9 (.mv (.c (.bool true))))]) (.block 2 (.loop [1, 3, 4, 6, 7, 8, 9, 13, 14, 15] c57l0)))))))) (.frz [999999999, 1, 3, 4, 13, 14, 15] (.ops [(oD 52 (.bin .add (.s 15) (kI 1))), (oD 15 (mS 52))]))))))
def c57 : RCode := (.seq (.ops [(oD 1 (.box (.s 0))), (oD 2 (.mv (.c .nilslice)))]) (.scope (.seq (.ops [(oD 11 .mkmap), (oD 3 (mS 11))]) (.seq (.ops [(oD 4 (.mv (.c .nilslice)))]) (.seq .skip (.seq (.seq (.ops [(oD 12 (.load 2 true (.s 1))), (iD 13 (.call 56 [(.s 12)])), (oD 14 (.len .sl (.s 13))), (oD 15 (.mv (kI 0)))]) (.block 0 (.loop [1, 3, 4, 13, 14, 15] c57l1))) (.frz [999999999, 4] (.seq (.ops [(oD 53 (mS 4)), (oD 2 (mS 53))]) .ret))))))))
def f57 : Fn := ⟨54, [(.t 2)], c57⟩
/- (codend/trawl.Trawl).count -/
def c58l0 : RCode := (.seq (.ops [(oD 25 (.mnx (.s 24))), (oD 26 (.extract 0 (.s 25)))]) (.seq (.cond (.s 26) .skip (.exit 0)) (.block 1 (.seq (.ops [(oD 27 (.ment (.s 24))), (oD 28 (.extract 0 (.s 27))), (oD 29 (.extract 1 (.s 27))), (oD 9 (.alloc [(vI 0), (vI 0)])), (oN (.store 2 (.s 9) (.s 28))), (oD 10 (mS 29))]) (.seq (.ops [(oD 30 (mS 6)), (oD 31 (.faddr 0 (.s 9))), (oD 32 (.load 1 false (.s 31))), (iD 33 (.callv (.s 30) [(.s 32)]))]) (.cond (.s 33) (.ops [(oD 34 (mS 8)), (oD 35 (mS 10)), (oN (.mapset [.i] (.s 34) (.s 35) (.c (.bool true))))]) .skip))))))
def c58l1 : RCode := (.seq (.ops [(oD 43 (.bin .lss (.s 42) (.s 41)))]) (.seq (.cond (.s 43) .skip (.exit 2)) (.frz [999999999, 2, 4, 5, 6, 7, 41, 42] (.seq (.block 3 (.seq (.ops [(oD 44 (mS 42)), (oD 11 (mS 44))]) (.seq (.ops [(oD 45 (mS 6)), (oD 46 (mS 11)), (iD 47 (.callv (.s 45) [(.s 46)]))]) (.cond (.s 47) (.ops [(oD 48 (.faddr 2 (.s 7))), (oD 49 (.load 1 false (.s 48))), (oD 50 (.bin .add (.s 49) (kI 1))), (oD 51 (.faddr 2 (.s 7))), (oN (.store 1 (.s 51) (.s 50)))]) .skip)))) (.frz [999999999, 2, 4, 5, 6, 7, 41, 42] (.ops [(oD 52 (.bin .add (.s 42) (kI 1))), (oD 42 (mS 52))]))))))
def c58l2 : RCode := (.seq (.ops [(oD 57 (.bin .lss (.s 56) (.s 55)))]) (.seq (.cond (.s 57) .skip (.exit 4)) (.frz [999999999, 2, 4, 5, 6, 7, 54, 55, 56] (.seq (.block 5 (.seq (.ops [(oD 58 (.iaddr 5 none (.s 54) (.s 56))), (oD 59 (.load 5 true (.s 58))), (oD 13 (.alloc [(vI 0), (vI 0), (vI 0), (vI 0), (.bool false)])), (oN (.store 5 (.s 13) (.s 59)))]) (.seq (.ops [(oD 60 (mS 6)), (oD 61 (.faddr 0 (.s 13))), (oD 62 (.faddr 0 (.s 61))), (oD 63 (.load 1 false (.s 62))), (iD 64 (.callv (.s 60) [(.s 63)]))]) (.cond (.s 64) (.ops [(oD 65 (.faddr 1 (.s 7))), (oD 66 (.load 1 false (.s 65))), (oD 67 (.bin .add (.s 66) (kI 1))), (oD 68 (.faddr 1 (.s 7))), (oN (.store 1 (.s 68) (.s 67)))]) .skip)))) (.frz [999999999, 2, 4, 5, 6, 7, 54, 55, 56] (.ops [(oD 69 (.bin .add (.s 56) (kI 1))), (oD 56 (mS 69))]))))))
def c58l3 : RCode := (.seq (.ops [(oD 74 (.bin .lss (.s 73) (.s 72)))]) (.seq (.cond (.s 74) .skip (.exit 6)) (.frz [999999999, 2, 4, 5, 6, 7, 71, 72, 73] (.seq (.block 7 (.seq (.ops [(oD 75 (.iaddr 2 none (.s 71) (.s 73))), (oD 76 (.load 2 true (.s 75))), (oD 15 (.alloc [(vI 0), (vI 0)])), (oN (.store 2 (.s 15) (.s 76)))]) (.seq (.ops [(oD 77 (mS 6)), (oD 78 (.faddr 0 (.s 15))), (oD 79 (.load 1 false (.s 78))), (iD 80 (.callv (.s 77) [(.s 79)]))]) (.cond (.s 80) (.ops [(oD 81 (.faddr 1 (.s 7))), (oD 82 (.load 1 false (.s 81))), (oD 83 (.bin .add (.s 82) (kI 1))), (oD 84 (.faddr 1 (.s 7))), (oN (.store 1 (.s 84) (.s 83)))]) .skip)))) (.frz [999999999, 2, 4, 5, 6, 7, 71, 72, 73] (.ops [(oD 85 (.bin .add (.s 73) (kI 1))), (oD 73 (mS 85))]))))))
def c58l4 : RCode := (.seq (.ops [(oD 90 (.bin .lss (.s 89) (.s 88)))]) (.seq (.cond (.s 90) .skip (.exit 8)) (.frz [999999999, 4, 5, 6, 7, 87, 88, 89] (.seq (.block 9 (.seq (.ops [(oD 91 (.iaddr 1 none (.s 87) (.s 89))), (oD 92 (.load 1 false (.s 91))), (oD 17 (mS 92))]) (.seq (.ops [(oD 93 (mS 6)), (oD 94 (mS 17)), (oD 95 (.iaddr 2 none (.s 94) (kI 0))), (oD 96 (.faddr 0 (.s 95))), (oD 97 (.load 1 false (.s 96))), (iD 98 (.callv (.s 93) [(.s 97)]))]) (.cond (.s 98) (.ops [(oD 99 (.faddr 4 (.s 7))), (oD 100 (.load 1 false (.s 99))), (oD 101 (.bin .add (.s 100) (kI 1))), (oD 102 (.faddr 4 (.s 7))), (oN (.store 1 (.s 102) (.s 101)))]) .skip)))) (.frz [999999999, 4, 5, 6, 7, 87, 88, 89] (.ops [(oD 103 (.bin .add (.s 89) (kI 1))), (oD 89 (mS 103))]))))))
def c58 : RCode := (.seq (.ops [(oD 2 (.box (.s 0))), (oD 3 (.box (.s 1))), (oD 4 (.alloc [(vI 0), (vI 0), (vI 0), (vI 0), (vI 0), (vI 0)]))]) (.seq (.ops [(oD 18 (.load 2 true (.s 2))), (iD 19 (.call 60 [(.s 18)])), (oD 5 (.alloc [.nilslice])), (oN (.store 1 (.s 5) (.s 19)))]) (.seq (.ops [(oD 20 (.fn 92 [] [(.s 3), (.s 5)])), (oD 6 (mS 20))]) (.seq (.ops [(oD 7 (.alloc [(vI 0), (vI 0), (vI 0), (vI 0), (vI 0), (vI 0)]))]) (.seq (.ops [(oD 21 .mkmap), (oD 8 (mS 21))]) (.seq (.hand 58024 (.seq (.ops [(oD 22 (.load 2 true (.s 2))), (iD 23 (.call 79 [(.s 22)])), (oD 24 (.mrg (.s 23)))]) (.block 0 (.loop [2, 4, 5, 6, 7, 8, 24] c58l0)))) (.frz [999999999, 2, 4, 5, 6, 7, 8] (.seq (.ops [(oD 36 (mS 8)), (oD 37 (.len .mp (.s 36))), (oD 38 (.faddr 0 (.s 7))), (oN (.store 1 (.s 38) (.s 37)))]) (.seq (.seq (.ops [(oD 39 (.faddr 0 (.s 2))), (oD 40 (.load 1 false (.s 39))), (oD 41 (.len .sl (.s 40))), (oD 42 (.mv (kI 0)))]) (.block 2 (.loop [2, 4, 5, 6, 7, 41, 42] c58l1))) (.frz [999999999, 2, 4, 5, 6, 7] (.seq (.seq (.ops [(oD 53 (.faddr 1 (.s 2))), (oD 54 (.load 1 false (.s 53))), (oD 55 (.len .sl (.s 54))), (oD 56 (.mv (kI 0)))]) (.block 4 (.loop [2, 4, 5, 6, 7, 54, 55, 56] c58l2))) (.frz [999999999, 2, 4, 5, 6, 7] (.seq (.seq (.ops [(oD 70 (.load 2 true (.s 2))), (iD 71 (.call 56 [(.s 70)])), (oD 72 (.len .sl (.s 71))), (oD 73 (.mv (kI 0)))]) (.block 6 (.loop [2, 4, 5, 6, 7, 71, 72, 73] c58l3))) (.frz [999999999, 2, 4, 5, 6, 7] (.seq (.seq (.ops [(oD 86 (.load 2 true (.s 2))), (iD 87 (.call 57 [(.s 86)])), (oD 88 (.len .sl (.s 87))), (oD 89 (.mv (kI 0)))]) (.block 8 (.loop [4, 5, 6, 7, 87, 88, 89] c58l4))) (.frz [999999999, 4, 5, 7] (.seq (.ops [(oD 104 (.load 1 false (.s 5))), (iD 105 (.call 59 [(.s 104)])), (oD 106 (.bin .add (.s 105) (kI 1))), (oD 107 (.faddr 3 (.s 7))), (oN (.store 1 (.s 107) (.s 106)))]) (.seq (.ops [(oD 108 (.faddr 0 (.s 7))), (oD 109 (.load 1 false (.s 108))), (oD 110 (.faddr 1 (.s 7))), (oD 111 (.load 1 false (.s 110))), (oD 112 (.bin .sub (.s 109) (.s 111))), (oD 113 (.faddr 2 (.s 7))), (oD 114 (.load 1 false (.s 113))), (oD 115 (.bin .add (.s 112) (.s 114))), (oD 116 (.faddr 5 (.s 7))), (oN (.store 1 (.s 116) (.s 115)))]) (.frz [999999999, 4, 7] (.seq (.ops [(oD 117 (.load 6 true (.s 7))), (oN (.store 6 (.s 4) (.s 117)))]) .ret))))))))))))))))))))
def f58 : Fn := ⟨118, [(.cell 4 6 true)], c58⟩
/- slices.Max[[]int,int] -/
def c59l0 : RCode := (.seq (.seq (.ops [(oD 12 (mS 4)), (oD 13 (mS 0)), (oD 14 (.len .sl (.s 13))), (oD 15 (.bin .lss (.s 12) (.s 14)))]) (.cond (.s 15) .skip (.exit 0))) (.frz [999999999, 0, 3, 4] (.seq (.block 1 (.ops [(oD 18 (mS 3)), (oD 19 (mS 0)), (oD 20 (mS 4)), (oD 21 (.iaddr 1 none (.s 19) (.s 20))), (oD 22 (.load 1 false (.s 21))), (oD 23 (.minmax true [(.s 18), (.s 22)])), (oD 3 (mS 23))])) (.ops [(oD 16 (mS 4)), (oD 17 (.bin .add (.s 16) (kI 1))), (oD 4 (mS 17))]))))
def c59 : RCode := (.seq (.ops [(oD 2 (.mv (kI 0)))]) (.seq (.seq (.ops [(oD 5 (mS 0)), (oD 6 (.len .sl (.s 5))), (oD 7 (.bin .lss (.s 6) (kI 1)))]) (.cond (.s 7) .dead .skip)) (.frz [999999999, 0] (.seq (.ops [(oD 9 (mS 0)), (oD 10 (.iaddr 1 none (.s 9) (kI 0))), (oD 11 (.load 1 false (.s 10))), (oD 3 (mS 11))]) (.seq (.seq (.ops [(oD 4 (.mv (kI 1)))]) (.block 0 (.loop [0, 3, 4] c59l0))) (.frz [999999999, 3] (.seq (.ops [(oD 24 (mS 3)), (oD 2 (mS 24))]) .ret)))))))
def f59 : Fn := ⟨25, [(.t 2)], c59⟩
/- (codend/trawl.Trawl).pieces -/
def c60l0 : RCode := (.seq (.ops [(oD 10 (.bin .lss (.s 9) (.s 8)))]) (.seq (.cond (.s 10) .skip (.exit 0)) (.frz [999999999, 1, 3, 8, 9] (.seq (.block 1 (.seq (.ops [(oD 11 (mS 9)), (oD 4 (mS 11))]) (.ops [(oD 12 (mS 3)), (oD 13 (mS 4)), (oD 14 (.fslice 1 1 [(vI 0)] [(0, (.s 13))])), (oD 15 (.append 1 8 [(vI 0)] (.s 12) (.s 14))), (oD 3 (mS 15))]))) (.ops [(oD 16 (.bin .add (.s 9) (kI 1))), (oD 9 (mS 16))])))))
def c60 : RCode := (.seq (.ops [(oD 1 (.box (.s 0))), (oD 2 (.mv (.c .nilslice)))]) (.seq (.ops [(oD 3 (.mv (.c .nilslice)))]) (.seq (.seq (.ops [(oD 6 (.faddr 0 (.s 1))), (oD 7 (.load 1 false (.s 6))), (oD 8 (.len .sl (.s 7))), (oD 9 (.mv (kI 0)))]) (.block 0 (.loop [1, 3, 8, 9] c60l0))) (.frz [999999999, 1, 3] (.seq (.ops [(oD 17 (mS 3)), (oD 18 (.faddr 1 (.s 1))), (oD 19 (.load 1 false (.s 18))), (iD 20 (.call 94 [(.s 19), (.c (.fn 95 [] []))])), (iD 21 (.call 93 [(.s 17), (.s 20)])), (oD 5 (.alloc [.nilmap])), (oN (.store 1 (.s 5) (.s 21)))]) (.seq (.ops [(oD 22 (mS 3)), (oD 23 (.fn 97 [] [(.s 5)])), (iD 24 (.call 96 [(.s 22), (.s 23)])), (oD 2 (mS 24))]) .ret))))))
def f60 : Fn := ⟨25, [(.t 2)], c60⟩
/- (codend/trawl.Trawl).twosided -/
def c61 : RCode := (.seq (.ops [(oD 2 (.box (.s 0))), (oD 3 (.box (.s 1))), (oD 4 (.mv (.c (.bool false))))]) (.seq (.ops [(oD 8 (.load 2 true (.s 2))), (iD 9 (.call 60 [(.s 8)])), (oD 5 (.alloc [.nilslice])), (oN (.store 1 (.s 5) (.s 9)))]) (.seq (.ops [(oD 11 (.load 2 true (.s 2))), (iD 12 (.call 64 [(.s 11)])), (oD 10 (mS 12)), (oD 13 (.extract 0 (.s 10))), (oD 14 (.extract 1 (.s 10))), (oD 6 (.alloc [.nilslice, .nilslice])), (oN (.store 2 (.s 6) (.s 13))), (oD 7 (mS 14))]) (.frz [999999999, 2, 3, 5, 6] (.seq (.ops [(oD 15 (.faddr 1 (.s 2))), (oD 16 (.load 1 false (.s 15))), (oD 17 (.fn 99 [] [(.s 5), (.s 3), (.s 6)])), (iD 18 (.call 98 [(.s 16), (.s 17)])), (oD 19 (.un .not (.s 18))), (oD 4 (mS 19))]) .ret)))))
def f61 : Fn := ⟨20, [(.t 4)], c61⟩
/- (codend/trawl.Trawl).meshes -/
def c62l0 : RCode := (.seq (.ops [(oD 11 (.bin .lss (.s 10) (.s 9)))]) (.seq (.cond (.s 11) .skip (.exit 0)) (.frz [999999999, 2, 5, 8, 9, 10] (.seq (.block 1 (.seq (.ops [(oD 12 (.iaddr 2 none (.s 8) (.s 10))), (oD 13 (.load 2 true (.s 12))), (oD 7 (.alloc [(vI 0), (vI 0)])), (oN (.store 2 (.s 7) (.s 13)))]) (.ops [(oD 14 (mS 5)), (oD 15 (.load 2 true (.s 2))), (oD 16 (.load 2 true (.s 7))), (iD 17 (.call 88 [(.s 15), (.s 16)])), (oD 18 (.field 0 1 false (.s 17))), (oD 19 (.bin .add (.s 14) (.s 18))), (oD 5 (mS 19))]))) (.ops [(oD 20 (.bin .add (.s 10) (kI 1))), (oD 10 (mS 20))])))))
def c62 : RCode := (.seq (.ops [(oD 2 (.box (.s 0))), (oD 4 (.mv (kI 0)))]) (.seq (.ops [(oD 5 (.mv (kI 0)))]) (.seq (.seq (.ops [(oD 8 (mS 1)), (oD 9 (.len .sl (.s 8))), (oD 10 (.mv (kI 0)))]) (.block 0 (.loop [2, 5, 8, 9, 10] c62l0))) (.frz [999999999, 5] (.seq (.ops [(oD 21 (mS 5)), (oD 4 (mS 21))]) .ret)))))
def f62 : Fn := ⟨22, [(.t 4)], c62⟩
/- codend/trawl.when -/
def c63 : RCode := (.seq (.ops [(oD 4 (.mv (kI 0)))]) (.seq (.seq (.ops [(oD 5 (mS 0))]) (.cond (.s 5) (.seq (.ops [(oD 6 (mS 1)), (oD 4 (mS 6))]) .ret) .skip)) (.frz [999999999] (.seq (.ops [(oD 4 (.mv (kI 0)))]) .ret))))
def f63 : Fn := ⟨7, [(.t 4)], c63⟩
/- (codend/trawl.Trawl).signed -/
def c64l0 : RCode := (.seq (.ops [(oD 62 (.bin .lss (.s 61) (.s 60)))]) (.seq (.cond (.s 62) .skip (.exit 4)) (.frz [999999999, 1, 2, 4, 5, 6, 7, 8, 30, 31, 59, 60, 61] (.seq (.block 5 (.seq (.ops [(oD 63 (mS 61)), (oD 64 (.iaddr 5 none (.s 59) (.s 61))), (oD 65 (.load 5 true (.s 64))), (oD 10 (.alloc [(vI 0), (vI 0), (vI 0), (vI 0), (.bool false)])), (oD 9 (mS 63)), (oN (.store 5 (.s 10) (.s 65)))]) (.seq (.ops [(oD 66 (.faddr 2 (.s 10))), (oD 67 (.faddr 0 (.s 66))), (oD 68 (.load 1 false (.s 67))), (oD 11 (mS 68))]) (.seq (.seq (.ops [(oD 69 (.faddr 2 (.s 10))), (oD 70 (.faddr 0 (.s 69))), (oD 71 (.load 1 false (.s 70))), (oD 72 (mS 8)), (oD 73 (.bin .eql (.s 71) (.s 72)))]) (.cond (.s 73) (.ops [(oD 74 (.faddr 0 (.s 10))), (oD 75 (.faddr 0 (.s 74))), (oD 76 (.load 1 false (.s 75))), (oD 11 (mS 76))]) .skip)) (.frz [999999999, 1, 2, 4, 5, 6, 7, 8, 9, 10, 11, 30, 31, 59, 60, 61] (.seq (.seq (.ops [(oD 77 (.faddr 0 (.s 10))), (oD 78 (.faddr 0 (.s 77))), (oD 79 (.load 1 false (.s 78))), (oD 80 (mS 8)), (oD 81 (.bin .neq (.s 79) (.s 80))), (oD 82 (mS 81)), (oDg 83 (.faddr 2 (.s 10)) 82 true), (oDg 84 (.faddr 0 (.s 83)) 82 true), (oDg 85 (.load 1 false (.s 84)) 82 true), (oDg 86 (mS 8) 82 true), (oDg 87 (.bin .neq (.s 85) (.s 86)) 82 true), (oD 88 (.pick (.s 82) (.s 87) (.c (.bool false)))), (oD 89 (mS 88)), (oDg 90 (.faddr 0 (.s 4)) 89 false), (oDg 91 (.load 1 false (.s 90)) 89 false), (oDg 92 (mS 11) 89 false), (oDg 93 (.iaddr 1 none (.s 91) (.s 92)) 89 false), (oDg 94 (.load 1 false (.s 93)) 89 false), (oDg 95 (.bin .neq (.s 94) (kI 0)) 89 false), (oD 96 (.pick (.s 89) (.c (.bool true)) (.s 95)))]) (.frz [999999999, 1, 2, 4, 5, 6, 7, 8, 9, 10, 11, 30, 31, 59, 60, 61, 96] (.cond (.s 96) (.exit 5) .skip))) (.frz [999999999, 1, 2, 4, 5, 6, 7, 8, 9, 10, 11, 30, 31, 59, 60, 61] (.seq (.draw [0, 1, 0, 0, 0, 0, 32, 0, 224, 480, 0, 999, 3047, 8191, 16383] [(oD 97 (.faddr 0 (.s 4))), (oD 98 (.load 1 false (.s 97))), (oD 99 (mS 11)), (oD 100 (mS 5)), (oD 101 (mS 11)), (oD 102 (.faddr 0 (.s 4))), (oD 103 (.load 1 false (.s 102))), (oD 104 (mS 8)), (oD 105 (.iaddr 1 none (.s 103) (.s 104))), (oD 106 (.load 1 false (.s 105))), (oD 107 (mS 6)), (oD 108 (.iaddr 1 none (.s 98) (.s 99))), (oN (.store 1 (.s 108) (.s 106))), (oD 109 (.iaddr 1 none (.s 100) (.s 101))), (oN (.store 1 (.s 109) (.s 107)))]) (.frz [999999999, 1, 2, 4, 5, 6, 7, 8, 9, 10, 11, 30, 31, 59, 60, 61] (.seq (.seq (.ops [(oD 110 (.faddr 4 (.s 10))), (oD 111 (.load 1 false (.s 110)))]) (.cond (.s 111) (.draw [0, 1, 0, 0, 8, 0, 56, 120, 248, 511, 1023] [(oD 112 (.faddr 0 (.s 4))), (oD 113 (.load 1 false (.s 112))), (oD 114 (mS 11)), (oD 115 (.faddr 0 (.s 4))), (oD 116 (.load 1 false (.s 115))), (oD 117 (mS 8)), (oD 118 (.iaddr 1 none (.s 116) (.s 117))), (oD 119 (.load 1 false (.s 118))), (oD 120 (.un .neg (.s 119))), (oD 121 (.iaddr 1 none (.s 113) (.s 114))), (oN (.store 1 (.s 121) (.s 120)))]) .skip)) (.frz [999999999, 1, 2, 4, 5, 6, 7, 8, 9, 11, 30, 31, 59, 60, 61] (.seq (.frz [9] (.draw [0, 1, 0, 0, 8, 0, 56, 120, 248, 0, 512, 2040, 4095, 8191] [(oD 122 (.faddr 1 (.s 4))), (oD 123 (.load 1 false (.s 122))), (oD 124 (mS 11)), (oD 125 (.faddr 1 (.s 4))), (oD 126 (.load 1 false (.s 125))), (oD 127 (mS 8)), (oD 128 (.iaddr 1 none (.s 126) (.s 127))), (oD 129 (.load 1 false (.s 128))), (iD 130 (.call 100 [(.s 129)])), (oD 131 (mS 9)), (oD 132 (.fslice 1 1 [(vI 0)] [(0, (.s 131))])), (oD 133 (.append 1 8 [(vI 0)] (.s 130) (.s 132))), (oD 134 (.iaddr 1 none (.s 123) (.s 124))), (oN (.store 1 (.s 134) (.s 133)))])) (.frz [999999999, 1, 2, 4, 5, 6, 7, 8, 11, 30, 31, 59, 60, 61] (.ops [(oD 135 (mS 7)), (oD 136 (mS 11)), (oD 137 (.fslice 1 1 [(vI 0)] [(0, (.s 136))])), (oD 138 (.append 1 8 [(vI 0)] (.s 135) (.s 137))), (oD 7 (mS 138))])))))))))))))) (.frz [999999999, 1, 2, 4, 5, 6, 7, 8, 30, 31, 59, 60, 61] (.ops [(oD 139 (.bin .add (.s 61) (kI 1))), (oD 61 (mS 139))]))))))
def c64l1 : RCode := (.seq (.seq (.ops [(oD 50 (mS 7)), (oD 51 (.len .sl (.s 50))), (oD 52 (.bin .gtr (.s 51) (kI 0)))]) (.cond (.s 52) .skip (.exit 2))) (.frz [999999999, 1, 2, 4, 5, 6, 7, 30, 31] (.block 3 (.seq (.ops [(oD 53 (mS 7)), (oD 54 (.iaddr 1 none (.s 53) (kI 0))), (oD 55 (.load 1 false (.s 54))), (oD 8 (mS 55))]) (.seq (.ops [(oD 56 (mS 7)), (oD 57 (.slc 1 (.s 56) (some (kI 1)) none)), (oD 7 (mS 57))]) (.seq (.ops [(oD 58 (.faddr 1 (.s 1))), (oD 59 (.load 1 false (.s 58))), (oD 60 (.len .sl (.s 59))), (oD 61 (.mv (kI 0)))]) (.block 4 (.loop [1, 2, 4, 5, 6, 7, 8, 30, 31, 59, 60, 61] c64l0))))))))
def c64l2 : RCode := (.seq (.ops [(oD 32 (.bin .lss (.s 31) (.s 30)))]) (.seq (.cond (.s 32) .skip (.exit 0)) (.frz [999999999, 1, 2, 4, 5, 30, 31] (.seq (.block 1 (.seq (.ops [(oD 33 (mS 31)), (oD 6 (mS 33))]) (.seq (.seq (.ops [(oD 34 (.faddr 0 (.s 4))), (oD 35 (.load 1 false (.s 34))), (oD 36 (mS 6)), (oD 37 (.iaddr 1 none (.s 35) (.s 36))), (oD 38 (.load 1 false (.s 37))), (oD 39 (.bin .neq (.s 38) (kI 0)))]) (.cond (.s 39) (.exit 1) .skip)) (.frz [999999999, 1, 2, 4, 5, 6, 30, 31] (.seq (.ops [(oD 40 (.faddr 0 (.s 4))), (oD 41 (.load 1 false (.s 40))), (oD 42 (mS 6)), (oD 43 (mS 5)), (oD 44 (mS 6)), (oD 45 (mS 6)), (oD 46 (.iaddr 1 none (.s 41) (.s 42))), (oN (.store 1 (.s 46) (kI 1))), (oD 47 (.iaddr 1 none (.s 43) (.s 44))), (oN (.store 1 (.s 47) (.s 45)))]) (.frz [999999999, 1, 2, 4, 5, 6, 30, 31] (.seq (.ops [(oD 48 (mS 6)), (oD 49 (.bslice 1 1 [(vI 0)] [(0, (.s 48))])), (oD 7 (mS 49))]) (.block 2 (.loop [1, 2, 4, 5, 6, 7, 30, 31] c64l1))))))))) (.frz [999999999, 1, 2, 4, 5, 30, 31] (.ops [(oD 140 (.bin .add (.s 31) (kI 1))), (oD 31 (mS 140))]))))))
def c64l3 : RCode := (.seq (.ops [(oD 145 (.bin .lss (.s 144) (.s 143)))]) (.seq (.cond (.s 145) .skip (.exit 6)) (.frz [999999999, 2, 4, 5, 142, 143, 144] (.seq (.block 7 (.seq (.ops [(oD 146 (mS 144)), (oD 147 (.iaddr 5 none (.s 142) (.s 144))), (oD 148 (.load 5 true (.s 147))), (oD 13 (.alloc [(vI 0), (vI 0), (vI 0), (vI 0), (.bool false)])), (oD 12 (mS 146)), (oN (.store 5 (.s 13) (.s 148)))]) (.seq (.seq (.draw [0, 1, 0, 4, 12, 31, 63, 0, 128, 0, 512, 1536, 3968, 8064, 16383, 0, 32768, 131071] [(oD 149 (.faddr 0 (.s 4))), (oD 150 (.load 1 false (.s 149))), (oD 151 (.faddr 0 (.s 13))), (oD 152 (.faddr 0 (.s 151))), (oD 153 (.load 1 false (.s 152))), (oD 154 (.iaddr 1 none (.s 150) (.s 153))), (oD 155 (.load 1 false (.s 154))), (oD 156 (.faddr 0 (.s 4))), (oD 157 (.load 1 false (.s 156))), (oD 158 (.faddr 2 (.s 13))), (oD 159 (.faddr 0 (.s 158))), (oD 160 (.load 1 false (.s 159))), (oD 161 (.iaddr 1 none (.s 157) (.s 160))), (oD 162 (.load 1 false (.s 161))), (oD 163 (.bin .neq (.s 155) (.s 162))), (oD 164 (.faddr 4 (.s 13))), (oD 165 (.load 1 false (.s 164))), (oD 166 (.eq .b false (.s 163) (.s 165)))]) (.frz [999999999, 2, 4, 5, 12, 13, 142, 143, 144, 166] (.cond (.s 166) (.exit 7) .skip))) (.frz [999999999, 2, 4, 5, 12, 13] (.seq (.ops [(oD 167 (.faddr 1 (.s 4))), (oD 168 (.load 1 false (.s 167))), (oD 169 (.faddr 2 (.s 13))), (oD 170 (.faddr 0 (.s 169))), (oD 171 (.load 1 false (.s 170))), (oD 172 (.iaddr 1 none (.s 168) (.s 171))), (oD 173 (.load 1 false (.s 172))), (iD 174 (.call 100 [(.s 173)])), (oD 14 (mS 174))]) (.frz [999999999, 2, 4, 5, 12, 13, 14] (.seq (.ops [(oD 175 (mS 14)), (iD 176 (.calli 101 [(.s 175)] [0]))]) (.seq (.frz [12, 14] (.draw [0, 0, 0, 4, 12, 30, 62, 0, 128, 0, 512, 1536, 3968, 8064, 0, 16384, 0, 130944, 262016, 524286, 1048574, 524161, 4194303] [(oD 177 (.load 2 true (.s 4))), (oD 178 (mS 5)), (oD 179 (.faddr 0 (.s 13))), (oD 180 (.faddr 0 (.s 179))), (oD 181 (.load 1 false (.s 180))), (oD 182 (.iaddr 1 none (.s 178) (.s 181))), (oD 183 (.load 1 false (.s 182))), (oD 184 (.faddr 1 (.s 4))), (oD 185 (.load 1 false (.s 184))), (oD 186 (.faddr 0 (.s 13))), (oD 187 (.faddr 0 (.s 186))), (oD 188 (.load 1 false (.s 187))), (oD 189 (.iaddr 1 none (.s 185) (.s 188))), (oD 190 (.load 1 false (.s 189))), (oD 191 (mS 12)), (oD 192 (.fslice 1 1 [(vI 0)] [(0, (.s 191))])), (oD 193 (mS 14)), (oD 194 (.fslice 1 3 [.nilslice] [(0, (.s 190)), (1, (.s 192)), (2, (.s 193))])), (iD 195 (.call 102 [(.s 194)])), (oD 196 (.build [(vI 0), .nilslice] [(0, (1, (.s 183))), (1, (1, (.s 195)))])), (oD 197 (.box (.s 196))), (oN (.store 2 (.s 2) (.s 177))), (oD 3 (mS 197))])) .ret)))))))) (.frz [999999999, 2, 4, 5, 142, 143, 144] (.ops [(oD 198 (.bin .add (.s 144) (kI 1))), (oD 144 (mS 198))]))))))
def c64 : RCode := (.seq (.ops [(oD 1 (.box (.s 0))), (oD 2 (.alloc [.nilslice, .nilslice])), (oD 3 (.mv (.c .nilptr)))]) (.seq (.draw [0, 1, 3, 7, 0, 16, 48, 112, 255, 0, 1023] [(oD 15 (.faddr 0 (.s 1))), (oD 16 (.load 1 false (.s 15))), (oD 17 (.len .sl (.s 16))), (oD 18 (.mkslice 1 8 [(vI 0)] (.s 17) (.s 17))), (oD 19 (.faddr 0 (.s 1))), (oD 20 (.load 1 false (.s 19))), (oD 21 (.len .sl (.s 20))), (oD 22 (.mkslice 1 24 [.nilslice] (.s 21) (.s 21))), (oD 23 (.build [.nilslice, .nilslice] [(0, (1, (.s 18))), (1, (1, (.s 22)))])), (oD 4 (.alloc [.nilslice, .nilslice])), (oN (.store 2 (.s 4) (.s 23)))]) (.frz [999999999, 1, 2, 4] (.seq (.ops [(oD 24 (.faddr 0 (.s 1))), (oD 25 (.load 1 false (.s 24))), (oD 26 (.len .sl (.s 25))), (oD 27 (.mkslice 1 8 [(vI 0)] (.s 26) (.s 26))), (oD 5 (mS 27))]) (.seq (.seq (.ops [(oD 28 (.faddr 0 (.s 1))), (oD 29 (.load 1 false (.s 28))), (oD 30 (.len .sl (.s 29))), (oD 31 (.mv (kI 0)))]) (.block 0 (.loop [1, 2, 4, 5, 30, 31] c64l2))) (.frz [999999999, 1, 2, 4, 5] (.seq (.seq (.ops [(oD 141 (.faddr 1 (.s 1))), (oD 142 (.load 1 false (.s 141))), (oD 143 (.len .sl (.s 142))), (oD 144 (.mv (kI 0)))]) (.block 6 (.loop [2, 4, 5, 142, 143, 144] c64l3))) (.frz [999999999, 2, 4] (.seq (.ops [(oD 199 (.load 2 true (.s 4))), (oN (.store 2 (.s 2) (.s 199))), (oD 3 (.mv (.c .nilptr)))]) .ret)))))))))
def f64 : Fn := ⟨200, [(.cell 2 2 true), (.t 3)], c64⟩
/- slices.ContainsFunc[[]int,int] -/
def c65 : RCode := (.seq (.ops [(oD 4 (.mv (.c (.bool false))))]) (.seq (.ops [(oD 5 (mS 0)), (oD 6 (mS 1)), (iD 7 (.call 103 [(.s 5), (.s 6)])), (oD 8 (.bin .geq (.s 7) (kI 0))), (oD 4 (mS 8))]) .ret))
def f65 : Fn := ⟨9, [(.t 4)], c65⟩
/- codend/trawl.CheckTwist$1 -/
def c66 : RCode := (.seq (.ops [(oD 3 (.mv (.c (.bool false))))]) (.seq (.ops [(oD 4 (mS 0)), (oD 5 (.bin .lss (.s 4) (kI 0))), (oD 6 (mS 5)), (oDg 7 (mS 0) 6 false), (oDg 8 (.faddr 1 (.s 1)) 6 false), (oDg 9 (.load 1 false (.s 8)) 6 false), (oDg 10 (.len .sl (.s 9)) 6 false), (oDg 11 (.bin .geq (.s 7) (.s 10)) 6 false), (oD 12 (.pick (.s 6) (.c (.bool true)) (.s 11))), (oD 3 (mS 12))]) .ret))
def f66 : Fn := ⟨13, [(.t 3)], c66⟩
/- (codend/trawl.Seam).through -/
def c67 : RCode := (.seq (.ops [(oD 2 (.box (.s 0))), (oD 4 (.mv (kI 0))), (oD 5 (.mv (.c (.bool false))))]) (.seq (.seq (.ops [(oD 6 (mS 1))]) (.block 0 (.seq (.ops [(oD 8 (.faddr 0 (.s 2))), (oD 9 (.faddr 0 (.s 8))), (oD 10 (.load 1 false (.s 9))), (oD 11 (.bin .eql (.s 6) (.s 10))), (oD 7 (mS 11))]) (.cond (.s 7) (.seq (.ops [(oD 12 (.faddr 2 (.s 2))), (oD 13 (.faddr 0 (.s 12))), (oD 14 (.load 1 false (.s 13))), (oD 4 (mS 14)), (oD 5 (.mv (.c (.bool true))))]) .ret) (.seq (.ops [(oD 16 (.faddr 2 (.s 2))), (oD 17 (.faddr 0 (.s 16))), (oD 18 (.load 1 false (.s 17))), (oD 19 (.bin .eql (.s 6) (.s 18))), (oD 15 (mS 19))]) (.cond (.s 15) (.seq (.ops [(oD 20 (.faddr 0 (.s 2))), (oD 21 (.faddr 0 (.s 20))), (oD 22 (.load 1 false (.s 21))), (oD 4 (mS 22)), (oD 5 (.mv (.c (.bool true))))]) .ret) .skip)))))) (.frz [999999999] (.seq (.ops [(oD 4 (.mv (kI 0))), (oD 5 (.mv (.c (.bool false))))]) .ret))))
def f67 : Fn := ⟨23, [(.t 4), (.t 5)], c67⟩
/- (codend/trawl.Trawl).has -/
def c71 : RCode := (.seq (.ops [(oD 2 (.box (.s 0))), (oD 3 (.box (.s 1))), (oD 4 (.mv (.c (.bool false))))]) (.seq (.draw [0, 1, 3, 7, 15, 31, 15, 79, 207, 511, 1023, 2047, 4095, 8191, 16383, 32767, 65535, 131071, 262143, 131071, 655359, 131071, 2228223, 7995391, 16383999, 33161215, 66715647, 134217727, 268435455, 536870911] [(oD 5 (.faddr 0 (.s 3))), (oD 6 (.load 1 false (.s 5))), (oD 7 (.bin .geq (.s 6) (kI 0))), (oD 8 (mS 7)), (oDg 9 (.faddr 0 (.s 3)) 8 true), (oDg 10 (.load 1 false (.s 9)) 8 true), (oDg 11 (.faddr 0 (.s 2)) 8 true), (oDg 12 (.load 1 false (.s 11)) 8 true), (oDg 13 (.len .sl (.s 12)) 8 true), (oDg 14 (.bin .lss (.s 10) (.s 13)) 8 true), (oD 15 (.pick (.s 8) (.s 14) (.c (.bool false)))), (oD 16 (mS 15)), (oDg 17 (.faddr 1 (.s 3)) 16 true), (oDg 18 (.load 1 false (.s 17)) 16 true), (oDg 19 (.bin .geq (.s 18) (kI 0)) 16 true), (oD 20 (.pick (.s 16) (.s 19) (.c (.bool false)))), (oD 21 (mS 20)), (oDg 22 (.faddr 1 (.s 3)) 21 true), (oDg 23 (.load 1 false (.s 22)) 21 true), (oDg 24 (.faddr 0 (.s 2)) 21 true), (oDg 25 (.load 1 false (.s 24)) 21 true), (oDg 26 (.faddr 0 (.s 3)) 21 true), (oDg 27 (.load 1 false (.s 26)) 21 true), (oDg 28 (.iaddr 2 none (.s 25) (.s 27)) 21 true), (oDg 29 (.faddr 1 (.s 28)) 21 true), (oDg 30 (.load 1 false (.s 29)) 21 true), (oDg 31 (.len .sl (.s 30)) 21 true), (oDg 32 (.bin .lss (.s 23) (.s 31)) 21 true), (oD 33 (.pick (.s 21) (.s 32) (.c (.bool false)))), (oD 4 (mS 33))]) .ret))
def f71 : Fn := ⟨34, [(.t 4)], c71⟩
/- (codend/trawl.Trawl).mate -/
def c72l0 : RCode := (.seq (.ops [(oD 13 (.bin .lss (.s 12) (.s 11)))]) (.seq (.cond (.s 13) .skip (.exit 0)) (.frz [999999999, 3, 4, 10, 11, 12] (.seq (.block 1 (.seq (.ops [(oD 14 (mS 12)), (oD 15 (.iaddr 5 none (.s 10) (.s 12))), (oD 16 (.load 5 true (.s 15))), (oD 8 (.alloc [(vI 0), (vI 0), (vI 0), (vI 0), (.bool false)])), (oD 7 (mS 14)), (oN (.store 5 (.s 8) (.s 16)))]) (.seq (.ops [(oD 17 (.load 2 true (.s 3)))]) (.block 2 (.seq (.ops [(oD 19 (.faddr 0 (.s 8))), (oD 20 (.load 2 true (.s 19))), (oD 21 (.eq (.agg [.i, .i]) false (.s 17) (.s 20))), (oD 18 (mS 21))]) (.cond (.s 18) (.seq (.ops [(oD 22 (.faddr 2 (.s 8))), (oD 23 (.load 2 true (.s 22))), (oD 24 (mS 7)), (oN (.store 2 (.s 4) (.s 23))), (oD 5 (mS 24)), (oD 6 (.mv (.c (.bool true))))]) .ret) (.seq (.ops [(oD 26 (.faddr 2 (.s 8))), (oD 27 (.load 2 true (.s 26))), (oD 28 (.eq (.agg [.i, .i]) false (.s 17) (.s 27))), (oD 25 (mS 28))]) (.cond (.s 25) (.seq (.ops [(oD 29 (.faddr 0 (.s 8))), (oD 30 (.load 2 true (.s 29))), (oD 31 (mS 7)), (oN (.store 2 (.s 4) (.s 30))), (oD 5 (mS 31)), (oD 6 (.mv (.c (.bool true))))]) .ret) .skip)))))))) (.frz [999999999, 3, 4, 10, 11, 12] (.ops [(oD 32 (.bin .add (.s 12) (kI 1))), (oD 12 (mS 32))]))))))
def c72 : RCode := (.seq (.ops [(oD 2 (.box (.s 0))), (oD 3 (.box (.s 1))), (oD 4 (.alloc [(vI 0), (vI 0)])), (oD 5 (.mv (kI 0))), (oD 6 (.mv (.c (.bool false))))]) (.seq (.seq (.ops [(oD 9 (.faddr 1 (.s 2))), (oD 10 (.load 1 false (.s 9))), (oD 11 (.len .sl (.s 10))), (oD 12 (.mv (kI 0)))]) (.block 0 (.loop [3, 4, 10, 11, 12] c72l0))) (.frz [999999999, 4] (.seq (.ops [(oD 33 (.build [(vI 0), (vI 0)] [])), (oN (.store 2 (.s 4) (.s 33))), (oD 5 (.mv (kI 0))), (oD 6 (.mv (.c (.bool false))))]) .ret))))
def f72 : Fn := ⟨34, [(.cell 4 2 true), (.t 5), (.t 6)], c72⟩
/- codend/trawl.checkPanels -/
def c73l0 : RCode := (.seq (.ops [(oD 49 (.bin .lss (.s 48) (.s 47)))]) (.seq (.cond (.s 49) .skip (.exit 2)) (.frz [999999999, 0, 10, 11, 12, 46, 47, 48] (.seq (.block 3 (.seq (.ops [(oD 50 (.iaddr 2 none (.s 46) (.s 48))), (oD 51 (.load 2 true (.s 50))), (oD 8 (.alloc [(vI 0), (vI 0)])), (oN (.store 2 (.s 8) (.s 51)))]) (.seq (.draw [0, 1, 3, 0, 8, 31, 63, 127, 255] [(oD 52 (.faddr 0 (.s 8))), (oD 53 (.load 1 false (.s 52))), (iD 54 (.call 52 [(.s 53), (kI 1), (kI 10000)])), (oD 55 (.faddr 1 (.s 8))), (oD 56 (.load 1 false (.s 55))), (iD 57 (.call 52 [(.s 56), (kI (-100000)), (kI 100000)])), (oD 58 (.fslice 1 2 [(vI 0)] [(0, (.s 54)), (1, (.s 57))])), (iD 59 (.call 51 [(.s 58)])), (oD 9 (mS 59))]) (.frz [999999999, 0, 9, 10, 11, 12, 46, 47, 48] (.seq (.ops [(oD 60 (mS 9)), (oD 61 (.bin .neq (.s 60) (kI 0)))]) (.cond (.s 61) (.seq (.ops [(oD 62 (mS 9)), (oD 2 (mS 62))]) .ret) .skip)))))) (.frz [999999999, 0, 10, 11, 12, 46, 47, 48] (.ops [(oD 63 (.bin .add (.s 48) (kI 1))), (oD 48 (mS 63))]))))))
def c73l1 : RCode := (.seq (.ops [(oD 13 (.bin .lss (.s 12) (.s 11)))]) (.seq (.cond (.s 13) .skip (.exit 0)) (.frz [999999999, 0, 10, 11, 12] (.seq (.block 1 (.seq (.ops [(oD 14 (mS 12)), (oD 15 (.iaddr 2 none (.s 10) (.s 12))), (oD 16 (.load 2 true (.s 15))), (oD 4 (.alloc [(.str (bs [])), .nilslice])), (oD 3 (mS 14)), (oN (.store 2 (.s 4) (.s 16)))]) (.seq (.ops [(oD 17 (mS 0)), (oD 18 (mS 3)), (oD 19 (.slc 2 (.s 17) none (some (.s 18)))), (oD 20 (.fn 107 [] [(.s 4)])), (iD 21 (.call 106 [(.s 19), (.s 20)])), (oD 5 (mS 21))]) (.seq (.seq (.frz [5] (.draw [0, 1, 3, 7, 15, 0, 63, 0, 128, 384, 896, 2047, 4095, 8191, 16383, 32767, 65535, 131071, 262143, 524287, 1048575] [(oD 22 (.faddr 0 (.s 4))), (oD 23 (.load 1 false (.s 22))), (iD 24 (.call 89 [(.s 23)])), (oD 25 (.un .not (.s 24))), (iD 26 (.call 63 [(.s 25), (kI 8)])), (oD 27 (mS 5)), (iD 28 (.call 63 [(.s 27), (kI 9)])), (oD 29 (.faddr 1 (.s 4))), (oD 30 (.load 1 false (.s 29))), (oD 31 (.len .sl (.s 30))), (oD 32 (.bin .lss (.s 31) (kI 3))), (oD 33 (mS 32)), (oDg 34 (.faddr 1 (.s 4)) 33 false), (oDg 35 (.load 1 false (.s 34)) 33 false), (oDg 36 (.len .sl (.s 35)) 33 false), (oDg 37 (.bin .gtr (.s 36) (kI 8)) 33 false), (oD 38 (.pick (.s 33) (.c (.bool true)) (.s 37))), (iD 39 (.call 63 [(.s 38), (kI 2)])), (oD 40 (.fslice 1 3 [(vI 0)] [(0, (.s 26)), (1, (.s 28)), (2, (.s 39))])), (iD 41 (.call 51 [(.s 40)])), (oD 6 (mS 41))])) (.frz [999999999, 0, 4, 6, 10, 11, 12] (.seq (.ops [(oD 42 (mS 6)), (oD 43 (.bin .neq (.s 42) (kI 0)))]) (.cond (.s 43) (.seq (.ops [(oD 44 (mS 6)), (oD 2 (mS 44))]) .ret) .skip)))) (.frz [999999999, 0, 4, 10, 11, 12] (.seq (.ops [(oD 45 (.faddr 1 (.s 4))), (oD 46 (.load 1 false (.s 45))), (oD 47 (.len .sl (.s 46))), (oD 48 (.mv (kI 0)))]) (.block 2 (.loop [0, 10, 11, 12, 46, 47, 48] c73l0)))))))) (.frz [999999999, 0, 10, 11, 12] (.ops [(oD 64 (.bin .add (.s 12) (kI 1))), (oD 12 (mS 64))]))))))
def c73 : RCode := (.seq (.ops [(oD 2 (.mv (kI 0)))]) (.seq (.seq (.ops [(oD 10 (mS 0)), (oD 11 (.len .sl (.s 10))), (oD 12 (.mv (kI 0)))]) (.block 0 (.loop [0, 10, 11, 12] c73l1))) (.frz [999999999] (.seq (.ops [(oD 2 (.mv (kI 0)))]) .ret))))
def f73 : Fn := ⟨65, [(.t 2)], c73⟩
/- (codend/trawl.Trawl).checkSeam -/
def c74l0 : RCode := (.seq (.ops [(oD 26 (.bin .lss (.s 25) (.s 24)))]) (.seq (.cond (.s 26) .skip (.exit 0)) (.frz [999999999, 3, 4, 23, 24, 25] (.seq (.block 1 (.seq (.ops [(oD 27 (.iaddr 5 none (.s 23) (.s 25))), (oD 28 (.load 5 true (.s 27))), (oD 8 (.alloc [(vI 0), (vI 0), (vI 0), (vI 0), (.bool false)])), (oN (.store 5 (.s 8) (.s 28)))]) (.seq (.ops [(oD 29 (.faddr 0 (.s 4))), (oD 30 (.load 2 true (.s 29))), (oD 31 (.faddr 0 (.s 8))), (oD 32 (.load 2 true (.s 31))), (oD 33 (.eq (.agg [.i, .i]) false (.s 30) (.s 32))), (oD 34 (mS 33)), (oDg 35 (.faddr 0 (.s 4)) 34 false), (oDg 36 (.load 2 true (.s 35)) 34 false), (oDg 37 (.faddr 2 (.s 8)) 34 false), (oDg 38 (.load 2 true (.s 37)) 34 false), (oDg 39 (.eq (.agg [.i, .i]) false (.s 36) (.s 38)) 34 false), (oD 40 (.pick (.s 34) (.c (.bool true)) (.s 39))), (oD 41 (mS 40)), (oDg 42 (.faddr 2 (.s 4)) 41 false), (oDg 43 (.load 2 true (.s 42)) 41 false), (oDg 44 (.faddr 0 (.s 8)) 41 false), (oDg 45 (.load 2 true (.s 44)) 41 false), (oDg 46 (.eq (.agg [.i, .i]) false (.s 43) (.s 45)) 41 false), (oD 47 (.pick (.s 41) (.c (.bool true)) (.s 46))), (oD 48 (mS 47)), (oDg 49 (.faddr 2 (.s 4)) 48 false), (oDg 50 (.load 2 true (.s 49)) 48 false), (oDg 51 (.faddr 2 (.s 8)) 48 false), (oDg 52 (.load 2 true (.s 51)) 48 false), (oDg 53 (.eq (.agg [.i, .i]) false (.s 50) (.s 52)) 48 false), (oD 54 (.pick (.s 48) (.c (.bool true)) (.s 53)))]) (.frz [999999999, 3, 4, 23, 24, 25, 54] (.cond (.s 54) (.seq (.ops [(oD 6 (.mv (kI 9)))]) .ret) .skip))))) (.frz [999999999, 3, 4, 23, 24, 25] (.ops [(oD 55 (.bin .add (.s 25) (kI 1))), (oD 25 (mS 55))]))))))
def c74 : RCode := (.seq (.ops [(oD 3 (.box (.s 0))), (oD 4 (.box (.s 1))), (oD 6 (.mv (kI 0)))]) (.seq (.seq (.ops [(oD 11 (.load 2 true (.s 3))), (oD 12 (.faddr 0 (.s 4))), (oD 13 (.load 2 true (.s 12))), (iD 14 (.call 71 [(.s 11), (.s 13)])), (oD 15 (.un .not (.s 14))), (oD 16 (mS 15)), (oDg 17 (.load 2 true (.s 3)) 16 false), (oDg 18 (.faddr 2 (.s 4)) 16 false), (oDg 19 (.load 2 true (.s 18)) 16 false), (iDg 20 (.call 71 [(.s 17), (.s 19)]) 16 false), (oDg 21 (.un .not (.s 20)) 16 false), (oD 22 (.pick (.s 16) (.c (.bool true)) (.s 21)))]) (.frz [999999999, 2, 3, 4, 22] (.cond (.s 22) (.seq (.ops [(oD 6 (.mv (kI 10)))]) .ret) .skip))) (.frz [999999999, 2, 3, 4] (.seq (.seq (.ops [(oD 23 (mS 2)), (oD 24 (.len .sl (.s 23))), (oD 25 (.mv (kI 0)))]) (.block 0 (.loop [3, 4, 23, 24, 25] c74l0))) (.frz [999999999, 3, 4] (.seq (.draw [0, 0, 2, 7, 15, 0, 0, 64, 239, 495, 511, 2047] [(oD 56 (.load 2 true (.s 3))), (oD 57 (.faddr 0 (.s 4))), (oD 58 (.load 2 true (.s 57))), (iD 59 (.call 88 [(.s 56), (.s 58)])), (oD 60 (.field 0 1 false (.s 59))), (oD 61 (.load 2 true (.s 3))), (oD 62 (.faddr 2 (.s 4))), (oD 63 (.load 2 true (.s 62))), (iD 64 (.call 88 [(.s 61), (.s 63)])), (oD 65 (.field 0 1 false (.s 64))), (oD 9 (mS 60)), (oD 10 (mS 65))]) (.frz [999999999, 4, 9, 10] (.seq (.ops [(oD 66 (.faddr 0 (.s 4))), (oD 67 (.load 2 true (.s 66))), (oD 68 (.faddr 2 (.s 4))), (oD 69 (.load 2 true (.s 68))), (oD 70 (.eq (.agg [.i, .i]) false (.s 67) (.s 69))), (iD 71 (.call 63 [(.s 70), (kI 9)])), (oD 72 (mS 9)), (oD 73 (mS 10)), (oD 74 (.bin .mul (kI 2) (.s 73))), (oD 75 (.bin .gtr (.s 72) (.s 74))), (oD 76 (mS 75)), (oDg 77 (mS 10) 76 false), (oDg 78 (mS 9) 76 false), (oDg 79 (.bin .mul (kI 2) (.s 78)) 76 false), (oDg 80 (.bin .gtr (.s 77) (.s 79)) 76 false), (oD 81 (.pick (.s 76) (.c (.bool true)) (.s 80))), (iD 82 (.call 63 [(.s 81), (kI 24)])), (oD 83 (.fslice 1 2 [(vI 0)] [(0, (.s 71)), (1, (.s 82))])), (iD 84 (.call 51 [(.s 83)])), (oD 6 (mS 84))]) .ret))))))))
def f74 : Fn := ⟨85, [(.t 6)], c74⟩
/- (codend/trawl.Trawl).levels -/
def c78l0 : RCode := (.ops [(oD 12 (.alloc [(vI 0), (vI 0)])), (oN (.store 2 (.s 12) (.s 45)))])
def c78l1 : RCode := (.block 5 (.seq (.ops [(oD 46 (.load 1 false (.s 7))), (oD 47 (.load 2 true (.s 12))), (iD 48 (.callv (.s 46) [(.s 47)])), (oD 13 (.alloc [(vI 0), (vI 0)])), (oN (.store 2 (.s 13) (.s 48)))]) (.seq (.ops [(oD 50 (.load 1 false (.s 5))), (oD 51 (.iaddr 1 (some 2) (.s 13) (kI 0))), (oD 52 (.load 1 false (.s 51))), (oD 53 (.lookup [.i] (vI 0) true (.s 50) (.s 52))), (oD 49 (mS 53)), (oD 54 (.extract 0 (.s 49))), (oD 55 (.extract 1 (.s 49))), (oD 14 (mS 54)), (oD 15 (mS 55))]) (.seq (.ops [(oD 57 (.load 1 false (.s 5))), (oD 58 (.iaddr 1 (some 2) (.s 13) (kI 1))), (oD 59 (.load 1 false (.s 58))), (oD 60 (.lookup [.i] (vI 0) true (.s 57) (.s 59))), (oD 56 (mS 60)), (oD 61 (.extract 0 (.s 56))), (oD 62 (.extract 1 (.s 56))), (oD 16 (mS 61)), (oD 17 (mS 62))]) (.block 6 (.seq (.ops [(oD 64 (mS 15)), (oD 65 (mS 64)), (oDg 66 (mS 17) 65 true), (oDg 67 (.un .not (.s 66)) 65 true), (oD 68 (.pick (.s 65) (.s 67) (.c (.bool false)))), (oD 63 (mS 68))]) (.cond (.s 63) (.draw [0, 0, 2, 0, 0, 16, 0, 0, 0, 384, 896, 1984, 0, 0, 8192, 28672, 62336, 0, 131072, 393216, 1045376, 2093959, 4191111, 8388551, 16777215, 33554431] [(oD 69 (.load 1 false (.s 5))), (oD 70 (.iaddr 1 (some 2) (.s 13) (kI 1))), (oD 71 (.load 1 false (.s 70))), (oD 72 (.load 1 false (.s 6))), (oD 73 (.iaddr 1 (some 2) (.s 13) (kI 1))), (oD 74 (.load 1 false (.s 73))), (oD 75 (mS 14)), (oD 76 (.load 2 true (.s 1))), (oD 77 (.load 2 true (.s 12))), (iD 78 (.call 88 [(.s 76), (.s 77)])), (oD 79 (.field 1 1 false (.s 78))), (oD 80 (.bin .add (.s 75) (.s 79))), (oD 81 (.load 1 false (.s 6))), (oD 82 (.iaddr 1 (some 2) (.s 13) (kI 0))), (oD 83 (.load 1 false (.s 82))), (oD 84 (.lookup [.i] .nilslice false (.s 81) (.s 83))), (iD 85 (.call 112 [(.s 84)])), (oD 86 (.load 2 true (.s 12))), (oD 87 (.build [(vI 0), (vI 0), (.bool false)] [(0, (2, (.s 86))), (2, (1, (.c (.bool false))))])), (oD 88 (.fslice 3 1 [(vI 0), (vI 0), (.bool false)] [(0, (.s 87))])), (oD 89 (.appendF 3 24 [(vI 0), (vI 0), (.bool false)] (.s 85) (.s 88))), (oD 90 (.mentry [.i] (vI 0) (.s 69) (.s 71))), (oD 91 (.extract 1 (.s 90))), (oN (.mestore (.s 69) (.s 91) (.s 80))), (oN (.mapset [.i] (.s 72) (.s 74) (.s 89))), (oN (.store 1 (.s 11) (.c (.bool true))))]) (.seq (.ops [(oD 93 (mS 17)), (oD 94 (mS 93)), (oDg 95 (mS 15) 94 true), (oDg 96 (.un .not (.s 95)) 94 true), (oD 97 (.pick (.s 94) (.s 96) (.c (.bool false)))), (oD 92 (mS 97))]) (.cond (.s 92) (.draw [0, 0, 2, 0, 0, 16, 0, 0, 0, 384, 896, 1984, 0, 0, 8192, 28672, 62336, 0, 131072, 393216, 1045376, 2093959, 4191111, 8388551, 16777215, 33554431] [(oD 98 (.load 1 false (.s 5))), (oD 99 (.iaddr 1 (some 2) (.s 13) (kI 0))), (oD 100 (.load 1 false (.s 99))), (oD 101 (.load 1 false (.s 6))), (oD 102 (.iaddr 1 (some 2) (.s 13) (kI 0))), (oD 103 (.load 1 false (.s 102))), (oD 104 (mS 16)), (oD 105 (.load 2 true (.s 1))), (oD 106 (.load 2 true (.s 12))), (iD 107 (.call 88 [(.s 105), (.s 106)])), (oD 108 (.field 1 1 false (.s 107))), (oD 109 (.bin .sub (.s 104) (.s 108))), (oD 110 (.load 1 false (.s 6))), (oD 111 (.iaddr 1 (some 2) (.s 13) (kI 1))), (oD 112 (.load 1 false (.s 111))), (oD 113 (.lookup [.i] .nilslice false (.s 110) (.s 112))), (iD 114 (.call 112 [(.s 113)])), (oD 115 (.load 2 true (.s 12))), (oD 116 (.build [(vI 0), (vI 0), (.bool false)] [(0, (2, (.s 115))), (2, (1, (.c (.bool true))))])), (oD 117 (.fslice 3 1 [(vI 0), (vI 0), (.bool false)] [(0, (.s 116))])), (oD 118 (.appendF 3 24 [(vI 0), (vI 0), (.bool false)] (.s 114) (.s 117))), (oD 119 (.mentry [.i] (vI 0) (.s 98) (.s 100))), (oD 120 (.extract 1 (.s 119))), (oN (.mestore (.s 98) (.s 120) (.s 109))), (oN (.mapset [.i] (.s 101) (.s 103) (.s 118))), (oN (.store 1 (.s 11) (.c (.bool true))))]) .skip)))))))))
def c78l2 : RCode := (.seq (.seq (.ops [(oD 42 (.load 1 false (.s 11)))]) (.cond (.s 42) .skip (.exit 2))) (.seq (.block 3 (.seq (.ops [(oN (.store 1 (.s 11) (.c (.bool false))))]) (.seq (.ops [(oD 43 (.load 2 true (.s 1))), (iD 44 (.call 80 [(.s 43)]))]) (.block 4 (.rangeF (.s 44) [45] [1, 5, 6, 7, 11, 44] c78l0 c78l1))))) (.seq (.ops [(oD 121 (.load 1 false (.s 11)))]) (.ops [(oD 11 (.alloc [(.bool false)])), (oN (.store 1 (.s 11) (.s 121)))]))))
def c78l3 : RCode := (.ops [(oD 8 (.alloc [(vI 0), (vI 0)])), (oN (.store 2 (.s 8) (.s 28)))])
def c78l4 : RCode := (.block 1 (.seq (.seq (.draw [0, 0, 0, 6, 15, 31, 63, 63, 127, 511] [(oD 30 (.load 1 false (.s 5))), (oD 31 (.load 1 false (.s 4))), (oD 32 (.load 2 true (.s 8))), (oD 33 (.lookup [.i, .i] (vI 0) false (.s 31) (.s 32))), (oD 34 (.lookup [.i] (vI 0) true (.s 30) (.s 33))), (oD 29 (mS 34)), (oD 35 (.extract 0 (.s 29))), (oD 36 (.extract 1 (.s 29))), (oD 9 (mS 35)), (oD 10 (mS 36))]) (.seq (.ops [(oD 37 (mS 10))]) (.cond (.s 37) (.exit 1) .skip))) (.seq (.draw [0, 0, 0, 6, 15] [(oD 38 (.load 1 false (.s 5))), (oD 39 (.load 1 false (.s 4))), (oD 40 (.load 2 true (.s 8))), (oD 41 (.lookup [.i, .i] (vI 0) false (.s 39) (.s 40))), (oN (.mapset [.i] (.s 38) (.s 41) (kI 0)))]) (.seq (.ops [(oD 11 (.alloc [(.bool false)])), (oN (.store 1 (.s 11) (.c (.bool true))))]) (.block 2 (.loop [1, 5, 6, 7, 11] c78l2))))))
def c78l5 : RCode := (.ops [(oD 18 (.alloc [(vI 0), (vI 0)])), (oN (.store 2 (.s 18) (.s 124)))])
def c78l6 : RCode := (.block 8 (.seq (.ops [(oD 125 (.load 1 false (.s 7))), (oD 126 (.load 2 true (.s 18))), (iD 127 (.callv (.s 125) [(.s 126)])), (oD 19 (.alloc [(vI 0), (vI 0)])), (oN (.store 2 (.s 19) (.s 127)))]) (.seq (.seq (.draw [0, 0, 2, 7, 0, 0, 32, 112, 255, 0, 0, 1536, 3584, 8191] [(oD 128 (.load 1 false (.s 5))), (oD 129 (.iaddr 1 (some 2) (.s 19) (kI 1))), (oD 130 (.load 1 false (.s 129))), (oD 131 (.lookup [.i] (vI 0) false (.s 128) (.s 130))), (oD 132 (.load 1 false (.s 5))), (oD 133 (.iaddr 1 (some 2) (.s 19) (kI 0))), (oD 134 (.load 1 false (.s 133))), (oD 135 (.lookup [.i] (vI 0) false (.s 132) (.s 134))), (oD 136 (.bin .sub (.s 131) (.s 135))), (oD 137 (.load 2 true (.s 1))), (oD 138 (.load 2 true (.s 18))), (iD 139 (.call 88 [(.s 137), (.s 138)])), (oD 140 (.field 1 1 false (.s 139))), (oD 141 (.bin .eql (.s 136) (.s 140)))]) (.cond (.s 141) (.exit 8) .skip)) (.seq (.ops [(oD 142 (.load 1 false (.s 6))), (oD 143 (.iaddr 1 (some 2) (.s 19) (kI 1))), (oD 144 (.load 1 false (.s 143))), (oD 145 (.lookup [.i] .nilslice false (.s 142) (.s 144))), (iD 146 (.call 113 [(.s 145), (.c (.fn 114 [] []))])), (oD 20 (mS 146))]) (.seq (.ops [(oD 147 (mS 20)), (iD 148 (.calli 115 [(.s 147)] [0]))]) (.seq (.frz [20] (.draw [0, 0, 0, 4, 14, 0, 32, 96, 0, 510, 1022, 2047, 4095] [(oD 149 (.load 1 false (.s 5))), (oD 150 (.load 1 false (.s 6))), (oD 151 (.iaddr 1 (some 2) (.s 19) (kI 0))), (oD 152 (.load 1 false (.s 151))), (oD 153 (.lookup [.i] .nilslice false (.s 150) (.s 152))), (oD 154 (.load 2 true (.s 18))), (oD 155 (.build [(vI 0), (vI 0), (.bool false)] [(0, (2, (.s 154))), (2, (1, (.c (.bool false))))])), (oD 156 (.fslice 3 1 [(vI 0), (vI 0), (.bool false)] [(0, (.s 155))])), (oD 157 (mS 20)), (oD 158 (.fslice 1 3 [.nilslice] [(0, (.s 153)), (1, (.s 156)), (2, (.s 157))])), (iD 159 (.call 116 [(.s 158)])), (oN (.store 1 (.s 2) (.s 149))), (oN (.store 1 (.s 3) (.s 159)))])) .ret))))))
def c78 : RCode := (.seq (.ops [(oD 1 (.box (.s 0))), (oD 2 (.alloc [.nilmap])), (oD 3 (.alloc [.nilslice]))]) (.seq (.ops [(oD 21 (.load 2 true (.s 1))), (iD 22 (.call 79 [(.s 21)])), (oD 4 (.alloc [.nilmap])), (oN (.store 1 (.s 4) (.s 22)))]) (.seq (.ops [(oD 23 .mkmap), (oD 5 (.alloc [.nilmap])), (oN (.store 1 (.s 5) (.s 23)))]) (.seq (.ops [(oD 24 .mkmap), (oD 6 (.alloc [.nilmap])), (oN (.store 1 (.s 6) (.s 24)))]) (.seq (.ops [(oD 25 (.fn 111 [] [(.s 1), (.s 4)])), (oD 7 (.alloc [.nilfn])), (oN (.store 1 (.s 7) (.s 25)))]) (.seq (.seq (.ops [(oD 26 (.load 2 true (.s 1))), (iD 27 (.call 80 [(.s 26)]))]) (.block 0 (.rangeF (.s 27) [28] [1, 2, 3, 4, 5, 6, 7, 27] c78l3 c78l4))) (.frz [999999999, 1, 2, 3, 5, 6, 7] (.seq (.seq (.ops [(oD 122 (.load 2 true (.s 1))), (iD 123 (.call 80 [(.s 122)]))]) (.block 7 (.rangeF (.s 123) [124] [1, 2, 3, 5, 6, 7, 123] c78l5 c78l6))) (.frz [999999999, 2, 3, 5] (.seq (.ops [(oD 160 (.load 1 false (.s 5))), (oN (.store 1 (.s 2) (.s 160))), (oN (.store 1 (.s 3) (.c .nilslice)))]) .ret))))))))))
def f78 : Fn := ⟨161, [(.cell 2 1 false), (.cell 3 1 false)], c78⟩
/- (codend/trawl.Trawl).points -/
def c79l0 : RCode := (.seq (.ops [(oD 11 (.bin .lss (.s 10) (.s 9)))]) (.seq (.cond (.s 11) .skip (.exit 0)) (.frz [999999999, 1, 3, 8, 9, 10] (.seq (.block 1 (.seq (.ops [(oD 12 (.iaddr 5 none (.s 8) (.s 10))), (oD 13 (.load 5 true (.s 12))), (oD 5 (.alloc [(vI 0), (vI 0), (vI 0), (vI 0), (.bool false)])), (oN (.store 5 (.s 5) (.s 13)))]) (.seq (.ops [(oD 14 (.load 2 true (.s 1))), (oD 15 (.load 5 true (.s 5))), (iD 16 (.call 117 [(.s 14), (.s 15)])), (oD 6 (.alloc [(vI 0), (vI 0), (vI 0), (vI 0), (vI 0), (vI 0), (vI 0), (vI 0)])), (oN (.store 8 (.s 6) (.s 16)))]) (.ops [(oD 17 (mS 3)), (oD 18 (.iaddr 4 (some 2) (.s 6) (kI 0))), (oD 19 (.load 4 true (.s 18))), (oD 20 (.iaddr 4 (some 2) (.s 6) (kI 1))), (oD 21 (.load 4 true (.s 20))), (oD 22 (.fslice 4 2 [(vI 0), (vI 0), (vI 0), (vI 0)] [(0, (.s 19)), (1, (.s 21))])), (oD 23 (.append 4 32 [(vI 0), (vI 0), (vI 0), (vI 0)] (.s 17) (.s 22))), (oD 3 (mS 23))])))) (.frz [999999999, 1, 3, 8, 9, 10] (.ops [(oD 24 (.bin .add (.s 10) (kI 1))), (oD 10 (mS 24))]))))))
def c79 : RCode := (.seq (.ops [(oD 1 (.box (.s 0))), (oD 2 (.mv (.c .nilmap)))]) (.seq (.ops [(oD 3 (.mv (.c .nilslice)))]) (.seq (.seq (.ops [(oD 7 (.faddr 1 (.s 1))), (oD 8 (.load 1 false (.s 7))), (oD 9 (.len .sl (.s 8))), (oD 10 (.mv (kI 0)))]) (.block 0 (.loop [1, 3, 8, 9, 10] c79l0))) (.frz [999999999, 1, 3] (.seq (.ops [(oD 25 (.load 2 true (.s 1))), (iD 26 (.call 80 [(.s 25)])), (iD 27 (.call 119 [(.s 26)])), (oD 28 (mS 3)), (iD 29 (.call 118 [(.s 27), (.s 28)])), (oD 2 (mS 29))]) .ret)))))
def f79 : Fn := ⟨30, [(.t 2)], c79⟩
/- (codend/trawl.Trawl).sides -/
def c80 : RCode := (.seq (.ops [(oD 1 (.box (.s 0))), (oD 2 (.mv (.c .nilfn)))]) (.seq (.ops [(oD 3 (.fn 120 [] [(.s 1)])), (oD 2 (mS 3))]) .ret))
def f80 : Fn := ⟨4, [(.t 2)], c80⟩
/- codend/codendlaw07.tube$1 -/
def c83 : RCode := (.seq (.ops [(oD 0 (.mv (.c .nilslice)))]) (.seq (.ops [(oD 1 (.build [(vI 0), (vI 0)] [(0, (1, (kI 10)))])), (oD 2 (.build [(vI 0), (vI 0)] [(0, (1, (kI 20))), (1, (1, (kI 5)))])), (oD 3 (.build [(vI 0), (vI 0)] [(0, (1, (kI 10)))])), (oD 4 (.build [(vI 0), (vI 0)] [(0, (1, (kI 20))), (1, (1, (kI (-5))))])), (oD 5 (.bslice 2 4 [(vI 0), (vI 0)] [(0, (.s 1)), (1, (.s 2)), (2, (.s 3)), (3, (.s 4))])), (oD 0 (mS 5))]) .ret))
def f83 : Fn := ⟨6, [(.t 0)], c83⟩
/- slices.ContainsFunc[[]codend/trawl.Step,codend/trawl.Step] -/
def c84 : RCode := (.seq (.ops [(oD 4 (.mv (.c (.bool false))))]) (.seq (.ops [(oD 5 (mS 0)), (oD 6 (mS 1)), (iD 7 (.call 121 [(.s 5), (.s 6)])), (oD 8 (.bin .geq (.s 7) (kI 0))), (oD 4 (mS 8))]) .ret))
def f84 : Fn := ⟨9, [(.t 4)], c84⟩
/- codend/trawl.CheckClash$1 -/
def c85 : RCode := (.seq (.ops [(oD 2 (.box (.s 0))), (oD 3 (.mv (.c (.bool false))))]) (.seq (.ops [(oD 4 (.load 2 true (.s 1))), (oD 5 (.faddr 0 (.s 2))), (oD 6 (.load 2 true (.s 5))), (iD 7 (.call 71 [(.s 4), (.s 6)])), (oD 8 (.un .not (.s 7))), (oD 3 (mS 8))]) .ret))
def f85 : Fn := ⟨9, [(.t 3)], c85⟩
/- (codend/trawl.Trawl).tail -/
def c86 : RCode := (.seq (.ops [(oD 3 (.box (.s 0))), (oD 4 (.box (.s 1))), (oD 6 (.mv (kI 0)))]) (.seq (.ops [(oD 8 (.load 2 true (.s 3))), (oD 9 (.faddr 0 (.s 4))), (oD 10 (.load 2 true (.s 9))), (iD 11 (.call 90 [(.s 8), (.s 10)])), (oD 7 (.alloc [(vI 0), (vI 0), (vI 0), (vI 0)])), (oN (.store 4 (.s 7) (.s 11)))]) (.seq (.seq (.ops [(oD 12 (.faddr 2 (.s 4))), (oD 13 (.load 1 false (.s 12)))]) (.cond (.s 13) (.seq (.ops [(oD 14 (mS 2)), (oD 15 (.iaddr 2 (some 2) (.s 7) (kI 1))), (oD 16 (.load 2 true (.s 15))), (oD 17 (.lookup [.i, .i] (vI 0) false (.s 14) (.s 16))), (oD 6 (mS 17))]) .ret) .skip)) (.frz [999999999, 2, 7] (.seq (.ops [(oD 18 (mS 2)), (oD 19 (.iaddr 2 (some 2) (.s 7) (kI 0))), (oD 20 (.load 2 true (.s 19))), (oD 21 (.lookup [.i, .i] (vI 0) false (.s 18) (.s 20))), (oD 6 (mS 21))]) .ret)))))
def f86 : Fn := ⟨22, [(.t 6)], c86⟩
/- (codend/trawl.Trawl).head -/
def c87 : RCode := (.seq (.ops [(oD 3 (.box (.s 0))), (oD 4 (.box (.s 1))), (oD 6 (.mv (kI 0)))]) (.seq (.ops [(oD 7 (.faddr 2 (.s 4))), (oD 8 (.load 1 false (.s 7))), (oD 9 (.un .not (.s 8))), (oD 10 (.faddr 2 (.s 4))), (oN (.store 1 (.s 10) (.s 9)))]) (.seq (.ops [(oD 11 (.load 2 true (.s 3))), (oD 12 (.load 3 true (.s 4))), (oD 13 (mS 2)), (iD 14 (.call 86 [(.s 11), (.s 12), (.s 13)])), (oD 6 (mS 14))]) .ret)))
def f87 : Fn := ⟨15, [(.t 6)], c87⟩
/- (codend/trawl.Trawl).side -/
def c88 : RCode := (.seq (.ops [(oD 2 (.box (.s 0))), (oD 3 (.box (.s 1))), (oD 4 (.alloc [(vI 0), (vI 0)]))]) (.seq (.draw [0, 1, 0, 4, 15, 31, 63, 0, 128, 511, 1023, 2047] [(oD 5 (.faddr 0 (.s 2))), (oD 6 (.load 1 false (.s 5))), (oD 7 (.faddr 0 (.s 3))), (oD 8 (.load 1 false (.s 7))), (oD 9 (.iaddr 2 none (.s 6) (.s 8))), (oD 10 (.faddr 1 (.s 9))), (oD 11 (.load 1 false (.s 10))), (oD 12 (.faddr 1 (.s 3))), (oD 13 (.load 1 false (.s 12))), (oD 14 (.iaddr 2 none (.s 11) (.s 13))), (oD 15 (.load 2 true (.s 14))), (oN (.store 2 (.s 4) (.s 15)))]) .ret))
def f88 : Fn := ⟨16, [(.cell 4 2 true)], c88⟩
/- codend/netting.IsName -/
def c89l0 : RCode := (.seq (.ops [(oD 16 (.snext (.s 15))), (oD 17 (.extract 0 (.s 16)))]) (.seq (.cond (.s 17) .skip (.exit 0)) (.frz [999999999, 15, 16] (.block 1 (.seq (.ops [(oD 18 (.extract 1 (.s 16))), (oD 19 (.extract 2 (.s 16))), (oD 3 (mS 18)), (oD 4 (mS 19))]) (.seq (.ops [(oD 20 (mS 4)), (oD 21 (.bin .geq (.s 20) (.c (.int .i32 65)))), (oD 22 (mS 21)), (oDg 23 (mS 4) 22 true), (oDg 24 (.bin .leq (.s 23) (.c (.int .i32 90))) 22 true), (oD 25 (.pick (.s 22) (.s 24) (.c (.bool false)))), (oD 26 (mS 25)), (oDg 27 (mS 4) 26 false), (oDg 28 (.bin .geq (.s 27) (.c (.int .i32 97))) 26 false), (oDg 29 (mS 28) 26 false), (oDg 30 (mS 4) 29 true), (oDg 31 (.bin .leq (.s 30) (.c (.int .i32 122))) 29 true), (oDg 32 (.pick (.s 29) (.s 31) (.c (.bool false))) 26 false), (oD 33 (.pick (.s 26) (.c (.bool true)) (.s 32))), (oD 5 (mS 33))]) (.frz [999999999, 3, 4, 5, 15] (.seq (.ops [(oD 34 (mS 5)), (oD 35 (.un .not (.s 34))), (oD 36 (mS 35)), (oDg 37 (mS 3) 36 true), (oDg 38 (.bin .eql (.s 37) (kI 0)) 36 true), (oDg 39 (mS 38) 36 true), (oDg 40 (mS 4) 39 false), (oDg 41 (.bin .neq (.s 40) (.c (.int .i32 95))) 39 false), (oDg 42 (mS 41) 39 false), (oDg 43 (mS 4) 42 true), (oDg 44 (.bin .lss (.s 43) (.c (.int .i32 48))) 42 true), (oDg 45 (mS 44) 42 true), (oDg 46 (mS 4) 45 false), (oDg 47 (.bin .gtr (.s 46) (.c (.int .i32 57))) 45 false), (oDg 48 (.pick (.s 45) (.c (.bool true)) (.s 47)) 42 true), (oDg 49 (.pick (.s 42) (.s 48) (.c (.bool false))) 39 false), (oDg 50 (.pick (.s 39) (.c (.bool true)) (.s 49)) 36 true), (oD 51 (.pick (.s 36) (.s 50) (.c (.bool false))))]) (.frz [999999999, 15, 51] (.cond (.s 51) (.seq (.ops [(oD 2 (.mv (.c (.bool false))))]) .ret) .skip))))))))))
def c89 : RCode := (.seq (.ops [(oD 2 (.mv (.c (.bool false))))]) (.seq (.seq (.ops [(oD 6 (mS 0)), (oD 7 (.len .str (.s 6))), (oD 8 (.bin .eql (.s 7) (kI 0))), (oD 9 (mS 8)), (oDg 10 (mS 0) 9 false), (oDg 11 (.len .str (.s 10)) 9 false), (oDg 12 (.bin .gtr (.s 11) (kI 24)) 9 false), (oD 13 (.pick (.s 9) (.c (.bool true)) (.s 12)))]) (.frz [999999999, 0, 13] (.cond (.s 13) (.seq (.ops [(oD 2 (.mv (.c (.bool false))))]) .ret) .skip))) (.frz [999999999, 0] (.seq (.seq (.ops [(oD 14 (mS 0)), (oD 15 (.srange (.s 14)))]) (.block 0 (.loop [15] c89l0))) (.frz [999999999] (.seq (.ops [(oD 2 (.mv (.c (.bool true))))]) .ret))))))
def f89 : Fn := ⟨52, [(.t 2)], c89⟩
/- (codend/trawl.Trawl).ends -/
def c90 : RCode := (.seq (.ops [(oD 2 (.box (.s 0))), (oD 3 (.box (.s 1))), (oD 4 (.alloc [(vI 0), (vI 0), (vI 0), (vI 0)]))]) (.seq (.draw [0, 0, 2, 0, 8, 24, 0, 64, 0, 256, 960, 1984, 4032, 8128, 16376, 32766, 65535, 131071] [(oD 5 (.load 2 true (.s 3))), (oD 6 (.faddr 0 (.s 3))), (oD 7 (.load 1 false (.s 6))), (oD 8 (.faddr 1 (.s 3))), (oD 9 (.load 1 false (.s 8))), (oD 10 (.bin .add (.s 9) (kI 1))), (oD 11 (.faddr 0 (.s 2))), (oD 12 (.load 1 false (.s 11))), (oD 13 (.faddr 0 (.s 3))), (oD 14 (.load 1 false (.s 13))), (oD 15 (.iaddr 2 none (.s 12) (.s 14))), (oD 16 (.faddr 1 (.s 15))), (oD 17 (.load 1 false (.s 16))), (oD 18 (.len .sl (.s 17))), (oD 19 (.bin .rem (.s 10) (.s 18))), (oD 20 (.build [(vI 0), (vI 0)] [(0, (1, (.s 7))), (1, (1, (.s 19)))])), (oD 21 (.build [(vI 0), (vI 0), (vI 0), (vI 0)] [(0, (2, (.s 5))), (2, (2, (.s 20)))])), (oN (.store 4 (.s 4) (.s 21)))]) .ret))
def f90 : Fn := ⟨22, [(.cell 4 4 true)], c90⟩
/- (codend/trawl.Trawl).onwards -/
def c91l0 : RCode := (.seq (.ops [(oD 38 (.bin .lss (.s 37) (kI 2)))]) (.seq (.cond (.s 38) .skip (.exit 2)) (.frz [999999999, 3, 4, 5, 6, 8, 9, 36, 37] (.seq (.block 3 (.seq (.ops [(oD 39 (.aindex 2 4 true (.s 36) (.s 37))), (oD 12 (.alloc [(vI 0), (vI 0), (vI 0), (vI 0)])), (oN (.store 4 (.s 12) (.s 39)))]) (.seq (.seq (.draw [0, 1, 0, 7, 15, 31, 0, 127, 255, 511, 1023, 511, 4095, 8191] [(oD 40 (.faddr 1 (.s 3))), (oD 41 (.load 1 false (.s 40))), (oD 42 (mS 9)), (oD 43 (.iaddr 5 none (.s 41) (.s 42))), (oD 44 (.faddr 0 (.s 43))), (oD 45 (.load 2 true (.s 44))), (oD 46 (.load 2 true (.s 4))), (oD 47 (.eq (.agg [.i, .i]) false (.s 45) (.s 46))), (oD 48 (mS 47)), (oDg 49 (.iaddr 2 (some 2) (.s 12) (kI 0)) 48 true), (oDg 50 (.load 2 true (.s 49)) 48 true), (oDg 51 (.load 2 true (.s 5)) 48 true), (oDg 52 (.eq (.agg [.i, .i]) false (.s 50) (.s 51)) 48 true), (oD 53 (.pick (.s 48) (.s 52) (.c (.bool false))))]) (.frz [999999999, 3, 4, 5, 6, 8, 9, 12, 36, 37, 53] (.cond (.s 53) (.seq (.ops [(oD 54 (.iaddr 2 (some 2) (.s 12) (kI 1))), (oD 55 (.load 2 true (.s 54))), (oN (.store 2 (.s 5) (.s 55)))]) (.exit 2)) .skip))) (.frz [999999999, 3, 4, 5, 6, 8, 9, 12, 36, 37] (.seq (.draw [0, 1, 0, 7, 15, 31, 0, 127, 255, 511, 1023, 511, 4095, 8191] [(oD 56 (.faddr 1 (.s 3))), (oD 57 (.load 1 false (.s 56))), (oD 58 (mS 9)), (oD 59 (.iaddr 5 none (.s 57) (.s 58))), (oD 60 (.faddr 2 (.s 59))), (oD 61 (.load 2 true (.s 60))), (oD 62 (.load 2 true (.s 4))), (oD 63 (.eq (.agg [.i, .i]) false (.s 61) (.s 62))), (oD 64 (mS 63)), (oDg 65 (.iaddr 2 (some 2) (.s 12) (kI 1)) 64 true), (oDg 66 (.load 2 true (.s 65)) 64 true), (oDg 67 (.load 2 true (.s 5)) 64 true), (oDg 68 (.eq (.agg [.i, .i]) false (.s 66) (.s 67)) 64 true), (oD 69 (.pick (.s 64) (.s 68) (.c (.bool false))))]) (.frz [999999999, 3, 4, 5, 6, 8, 9, 12, 36, 37, 69] (.cond (.s 69) (.seq (.ops [(oD 70 (.iaddr 2 (some 2) (.s 12) (kI 0))), (oD 71 (.load 2 true (.s 70))), (oN (.store 2 (.s 5) (.s 71)))]) (.exit 2)) .skip))))))) (.frz [999999999, 3, 4, 5, 6, 8, 9, 36, 37] (.ops [(oD 72 (.bin .add (.s 37) (kI 1))), (oD 37 (mS 72))]))))))
def c91l1 : RCode := (.block 1 (.seq (.ops [(oD 13 (.load 2 true (.s 3))), (oD 14 (.load 2 true (.s 4))), (oD 15 (.load 2 true (.s 5))), (iD 16 (.call 122 [(.s 13), (.s 14), (.s 15)])), (oN (.store 2 (.s 4) (.s 16)))]) (.seq (.ops [(oD 18 (.load 2 true (.s 3))), (oD 19 (.load 2 true (.s 4))), (iD 20 (.call 72 [(.s 18), (.s 19)])), (oD 17 (mS 20)), (oD 21 (.extract 0 (.s 17))), (oD 22 (.extract 1 (.s 17))), (oD 23 (.extract 2 (.s 17))), (oD 8 (.alloc [(vI 0), (vI 0)])), (oN (.store 2 (.s 8) (.s 21))), (oD 9 (mS 22)), (oD 10 (mS 23))]) (.frz [999999999, 3, 4, 5, 6, 8, 9, 10] (.seq (.seq (.ops [(oD 24 (mS 10)), (oD 25 (.un .not (.s 24)))]) (.cond (.s 25) (.seq (.draw [0, 0, 0, 6, 1, 31] [(oD 26 (.load 2 true (.s 4))), (oD 27 (.load 2 true (.s 4))), (oD 28 (.load 2 true (.s 5))), (oD 29 (.eq (.agg [.i, .i]) false (.s 27) (.s 28))), (oN (.store 2 (.s 6) (.s 26))), (oD 7 (mS 29))]) .ret) .skip)) (.frz [999999999, 3, 4, 5, 6, 8, 9] (.seq (.seq (.draw [0, 0, 2, 0, 14, 30, 63, 0] [(oD 30 (.load 2 true (.s 3))), (oD 31 (.faddr 1 (.s 3))), (oD 32 (.load 1 false (.s 31))), (oD 33 (mS 9)), (oD 34 (.iaddr 5 none (.s 32) (.s 33))), (oD 35 (.load 5 true (.s 34))), (iD 36 (.call 117 [(.s 30), (.s 35)])), (oD 37 (.mv (kI 0)))]) (.frz [999999999, 3, 4, 5, 6, 8, 9, 36, 37] (.block 2 (.loop [3, 4, 5, 6, 8, 9, 36, 37] c91l0)))) (.frz [999999999, 3, 4, 5, 6, 8] (.ops [(oD 73 (.load 2 true (.s 8))), (oN (.store 2 (.s 4) (.s 73)))])))))))))
def c91 : RCode := (.seq (.ops [(oD 3 (.box (.s 0))), (oD 4 (.box (.s 1))), (oD 5 (.box (.s 2))), (oD 6 (.alloc [(vI 0), (vI 0)])), (oD 7 (.mv (.c (.bool false))))]) (.block 0 (.loop [3, 4, 5, 6] c91l1)))
def f91 : Fn := ⟨74, [(.cell 6 2 true), (.t 7)], c91⟩
/- (codend/trawl.Trawl).count$1 -/
def c92 : RCode := (.seq (.ops [(oD 4 (.mv (.c (.bool false))))]) (.seq (.draw [0, 1, 3, 7, 7, 31, 63, 7, 255, 511, 1023] [(oD 5 (.load 1 false (.s 1))), (oD 6 (.bin .lss (.s 5) (kI 0))), (oD 7 (mS 6)), (oDg 8 (.load 1 false (.s 2)) 7 false), (oDg 9 (mS 0) 7 false), (oDg 10 (.iaddr 1 none (.s 8) (.s 9)) 7 false), (oDg 11 (.load 1 false (.s 10)) 7 false), (oDg 12 (.load 1 false (.s 1)) 7 false), (oDg 13 (.bin .eql (.s 11) (.s 12)) 7 false), (oD 14 (.pick (.s 7) (.c (.bool true)) (.s 13))), (oD 4 (mS 14))]) .ret))
def f92 : Fn := ⟨15, [(.t 4)], c92⟩
/- codend/trawl.united[int] -/
def c93l0 : RCode := (.seq (.ops [(oD 25 (.bin .lss (.s 24) (.s 23)))]) (.seq (.cond (.s 25) .skip (.exit 0)) (.frz [999999999, 0, 1, 5, 22, 23, 24] (.seq (.block 1 (.seq (.ops [(oD 26 (mS 24)), (oD 27 (.iaddr 1 none (.s 22) (.s 24))), (oD 28 (.load 1 false (.s 27))), (oD 6 (mS 26)), (oD 7 (mS 28))]) (.ops [(oD 29 (mS 5)), (oD 30 (mS 7)), (oD 31 (mS 6)), (oN (.mapset [.i] (.s 29) (.s 30) (.s 31)))]))) (.ops [(oD 32 (.bin .add (.s 24) (kI 1))), (oD 24 (mS 32))])))))
def c93l1 : RCode := (.seq (.ops [(oD 49 (.mnx (.s 48))), (oD 50 (.extract 0 (.s 49)))]) (.seq (.cond (.s 50) .skip (.exit 4)) (.block 5 (.seq (.ops [(oD 51 (.ment (.s 48))), (oD 52 (.extract 0 (.s 51))), (oD 53 (.extract 1 (.s 51))), (oD 12 (mS 52)), (oD 13 (mS 53))]) (.seq (.ops [(oD 54 (mS 13)), (oD 55 (mS 10)), (oD 56 (mS 11)), (oD 57 (.minmax true [(.s 55), (.s 56)])), (oD 58 (.bin .eql (.s 54) (.s 57)))]) (.cond (.s 58) (.ops [(oD 59 (mS 5)), (oD 60 (mS 12)), (oD 61 (mS 10)), (oD 62 (mS 11)), (oD 63 (.minmax false [(.s 61), (.s 62)])), (oN (.mapset [.i] (.s 59) (.s 60) (.s 63)))]) .skip))))))
def c93l2 : RCode := (.seq (.ops [(oD 36 (.bin .lss (.s 35) (.s 34)))]) (.seq (.cond (.s 36) .skip (.exit 2)) (.frz [999999999, 0, 5, 33, 34, 35] (.seq (.block 3 (.seq (.ops [(oD 37 (.iaddr 2 none (.s 33) (.s 35))), (oD 38 (.load 2 true (.s 37))), (oD 9 (.alloc [(vI 0), (vI 0)])), (oN (.store 2 (.s 9) (.s 38)))]) (.seq (.draw [0, 0, 2, 7, 0, 0, 32, 112, 15, 511] [(oD 39 (mS 5)), (oD 40 (.iaddr 1 (some 2) (.s 9) (kI 0))), (oD 41 (.load 1 false (.s 40))), (oD 42 (.lookup [.i] (vI 0) false (.s 39) (.s 41))), (oD 43 (mS 5)), (oD 44 (.iaddr 1 (some 2) (.s 9) (kI 1))), (oD 45 (.load 1 false (.s 44))), (oD 46 (.lookup [.i] (vI 0) false (.s 43) (.s 45))), (oD 10 (mS 42)), (oD 11 (mS 46))]) (.frz [999999999, 0, 5, 10, 11, 33, 34, 35] (.hand 93048 (.seq (.ops [(oD 47 (mS 5)), (oD 48 (.mrg (.s 47)))]) (.block 4 (.loop [0, 5, 10, 11, 33, 34, 35, 48] c93l1)))))))) (.frz [999999999, 0, 5, 33, 34, 35] (.ops [(oD 64 (.bin .add (.s 35) (kI 1))), (oD 35 (mS 64))]))))))
def c93l3 : RCode := (.seq (.ops [(oD 69 (.bin .lss (.s 68) (.s 67)))]) (.seq (.cond (.s 69) .skip (.exit 6)) (.frz [999999999, 5, 14, 66, 67, 68] (.seq (.block 7 (.seq (.ops [(oD 70 (.iaddr 1 none (.s 66) (.s 68))), (oD 71 (.load 1 false (.s 70))), (oD 16 (mS 71))]) (.seq (.ops [(oD 73 (mS 14)), (oD 74 (mS 5)), (oD 75 (mS 16)), (oD 76 (.lookup [.i] (vI 0) false (.s 74) (.s 75))), (oD 77 (.lookup [.i] (vI 0) true (.s 73) (.s 76))), (oD 72 (mS 77)), (oD 78 (.extract 0 (.s 72))), (oD 79 (.extract 1 (.s 72))), (oD 17 (mS 78)), (oD 18 (mS 79))]) (.frz [999999999, 5, 14, 16, 18, 66, 67, 68] (.seq (.ops [(oD 80 (mS 18)), (oD 81 (.un .not (.s 80)))]) (.cond (.s 81) (.ops [(oD 82 (mS 14)), (oD 83 (mS 5)), (oD 84 (mS 16)), (oD 85 (.lookup [.i] (vI 0) false (.s 83) (.s 84))), (oD 86 (mS 14)), (oD 87 (.len .mp (.s 86))), (oN (.mapset [.i] (.s 82) (.s 85) (.s 87)))]) .skip)))))) (.frz [999999999, 5, 14, 66, 67, 68] (.ops [(oD 88 (.bin .add (.s 68) (kI 1))), (oD 68 (mS 88))]))))))
def c93l4 : RCode := (.seq (.ops [(oD 91 (.mnx (.s 90))), (oD 92 (.extract 0 (.s 91)))]) (.seq (.cond (.s 92) .skip (.exit 8)) (.block 9 (.seq (.ops [(oD 93 (.ment (.s 90))), (oD 94 (.extract 0 (.s 93))), (oD 95 (.extract 1 (.s 93))), (oD 19 (mS 94)), (oD 20 (mS 95))]) (.ops [(oD 96 (mS 5)), (oD 97 (mS 19)), (oD 98 (mS 14)), (oD 99 (mS 20)), (oD 100 (.lookup [.i] (vI 0) false (.s 98) (.s 99))), (oN (.mapset [.i] (.s 96) (.s 97) (.s 100)))])))))
def c93 : RCode := (.seq (.ops [(oD 4 (.mv (.c .nilmap)))]) (.seq (.ops [(oD 21 .mkmap), (oD 5 (mS 21))]) (.seq (.seq (.ops [(oD 22 (mS 0)), (oD 23 (.len .sl (.s 22))), (oD 24 (.mv (kI 0)))]) (.block 0 (.loop [0, 1, 5, 22, 23, 24] c93l0))) (.frz [999999999, 0, 1, 5] (.seq (.seq (.ops [(oD 33 (mS 1)), (oD 34 (.len .sl (.s 33))), (oD 35 (.mv (kI 0)))]) (.block 2 (.loop [0, 5, 33, 34, 35] c93l2))) (.frz [999999999, 0, 5] (.seq (.ops [(oD 65 .mkmap), (oD 14 (mS 65))]) (.seq (.seq (.ops [(oD 66 (mS 0)), (oD 67 (.len .sl (.s 66))), (oD 68 (.mv (kI 0)))]) (.block 6 (.loop [5, 14, 66, 67, 68] c93l3))) (.frz [999999999, 5, 14] (.seq (.hand 93090 (.seq (.ops [(oD 89 (mS 5)), (oD 90 (.mrg (.s 89)))]) (.block 8 (.loop [5, 14, 90] c93l4)))) (.frz [999999999, 5] (.seq (.ops [(oD 101 (mS 5)), (oD 4 (mS 101))]) .ret))))))))))))
def f93 : Fn := ⟨102, [(.t 4)], c93⟩
/- codend/trawl.mapped[codend/trawl.Seam,[2]int] -/
def c94l0 : RCode := (.seq (.ops [(oD 14 (.bin .lss (.s 13) (.s 12)))]) (.seq (.cond (.s 14) .skip (.exit 0)) (.frz [999999999, 1, 5, 11, 12, 13] (.seq (.block 1 (.seq (.ops [(oD 15 (.iaddr 5 none (.s 11) (.s 13))), (oD 16 (.load 5 true (.s 15))), (oD 7 (.alloc [(vI 0), (vI 0), (vI 0), (vI 0), (.bool false)])), (oN (.store 5 (.s 7) (.s 16)))]) (.ops [(oD 17 (mS 5)), (oD 18 (mS 1)), (oD 19 (.load 5 true (.s 7))), (iD 20 (.callv (.s 18) [(.s 19)])), (oD 21 (.fslice 2 1 [(vI 0), (vI 0)] [(0, (.s 20))])), (oD 22 (.append 2 16 [(vI 0), (vI 0)] (.s 17) (.s 21))), (oD 5 (mS 22))]))) (.ops [(oD 23 (.bin .add (.s 13) (kI 1))), (oD 13 (mS 23))])))))
def c94 : RCode := (.seq (.ops [(oD 4 (.mv (.c .nilslice)))]) (.seq (.ops [(oD 8 (mS 0)), (oD 9 (.len .sl (.s 8))), (oD 10 (.mkslice 2 16 [(vI 0), (vI 0)] (kI 0) (.s 9))), (oD 5 (mS 10))]) (.seq (.seq (.ops [(oD 11 (mS 0)), (oD 12 (.len .sl (.s 11))), (oD 13 (.mv (kI 0)))]) (.block 0 (.loop [1, 5, 11, 12, 13] c94l0))) (.frz [999999999, 5] (.seq (.ops [(oD 24 (mS 5)), (oD 4 (mS 24))]) .ret)))))
def f94 : Fn := ⟨25, [(.t 4)], c94⟩
/- (codend/trawl.Trawl).pieces$1 -/
def c95 : RCode := (.seq (.ops [(oD 1 (.box (.s 0))), (oD 2 (.alloc [(vI 0), (vI 0)]))]) (.seq (.ops [(oD 3 (.faddr 0 (.s 1))), (oD 4 (.faddr 0 (.s 3))), (oD 5 (.load 1 false (.s 4))), (oD 6 (.faddr 2 (.s 1))), (oD 7 (.faddr 0 (.s 6))), (oD 8 (.load 1 false (.s 7))), (oD 9 (.build [(vI 0), (vI 0)] [(0, (1, (.s 5))), (1, (1, (.s 8)))])), (oN (.store 2 (.s 2) (.s 9)))]) .ret))
def f95 : Fn := ⟨10, [(.cell 2 2 true)], c95⟩
/- codend/trawl.mapped[int,int] -/
def c96l0 : RCode := (.seq (.ops [(oD 14 (.bin .lss (.s 13) (.s 12)))]) (.seq (.cond (.s 14) .skip (.exit 0)) (.frz [999999999, 1, 5, 11, 12, 13] (.seq (.block 1 (.seq (.ops [(oD 15 (.iaddr 1 none (.s 11) (.s 13))), (oD 16 (.load 1 false (.s 15))), (oD 7 (mS 16))]) (.ops [(oD 17 (mS 5)), (oD 18 (mS 1)), (oD 19 (mS 7)), (iD 20 (.callv (.s 18) [(.s 19)])), (oD 21 (.fslice 1 1 [(vI 0)] [(0, (.s 20))])), (oD 22 (.append 1 8 [(vI 0)] (.s 17) (.s 21))), (oD 5 (mS 22))]))) (.ops [(oD 23 (.bin .add (.s 13) (kI 1))), (oD 13 (mS 23))])))))
def c96 : RCode := (.seq (.ops [(oD 4 (.mv (.c .nilslice)))]) (.seq (.ops [(oD 8 (mS 0)), (oD 9 (.len .sl (.s 8))), (oD 10 (.mkslice 1 8 [(vI 0)] (kI 0) (.s 9))), (oD 5 (mS 10))]) (.seq (.seq (.ops [(oD 11 (mS 0)), (oD 12 (.len .sl (.s 11))), (oD 13 (.mv (kI 0)))]) (.block 0 (.loop [1, 5, 11, 12, 13] c96l0))) (.frz [999999999, 5] (.seq (.ops [(oD 24 (mS 5)), (oD 4 (mS 24))]) .ret)))))
def f96 : Fn := ⟨25, [(.t 4)], c96⟩
/- (codend/trawl.Trawl).pieces$2 -/
def c97 : RCode := (.seq (.ops [(oD 3 (.mv (kI 0)))]) (.seq (.ops [(oD 4 (.load 1 false (.s 1))), (oD 5 (mS 0)), (oD 6 (.lookup [.i] (vI 0) false (.s 4) (.s 5))), (oD 3 (mS 6))]) .ret))
def f97 : Fn := ⟨7, [(.t 3)], c97⟩
/- slices.ContainsFunc[[]codend/trawl.Seam,codend/trawl.Seam] -/
def c98 : RCode := (.seq (.ops [(oD 4 (.mv (.c (.bool false))))]) (.seq (.ops [(oD 5 (mS 0)), (oD 6 (mS 1)), (iD 7 (.call 123 [(.s 5), (.s 6)])), (oD 8 (.bin .geq (.s 7) (kI 0))), (oD 4 (mS 8))]) .ret))
def f98 : Fn := ⟨9, [(.t 4)], c98⟩
/- (codend/trawl.Trawl).twosided$1 -/
def c99 : RCode := (.seq (.ops [(oD 4 (.box (.s 0))), (oD 5 (.mv (.c (.bool false))))]) (.seq (.draw [0, 0, 2, 6, 15, 31, 0, 127, 255, 511, 1023, 511, 2559, 6655, 16383, 32767, 511, 66047, 511, 262655, 786943, 2032127, 4129279, 8388607, 511, 16777727, 67108863, 134217727, 268435455] [(oD 6 (.load 1 false (.s 1))), (oD 7 (.faddr 0 (.s 4))), (oD 8 (.faddr 0 (.s 7))), (oD 9 (.load 1 false (.s 8))), (oD 10 (.iaddr 1 none (.s 6) (.s 9))), (oD 11 (.load 1 false (.s 10))), (oD 12 (.load 1 false (.s 2))), (oD 13 (.bin .eql (.s 11) (.s 12))), (oD 14 (mS 13)), (oDg 15 (.faddr 0 (.s 3)) 14 true), (oDg 16 (.load 1 false (.s 15)) 14 true), (oDg 17 (.faddr 0 (.s 4)) 14 true), (oDg 18 (.faddr 0 (.s 17)) 14 true), (oDg 19 (.load 1 false (.s 18)) 14 true), (oDg 20 (.iaddr 1 none (.s 16) (.s 19)) 14 true), (oDg 21 (.load 1 false (.s 20)) 14 true), (oDg 22 (.faddr 0 (.s 3)) 14 true), (oDg 23 (.load 1 false (.s 22)) 14 true), (oDg 24 (.faddr 2 (.s 4)) 14 true), (oDg 25 (.faddr 0 (.s 24)) 14 true), (oDg 26 (.load 1 false (.s 25)) 14 true), (oDg 27 (.iaddr 1 none (.s 23) (.s 26)) 14 true), (oDg 28 (.load 1 false (.s 27)) 14 true), (oDg 29 (.bin .neq (.s 21) (.s 28)) 14 true), (oDg 30 (.faddr 4 (.s 4)) 14 true), (oDg 31 (.load 1 false (.s 30)) 14 true), (oDg 32 (.eq .b true (.s 29) (.s 31)) 14 true), (oD 33 (.pick (.s 14) (.s 32) (.c (.bool false)))), (oD 5 (mS 33))]) .ret))
def f99 : Fn := ⟨34, [(.t 5)], c99⟩
/- slices.Clone[[]int,int] -/
def c100 : RCode := (.seq (.ops [(oD 2 (.mv (.c .nilslice)))]) (.seq (.seq (.ops [(oD 3 (mS 0)), (oD 4 (.eq .sl false (.s 3) (.c .nilslice)))]) (.cond (.s 4) (.seq (.ops [(oD 2 (.mv (.c .nilslice)))]) .ret) .skip)) (.frz [999999999, 0] (.seq (.ops [(oD 5 (.bslice 1 0 [(vI 0)] [])), (oD 6 (mS 0)), (oD 7 (.append 1 8 [(vI 0)] (.s 5) (.s 6))), (oD 2 (mS 7))]) .ret))))
def f100 : Fn := ⟨8, [(.t 2)], c100⟩
/- slices.Reverse[[]int,int] -/
def c101l0 : RCode := (.seq (.seq (.ops [(oD 7 (mS 2)), (oD 8 (mS 3)), (oD 9 (.bin .lss (.s 7) (.s 8)))]) (.cond (.s 9) .skip (.exit 0))) (.seq (.block 1 (.draw [0, 0, 0, 0, 0, 0, 48, 112, 0, 0, 768, 1792, 4083, 8179, 16383, 32767] [(oD 14 (mS 0)), (oD 15 (mS 2)), (oD 16 (mS 0)), (oD 17 (mS 3)), (oD 18 (mS 0)), (oD 19 (mS 3)), (oD 20 (.iaddr 1 none (.s 18) (.s 19))), (oD 21 (.load 1 false (.s 20))), (oD 22 (mS 0)), (oD 23 (mS 2)), (oD 24 (.iaddr 1 none (.s 22) (.s 23))), (oD 25 (.load 1 false (.s 24))), (oD 26 (.iaddr 1 none (.s 14) (.s 15))), (oN (.store 1 (.s 26) (.s 21))), (oD 27 (.iaddr 1 none (.s 16) (.s 17))), (oN (.store 1 (.s 27) (.s 25)))])) (.ops [(oD 10 (mS 2)), (oD 11 (.bin .add (.s 10) (kI 1))), (oD 12 (mS 3)), (oD 13 (.bin .sub (.s 12) (kI 1))), (oD 2 (mS 11)), (oD 3 (mS 13))])))
def c101 : RCode := (.seq (.ops [(oD 4 (mS 0)), (oD 5 (.len .sl (.s 4))), (oD 6 (.bin .sub (.s 5) (kI 1))), (oD 2 (.mv (kI 0))), (oD 3 (mS 6))]) (.block 0 (.loop [0, 2, 3] c101l0)))
def f101 : Fn := ⟨28, [], c101⟩
/- slices.Concat[[]int,int] -/
def c102l0 : RCode := (.seq (.ops [(oD 12 (.bin .lss (.s 11) (.s 10)))]) (.seq (.cond (.s 12) .skip (.exit 0)) (.frz [999999999, 0, 3, 9, 10, 11] (.seq (.block 1 (.seq (.ops [(oD 13 (.iaddr 1 none (.s 9) (.s 11))), (oD 14 (.load 1 false (.s 13))), (oD 5 (mS 14))]) (.seq (.ops [(oD 15 (mS 3)), (oD 16 (mS 5)), (oD 17 (.len .sl (.s 16))), (oD 18 (.bin .add (.s 15) (.s 17))), (oD 3 (mS 18))]) (.seq (.ops [(oD 19 (mS 3)), (oD 20 (.bin .lss (.s 19) (kI 0)))]) (.cond (.s 20) .dead .skip))))) (.frz [999999999, 0, 3, 9, 10, 11] (.ops [(oD 22 (.bin .add (.s 11) (kI 1))), (oD 11 (mS 22))]))))))
def c102l1 : RCode := (.seq (.ops [(oD 28 (.bin .lss (.s 27) (.s 26)))]) (.seq (.cond (.s 28) .skip (.exit 2)) (.frz [999999999, 6, 25, 26, 27] (.seq (.block 3 (.seq (.ops [(oD 29 (.iaddr 1 none (.s 25) (.s 27))), (oD 30 (.load 1 false (.s 29))), (oD 8 (mS 30))]) (.ops [(oD 31 (mS 6)), (oD 32 (mS 8)), (oD 33 (.append 1 8 [(vI 0)] (.s 31) (.s 32))), (oD 6 (mS 33))]))) (.ops [(oD 34 (.bin .add (.s 27) (kI 1))), (oD 27 (mS 34))])))))
def c102 : RCode := (.seq (.ops [(oD 2 (.mv (.c .nilslice)))]) (.seq (.ops [(oD 3 (.mv (kI 0)))]) (.seq (.seq (.ops [(oD 9 (mS 0)), (oD 10 (.len .sl (.s 9))), (oD 11 (.mv (kI 0)))]) (.block 0 (.loop [0, 3, 9, 10, 11] c102l0))) (.frz [999999999, 0, 3] (.seq (.ops [(oD 23 (mS 3)), (iD 24 (.call 124 [(.c .nilslice), (.s 23)])), (oD 6 (mS 24))]) (.seq (.seq (.ops [(oD 25 (mS 0)), (oD 26 (.len .sl (.s 25))), (oD 27 (.mv (kI 0)))]) (.block 2 (.loop [6, 25, 26, 27] c102l1))) (.frz [999999999, 6] (.seq (.ops [(oD 35 (mS 6)), (oD 2 (mS 35))]) .ret))))))))
def f102 : Fn := ⟨36, [(.t 2)], c102⟩
/- slices.IndexFunc[[]int,int] -/
def c103l0 : RCode := (.seq (.ops [(oD 9 (.bin .lss (.s 8) (.s 7)))]) (.seq (.cond (.s 9) .skip (.exit 0)) (.frz [999999999, 0, 1, 7, 8] (.seq (.block 1 (.seq (.ops [(oD 10 (mS 8)), (oD 5 (mS 10))]) (.seq (.ops [(oD 11 (mS 1)), (oD 12 (mS 0)), (oD 13 (mS 5)), (oD 14 (.iaddr 1 none (.s 12) (.s 13))), (oD 15 (.load 1 false (.s 14))), (iD 16 (.callv (.s 11) [(.s 15)]))]) (.cond (.s 16) (.seq (.ops [(oD 17 (mS 5)), (oD 4 (mS 17))]) .ret) .skip)))) (.frz [999999999, 0, 1, 7, 8] (.ops [(oD 18 (.bin .add (.s 8) (kI 1))), (oD 8 (mS 18))]))))))
def c103 : RCode := (.seq (.ops [(oD 4 (.mv (kI 0)))]) (.seq (.seq (.ops [(oD 6 (mS 0)), (oD 7 (.len .sl (.s 6))), (oD 8 (.mv (kI 0)))]) (.block 0 (.loop [0, 1, 7, 8] c103l0))) (.frz [999999999] (.seq (.ops [(oD 4 (.mv (kI (-1))))]) .ret))))
def f103 : Fn := ⟨19, [(.t 4)], c103⟩
/- slices.ContainsFunc[[]codend/trawl.Panel,codend/trawl.Panel] -/
def c106 : RCode := (.seq (.ops [(oD 4 (.mv (.c (.bool false))))]) (.seq (.ops [(oD 5 (mS 0)), (oD 6 (mS 1)), (iD 7 (.call 125 [(.s 5), (.s 6)])), (oD 8 (.bin .geq (.s 7) (kI 0))), (oD 4 (mS 8))]) .ret))
def f106 : Fn := ⟨9, [(.t 4)], c106⟩
/- codend/trawl.checkPanels$1 -/
def c107 : RCode := (.seq (.ops [(oD 2 (.box (.s 0))), (oD 3 (.mv (.c (.bool false))))]) (.seq (.ops [(oD 4 (.faddr 0 (.s 2))), (oD 5 (.load 1 false (.s 4))), (oD 6 (.faddr 0 (.s 1))), (oD 7 (.load 1 false (.s 6))), (oD 8 (.bin .eql (.s 5) (.s 7))), (oD 3 (mS 8))]) .ret))
def f107 : Fn := ⟨9, [(.t 3)], c107⟩
/- (codend/trawl.Trawl).levels$1 -/
def c111 : RCode := (.seq (.ops [(oD 3 (.box (.s 0))), (oD 4 (.alloc [(vI 0), (vI 0)]))]) (.seq (.ops [(oD 6 (.load 2 true (.s 1))), (oD 7 (.load 2 true (.s 3))), (iD 8 (.call 90 [(.s 6), (.s 7)])), (oD 5 (.alloc [(vI 0), (vI 0), (vI 0), (vI 0)])), (oN (.store 4 (.s 5) (.s 8)))]) (.seq (.draw [0, 0, 2, 7, 0, 0, 32, 112, 255, 511] [(oD 9 (.load 1 false (.s 2))), (oD 10 (.iaddr 2 (some 2) (.s 5) (kI 0))), (oD 11 (.load 2 true (.s 10))), (oD 12 (.lookup [.i, .i] (vI 0) false (.s 9) (.s 11))), (oD 13 (.load 1 false (.s 2))), (oD 14 (.iaddr 2 (some 2) (.s 5) (kI 1))), (oD 15 (.load 2 true (.s 14))), (oD 16 (.lookup [.i, .i] (vI 0) false (.s 13) (.s 15))), (oD 17 (.build [(vI 0), (vI 0)] [(0, (1, (.s 12))), (1, (1, (.s 16)))])), (oN (.store 2 (.s 4) (.s 17)))]) .ret)))
def f111 : Fn := ⟨18, [(.cell 4 2 true)], c111⟩
/- slices.Clone[[]codend/trawl.Step,codend/trawl.Step] -/
def c112 : RCode := (.seq (.ops [(oD 2 (.mv (.c .nilslice)))]) (.seq (.seq (.ops [(oD 3 (mS 0)), (oD 4 (.eq .sl false (.s 3) (.c .nilslice)))]) (.cond (.s 4) (.seq (.ops [(oD 2 (.mv (.c .nilslice)))]) .ret) .skip)) (.frz [999999999, 0] (.seq (.ops [(oD 5 (.bslice 3 0 [(vI 0), (vI 0), (.bool false)] [])), (oD 6 (mS 0)), (oD 7 (.append 3 24 [(vI 0), (vI 0), (.bool false)] (.s 5) (.s 6))), (oD 2 (mS 7))]) .ret))))
def f112 : Fn := ⟨8, [(.t 2)], c112⟩
/- codend/trawl.mapped[codend/trawl.Step,codend/trawl.Step] -/
def c113l0 : RCode := (.seq (.ops [(oD 14 (.bin .lss (.s 13) (.s 12)))]) (.seq (.cond (.s 14) .skip (.exit 0)) (.frz [999999999, 1, 5, 11, 12, 13] (.seq (.block 1 (.seq (.ops [(oD 15 (.iaddr 3 none (.s 11) (.s 13))), (oD 16 (.load 3 true (.s 15))), (oD 7 (.alloc [(vI 0), (vI 0), (.bool false)])), (oN (.store 3 (.s 7) (.s 16)))]) (.ops [(oD 17 (mS 5)), (oD 18 (mS 1)), (oD 19 (.load 3 true (.s 7))), (iD 20 (.callv (.s 18) [(.s 19)])), (oD 21 (.fslice 3 1 [(vI 0), (vI 0), (.bool false)] [(0, (.s 20))])), (oD 22 (.append 3 24 [(vI 0), (vI 0), (.bool false)] (.s 17) (.s 21))), (oD 5 (mS 22))]))) (.ops [(oD 23 (.bin .add (.s 13) (kI 1))), (oD 13 (mS 23))])))))
def c113 : RCode := (.seq (.ops [(oD 4 (.mv (.c .nilslice)))]) (.seq (.ops [(oD 8 (mS 0)), (oD 9 (.len .sl (.s 8))), (oD 10 (.mkslice 3 24 [(vI 0), (vI 0), (.bool false)] (kI 0) (.s 9))), (oD 5 (mS 10))]) (.seq (.seq (.ops [(oD 11 (mS 0)), (oD 12 (.len .sl (.s 11))), (oD 13 (.mv (kI 0)))]) (.block 0 (.loop [1, 5, 11, 12, 13] c113l0))) (.frz [999999999, 5] (.seq (.ops [(oD 24 (mS 5)), (oD 4 (mS 24))]) .ret)))))
def f113 : Fn := ⟨25, [(.t 4)], c113⟩
/- (codend/trawl.Trawl).levels$2 -/
def c114 : RCode := (.seq (.ops [(oD 1 (.box (.s 0))), (oD 2 (.alloc [(vI 0), (vI 0), (.bool false)]))]) (.seq (.ops [(oD 3 (.faddr 0 (.s 1))), (oD 4 (.load 2 true (.s 3))), (oD 5 (.faddr 2 (.s 1))), (oD 6 (.load 1 false (.s 5))), (oD 7 (.un .not (.s 6))), (oD 8 (.build [(vI 0), (vI 0), (.bool false)] [(0, (2, (.s 4))), (2, (1, (.s 7)))])), (oN (.store 3 (.s 2) (.s 8)))]) .ret))
def f114 : Fn := ⟨9, [(.cell 2 3 true)], c114⟩
/- slices.Reverse[[]codend/trawl.Step,codend/trawl.Step] -/
def c115l0 : RCode := (.seq (.seq (.ops [(oD 7 (mS 2)), (oD 8 (mS 3)), (oD 9 (.bin .lss (.s 7) (.s 8)))]) (.cond (.s 9) .skip (.exit 0))) (.seq (.block 1 (.draw [0, 0, 0, 0, 0, 0, 48, 112, 0, 0, 768, 1792, 4083, 8179, 16383, 32767] [(oD 14 (mS 0)), (oD 15 (mS 2)), (oD 16 (mS 0)), (oD 17 (mS 3)), (oD 18 (mS 0)), (oD 19 (mS 3)), (oD 20 (.iaddr 3 none (.s 18) (.s 19))), (oD 21 (.load 3 true (.s 20))), (oD 22 (mS 0)), (oD 23 (mS 2)), (oD 24 (.iaddr 3 none (.s 22) (.s 23))), (oD 25 (.load 3 true (.s 24))), (oD 26 (.iaddr 3 none (.s 14) (.s 15))), (oN (.store 3 (.s 26) (.s 21))), (oD 27 (.iaddr 3 none (.s 16) (.s 17))), (oN (.store 3 (.s 27) (.s 25)))])) (.ops [(oD 10 (mS 2)), (oD 11 (.bin .add (.s 10) (kI 1))), (oD 12 (mS 3)), (oD 13 (.bin .sub (.s 12) (kI 1))), (oD 2 (mS 11)), (oD 3 (mS 13))])))
def c115 : RCode := (.seq (.ops [(oD 4 (mS 0)), (oD 5 (.len .sl (.s 4))), (oD 6 (.bin .sub (.s 5) (kI 1))), (oD 2 (.mv (kI 0))), (oD 3 (mS 6))]) (.block 0 (.loop [0, 2, 3] c115l0)))
def f115 : Fn := ⟨28, [], c115⟩
/- slices.Concat[[]codend/trawl.Step,codend/trawl.Step] -/
def c116l0 : RCode := (.seq (.ops [(oD 12 (.bin .lss (.s 11) (.s 10)))]) (.seq (.cond (.s 12) .skip (.exit 0)) (.frz [999999999, 0, 3, 9, 10, 11] (.seq (.block 1 (.seq (.ops [(oD 13 (.iaddr 1 none (.s 9) (.s 11))), (oD 14 (.load 1 false (.s 13))), (oD 5 (mS 14))]) (.seq (.ops [(oD 15 (mS 3)), (oD 16 (mS 5)), (oD 17 (.len .sl (.s 16))), (oD 18 (.bin .add (.s 15) (.s 17))), (oD 3 (mS 18))]) (.seq (.ops [(oD 19 (mS 3)), (oD 20 (.bin .lss (.s 19) (kI 0)))]) (.cond (.s 20) .dead .skip))))) (.frz [999999999, 0, 3, 9, 10, 11] (.ops [(oD 22 (.bin .add (.s 11) (kI 1))), (oD 11 (mS 22))]))))))
def c116l1 : RCode := (.seq (.ops [(oD 28 (.bin .lss (.s 27) (.s 26)))]) (.seq (.cond (.s 28) .skip (.exit 2)) (.frz [999999999, 6, 25, 26, 27] (.seq (.block 3 (.seq (.ops [(oD 29 (.iaddr 1 none (.s 25) (.s 27))), (oD 30 (.load 1 false (.s 29))), (oD 8 (mS 30))]) (.ops [(oD 31 (mS 6)), (oD 32 (mS 8)), (oD 33 (.append 3 24 [(vI 0), (vI 0), (.bool false)] (.s 31) (.s 32))), (oD 6 (mS 33))]))) (.ops [(oD 34 (.bin .add (.s 27) (kI 1))), (oD 27 (mS 34))])))))
def c116 : RCode := (.seq (.ops [(oD 2 (.mv (.c .nilslice)))]) (.seq (.ops [(oD 3 (.mv (kI 0)))]) (.seq (.seq (.ops [(oD 9 (mS 0)), (oD 10 (.len .sl (.s 9))), (oD 11 (.mv (kI 0)))]) (.block 0 (.loop [0, 3, 9, 10, 11] c116l0))) (.frz [999999999, 0, 3] (.seq (.ops [(oD 23 (mS 3)), (iD 24 (.call 126 [(.c .nilslice), (.s 23)])), (oD 6 (mS 24))]) (.seq (.seq (.ops [(oD 25 (mS 0)), (oD 26 (.len .sl (.s 25))), (oD 27 (.mv (kI 0)))]) (.block 2 (.loop [6, 25, 26, 27] c116l1))) (.frz [999999999, 6] (.seq (.ops [(oD 35 (mS 6)), (oD 2 (mS 35))]) .ret))))))))
def f116 : Fn := ⟨36, [(.t 2)], c116⟩
/- (codend/trawl.Trawl).joined -/
def c117 : RCode := (.seq (.ops [(oD 2 (.box (.s 0))), (oD 3 (.box (.s 1))), (oD 4 (.alloc [(vI 0), (vI 0), (vI 0), (vI 0), (vI 0), (vI 0), (vI 0), (vI 0)]))]) (.seq (.draw [0, 0, 2, 7, 0, 0, 32, 127, 0, 0, 1023, 2047] [(oD 7 (.load 2 true (.s 2))), (oD 8 (.faddr 0 (.s 3))), (oD 9 (.load 2 true (.s 8))), (iD 10 (.call 90 [(.s 7), (.s 9)])), (oD 11 (.load 2 true (.s 2))), (oD 12 (.faddr 2 (.s 3))), (oD 13 (.load 2 true (.s 12))), (iD 14 (.call 90 [(.s 11), (.s 13)])), (oD 5 (.alloc [(vI 0), (vI 0), (vI 0), (vI 0)])), (oD 6 (.alloc [(vI 0), (vI 0), (vI 0), (vI 0)])), (oN (.store 4 (.s 5) (.s 10))), (oN (.store 4 (.s 6) (.s 14)))]) (.frz [999999999, 3, 4, 5, 6] (.seq (.seq (.ops [(oD 15 (.faddr 4 (.s 3))), (oD 16 (.load 1 false (.s 15))), (oD 17 (.un .not (.s 16)))]) (.cond (.s 17) (.ops [(oD 18 (.iaddr 2 (some 2) (.s 6) (kI 1))), (oD 19 (.load 2 true (.s 18))), (oD 20 (.iaddr 2 (some 2) (.s 6) (kI 0))), (oD 21 (.load 2 true (.s 20))), (oD 22 (.iaddr 2 (some 2) (.s 6) (kI 0))), (oN (.store 2 (.s 22) (.s 19))), (oD 23 (.iaddr 2 (some 2) (.s 6) (kI 1))), (oN (.store 2 (.s 23) (.s 21)))]) .skip)) (.frz [999999999, 4, 5, 6] (.seq (.ops [(oD 24 (.iaddr 2 (some 2) (.s 5) (kI 0))), (oD 25 (.load 2 true (.s 24))), (oD 26 (.iaddr 2 (some 2) (.s 6) (kI 0))), (oD 27 (.load 2 true (.s 26))), (oD 28 (.build [(vI 0), (vI 0), (vI 0), (vI 0)] [(0, (2, (.s 25))), (2, (2, (.s 27)))])), (oD 29 (.iaddr 2 (some 2) (.s 5) (kI 1))), (oD 30 (.load 2 true (.s 29))), (oD 31 (.iaddr 2 (some 2) (.s 6) (kI 1))), (oD 32 (.load 2 true (.s 31))), (oD 33 (.build [(vI 0), (vI 0), (vI 0), (vI 0)] [(0, (2, (.s 30))), (2, (2, (.s 32)))])), (oD 34 (.build [(vI 0), (vI 0), (vI 0), (vI 0), (vI 0), (vI 0), (vI 0), (vI 0)] [(0, (4, (.s 28))), (4, (4, (.s 33)))])), (oN (.store 8 (.s 4) (.s 34)))]) .ret))))))
def f117 : Fn := ⟨35, [(.cell 4 8 true)], c117⟩
/- codend/trawl.united[codend/trawl.End] -/
def c118l0 : RCode := (.seq (.ops [(oD 25 (.bin .lss (.s 24) (.s 23)))]) (.seq (.cond (.s 25) .skip (.exit 0)) (.frz [999999999, 0, 1, 5, 22, 23, 24] (.seq (.block 1 (.seq (.ops [(oD 26 (mS 24)), (oD 27 (.iaddr 2 none (.s 22) (.s 24))), (oD 28 (.load 2 true (.s 27))), (oD 7 (.alloc [(vI 0), (vI 0)])), (oD 6 (mS 26)), (oN (.store 2 (.s 7) (.s 28)))]) (.ops [(oD 29 (mS 5)), (oD 30 (.load 2 true (.s 7))), (oD 31 (mS 6)), (oN (.mapset [.i, .i] (.s 29) (.s 30) (.s 31)))]))) (.ops [(oD 32 (.bin .add (.s 24) (kI 1))), (oD 24 (mS 32))])))))
def c118l1 : RCode := (.seq (.ops [(oD 49 (.mnx (.s 48))), (oD 50 (.extract 0 (.s 49)))]) (.seq (.cond (.s 50) .skip (.exit 4)) (.block 5 (.seq (.ops [(oD 51 (.ment (.s 48))), (oD 52 (.extract 0 (.s 51))), (oD 53 (.extract 1 (.s 51))), (oD 12 (.alloc [(vI 0), (vI 0)])), (oN (.store 2 (.s 12) (.s 52))), (oD 13 (mS 53))]) (.seq (.ops [(oD 54 (mS 13)), (oD 55 (mS 10)), (oD 56 (mS 11)), (oD 57 (.minmax true [(.s 55), (.s 56)])), (oD 58 (.bin .eql (.s 54) (.s 57)))]) (.cond (.s 58) (.ops [(oD 59 (mS 5)), (oD 60 (.load 2 true (.s 12))), (oD 61 (mS 10)), (oD 62 (mS 11)), (oD 63 (.minmax false [(.s 61), (.s 62)])), (oN (.mapset [.i, .i] (.s 59) (.s 60) (.s 63)))]) .skip))))))
def c118l2 : RCode := (.seq (.ops [(oD 36 (.bin .lss (.s 35) (.s 34)))]) (.seq (.cond (.s 36) .skip (.exit 2)) (.frz [999999999, 0, 5, 33, 34, 35] (.seq (.block 3 (.seq (.ops [(oD 37 (.iaddr 4 none (.s 33) (.s 35))), (oD 38 (.load 4 true (.s 37))), (oD 9 (.alloc [(vI 0), (vI 0), (vI 0), (vI 0)])), (oN (.store 4 (.s 9) (.s 38)))]) (.seq (.draw [0, 0, 2, 7, 0, 0, 32, 112, 15, 511] [(oD 39 (mS 5)), (oD 40 (.iaddr 2 (some 2) (.s 9) (kI 0))), (oD 41 (.load 2 true (.s 40))), (oD 42 (.lookup [.i, .i] (vI 0) false (.s 39) (.s 41))), (oD 43 (mS 5)), (oD 44 (.iaddr 2 (some 2) (.s 9) (kI 1))), (oD 45 (.load 2 true (.s 44))), (oD 46 (.lookup [.i, .i] (vI 0) false (.s 43) (.s 45))), (oD 10 (mS 42)), (oD 11 (mS 46))]) (.frz [999999999, 0, 5, 10, 11, 33, 34, 35] (.hand 118048 (.seq (.ops [(oD 47 (mS 5)), (oD 48 (.mrg (.s 47)))]) (.block 4 (.loop [0, 5, 10, 11, 33, 34, 35, 48] c118l1)))))))) (.frz [999999999, 0, 5, 33, 34, 35] (.ops [(oD 64 (.bin .add (.s 35) (kI 1))), (oD 35 (mS 64))]))))))
def c118l3 : RCode := (.seq (.ops [(oD 69 (.bin .lss (.s 68) (.s 67)))]) (.seq (.cond (.s 69) .skip (.exit 6)) (.frz [999999999, 5, 14, 66, 67, 68] (.seq (.block 7 (.seq (.ops [(oD 70 (.iaddr 2 none (.s 66) (.s 68))), (oD 71 (.load 2 true (.s 70))), (oD 16 (.alloc [(vI 0), (vI 0)])), (oN (.store 2 (.s 16) (.s 71)))]) (.seq (.ops [(oD 73 (mS 14)), (oD 74 (mS 5)), (oD 75 (.load 2 true (.s 16))), (oD 76 (.lookup [.i, .i] (vI 0) false (.s 74) (.s 75))), (oD 77 (.lookup [.i] (vI 0) true (.s 73) (.s 76))), (oD 72 (mS 77)), (oD 78 (.extract 0 (.s 72))), (oD 79 (.extract 1 (.s 72))), (oD 17 (mS 78)), (oD 18 (mS 79))]) (.frz [999999999, 5, 14, 16, 18, 66, 67, 68] (.seq (.ops [(oD 80 (mS 18)), (oD 81 (.un .not (.s 80)))]) (.cond (.s 81) (.draw [0, 0, 0, 6, 0, 16, 63] [(oD 82 (mS 14)), (oD 83 (mS 5)), (oD 84 (.load 2 true (.s 16))), (oD 85 (.lookup [.i, .i] (vI 0) false (.s 83) (.s 84))), (oD 86 (mS 14)), (oD 87 (.len .mp (.s 86))), (oN (.mapset [.i] (.s 82) (.s 85) (.s 87)))]) .skip)))))) (.frz [999999999, 5, 14, 66, 67, 68] (.ops [(oD 88 (.bin .add (.s 68) (kI 1))), (oD 68 (mS 88))]))))))
def c118l4 : RCode := (.seq (.ops [(oD 91 (.mnx (.s 90))), (oD 92 (.extract 0 (.s 91)))]) (.seq (.cond (.s 92) .skip (.exit 8)) (.block 9 (.seq (.ops [(oD 93 (.ment (.s 90))), (oD 94 (.extract 0 (.s 93))), (oD 95 (.extract 1 (.s 93))), (oD 19 (.alloc [(vI 0), (vI 0)])), (oN (.store 2 (.s 19) (.s 94))), (oD 20 (mS 95))]) (.ops [(oD 96 (mS 5)), (oD 97 (.load 2 true (.s 19))), (oD 98 (mS 14)), (oD 99 (mS 20)), (oD 100 (.lookup [.i] (vI 0) false (.s 98) (.s 99))), (oN (.mapset [.i, .i] (.s 96) (.s 97) (.s 100)))])))))
def c118 : RCode := (.seq (.ops [(oD 4 (.mv (.c .nilmap)))]) (.seq (.ops [(oD 21 .mkmap), (oD 5 (mS 21))]) (.seq (.seq (.ops [(oD 22 (mS 0)), (oD 23 (.len .sl (.s 22))), (oD 24 (.mv (kI 0)))]) (.block 0 (.loop [0, 1, 5, 22, 23, 24] c118l0))) (.frz [999999999, 0, 1, 5] (.seq (.seq (.ops [(oD 33 (mS 1)), (oD 34 (.len .sl (.s 33))), (oD 35 (.mv (kI 0)))]) (.block 2 (.loop [0, 5, 33, 34, 35] c118l2))) (.frz [999999999, 0, 5] (.seq (.ops [(oD 65 .mkmap), (oD 14 (mS 65))]) (.seq (.seq (.ops [(oD 66 (mS 0)), (oD 67 (.len .sl (.s 66))), (oD 68 (.mv (kI 0)))]) (.block 6 (.loop [5, 14, 66, 67, 68] c118l3))) (.frz [999999999, 5, 14] (.seq (.hand 118090 (.seq (.ops [(oD 89 (mS 5)), (oD 90 (.mrg (.s 89)))]) (.block 8 (.loop [5, 14, 90] c118l4)))) (.frz [999999999, 5] (.seq (.ops [(oD 101 (mS 5)), (oD 4 (mS 101))]) .ret))))))))))))
def f118 : Fn := ⟨102, [(.t 4)], c118⟩
/- slices.Collect[codend/trawl.End] -/
def c119 : RCode := (.seq (.ops [(oD 2 (.mv (.c .nilslice)))]) (.seq (.ops [(oD 3 (mS 0)), (iD 4 (.call 127 [(.c .nilslice), (.s 3)])), (oD 2 (mS 4))]) .ret))
def f119 : Fn := ⟨5, [(.t 2)], c119⟩
/- (codend/trawl.Trawl).sides$1 -/
def c120l0 : RCode := (.seq (.ops [(oD 19 (.bin .lss (.s 18) (.s 17)))]) (.seq (.cond (.s 19) .skip (.exit 2)) (.seq (.block 3 (.seq (.ops [(oD 20 (mS 18)), (oD 4 (mS 20))]) (.seq (.ops [(oD 21 (mS 0)), (oD 22 (mS 3)), (oD 23 (mS 4)), (oD 24 (.build [(vI 0), (vI 0)] [(0, (1, (.s 22))), (1, (1, (.s 23)))])), (iD 25 (.callv (.s 21) [(.s 24)])), (oD 26 (.un .not (.s 25)))]) (.cond (.s 26) .ret .skip)))) (.ops [(oD 27 (.bin .add (.s 18) (kI 1))), (oD 18 (mS 27))]))))
def c120l1 : RCode := (.seq (.ops [(oD 9 (.bin .lss (.s 8) (.s 7)))]) (.seq (.cond (.s 9) .skip (.exit 0)) (.seq (.block 1 (.seq (.ops [(oD 10 (mS 8)), (oD 3 (mS 10))]) (.seq (.ops [(oD 11 (.faddr 0 (.s 1))), (oD 12 (.load 1 false (.s 11))), (oD 13 (mS 3)), (oD 14 (.iaddr 2 none (.s 12) (.s 13))), (oD 15 (.faddr 1 (.s 14))), (oD 16 (.load 1 false (.s 15))), (oD 17 (.len .sl (.s 16))), (oD 18 (.mv (kI 0)))]) (.block 2 (.loop [0, 1, 3, 7, 8, 17, 18] c120l0))))) (.ops [(oD 28 (.bin .add (.s 8) (kI 1))), (oD 8 (mS 28))]))))
def c120 : RCode := (.seq (.ops [(oD 5 (.faddr 0 (.s 1))), (oD 6 (.load 1 false (.s 5))), (oD 7 (.len .sl (.s 6))), (oD 8 (.mv (kI 0)))]) (.block 0 (.loop [0, 1, 7, 8] c120l1)))
def f120 : Fn := ⟨29, [], c120⟩
/- slices.IndexFunc[[]codend/trawl.Step,codend/trawl.Step] -/
def c121l0 : RCode := (.seq (.ops [(oD 9 (.bin .lss (.s 8) (.s 7)))]) (.seq (.cond (.s 9) .skip (.exit 0)) (.frz [999999999, 0, 1, 7, 8] (.seq (.block 1 (.seq (.ops [(oD 10 (mS 8)), (oD 5 (mS 10))]) (.seq (.ops [(oD 11 (mS 1)), (oD 12 (mS 0)), (oD 13 (mS 5)), (oD 14 (.iaddr 3 none (.s 12) (.s 13))), (oD 15 (.load 3 true (.s 14))), (iD 16 (.callv (.s 11) [(.s 15)]))]) (.cond (.s 16) (.seq (.ops [(oD 17 (mS 5)), (oD 4 (mS 17))]) .ret) .skip)))) (.frz [999999999, 0, 1, 7, 8] (.ops [(oD 18 (.bin .add (.s 8) (kI 1))), (oD 8 (mS 18))]))))))
def c121 : RCode := (.seq (.ops [(oD 4 (.mv (kI 0)))]) (.seq (.seq (.ops [(oD 6 (mS 0)), (oD 7 (.len .sl (.s 6))), (oD 8 (.mv (kI 0)))]) (.block 0 (.loop [0, 1, 7, 8] c121l0))) (.frz [999999999] (.seq (.ops [(oD 4 (.mv (kI (-1))))]) .ret))))
def f121 : Fn := ⟨19, [(.t 4)], c121⟩
/- (codend/trawl.Trawl).other -/
def c122 : RCode := (.seq (.ops [(oD 3 (.box (.s 0))), (oD 4 (.box (.s 1))), (oD 5 (.box (.s 2))), (oD 6 (.alloc [(vI 0), (vI 0)]))]) (.seq (.ops [(oD 8 (.faddr 0 (.s 3))), (oD 9 (.load 1 false (.s 8))), (oD 10 (.faddr 0 (.s 4))), (oD 11 (.load 1 false (.s 10))), (oD 12 (.iaddr 2 none (.s 9) (.s 11))), (oD 13 (.faddr 1 (.s 12))), (oD 14 (.load 1 false (.s 13))), (oD 15 (.len .sl (.s 14))), (oD 7 (mS 15))]) (.frz [999999999, 4, 5, 6, 7] (.seq (.seq (.ops [(oD 16 (.faddr 1 (.s 4))), (oD 17 (.load 1 false (.s 16))), (oD 18 (.faddr 1 (.s 5))), (oD 19 (.load 1 false (.s 18))), (oD 20 (.bin .eql (.s 17) (.s 19)))]) (.cond (.s 20) (.seq (.draw [0, 1, 0, 4, 0, 28, 60, 0, 252, 511, 1023] [(oD 21 (.faddr 0 (.s 4))), (oD 22 (.load 1 false (.s 21))), (oD 23 (.faddr 1 (.s 4))), (oD 24 (.load 1 false (.s 23))), (oD 25 (mS 7)), (oD 26 (.bin .add (.s 24) (.s 25))), (oD 27 (.bin .sub (.s 26) (kI 1))), (oD 28 (mS 7)), (oD 29 (.bin .rem (.s 27) (.s 28))), (oD 30 (.build [(vI 0), (vI 0)] [(0, (1, (.s 22))), (1, (1, (.s 29)))])), (oN (.store 2 (.s 6) (.s 30)))]) .ret) .skip)) (.frz [999999999, 4, 5, 6] (.seq (.ops [(oD 31 (.faddr 0 (.s 4))), (oD 32 (.load 1 false (.s 31))), (oD 33 (.faddr 1 (.s 5))), (oD 34 (.load 1 false (.s 33))), (oD 35 (.build [(vI 0), (vI 0)] [(0, (1, (.s 32))), (1, (1, (.s 34)))])), (oN (.store 2 (.s 6) (.s 35)))]) .ret))))))
def f122 : Fn := ⟨36, [(.cell 6 2 true)], c122⟩
/- slices.IndexFunc[[]codend/trawl.Seam,codend/trawl.Seam] -/
def c123l0 : RCode := (.seq (.ops [(oD 9 (.bin .lss (.s 8) (.s 7)))]) (.seq (.cond (.s 9) .skip (.exit 0)) (.frz [999999999, 0, 1, 7, 8] (.seq (.block 1 (.seq (.ops [(oD 10 (mS 8)), (oD 5 (mS 10))]) (.seq (.ops [(oD 11 (mS 1)), (oD 12 (mS 0)), (oD 13 (mS 5)), (oD 14 (.iaddr 5 none (.s 12) (.s 13))), (oD 15 (.load 5 true (.s 14))), (iD 16 (.callv (.s 11) [(.s 15)]))]) (.cond (.s 16) (.seq (.ops [(oD 17 (mS 5)), (oD 4 (mS 17))]) .ret) .skip)))) (.frz [999999999, 0, 1, 7, 8] (.ops [(oD 18 (.bin .add (.s 8) (kI 1))), (oD 8 (mS 18))]))))))
def c123 : RCode := (.seq (.ops [(oD 4 (.mv (kI 0)))]) (.seq (.seq (.ops [(oD 6 (mS 0)), (oD 7 (.len .sl (.s 6))), (oD 8 (.mv (kI 0)))]) (.block 0 (.loop [0, 1, 7, 8] c123l0))) (.frz [999999999] (.seq (.ops [(oD 4 (.mv (kI (-1))))]) .ret))))
def f123 : Fn := ⟨19, [(.t 4)], c123⟩
/- slices.Grow[[]int,int] -/
def c124 : RCode := (.seq (.ops [(oD 4 (.mv (.c .nilslice)))]) (.seq (.seq (.ops [(oD 5 (mS 1)), (oD 6 (.bin .lss (.s 5) (kI 0)))]) (.cond (.s 6) .dead .skip)) (.frz [999999999, 0, 1] (.seq (.seq (.ops [(oD 8 (mS 1)), (oD 9 (mS 0)), (oD 10 (.cap (.s 9))), (oD 11 (mS 0)), (oD 12 (.len .sl (.s 11))), (oD 13 (.bin .sub (.s 10) (.s 12))), (oD 14 (.bin .sub (.s 8) (.s 13))), (oD 1 (mS 14))]) (.frz [999999999, 0, 1] (.seq (.ops [(oD 15 (mS 1)), (oD 16 (.bin .gtr (.s 15) (kI 0)))]) (.cond (.s 16) (.ops [(oD 17 (mS 0)), (oD 18 (mS 0)), (oD 19 (.cap (.s 18))), (oD 20 (.slc 1 (.s 17) none (some (.s 19)))), (oD 21 (mS 1)), (oD 22 (.appz 1 8 [(vI 0)] (.s 20) (.s 21))), (oD 23 (mS 0)), (oD 24 (.len .sl (.s 23))), (oD 25 (.slc 1 (.s 22) none (some (.s 24)))), (oD 0 (mS 25))]) .skip)))) (.frz [999999999, 0] (.seq (.ops [(oD 26 (mS 0)), (oD 4 (mS 26))]) .ret))))))
def f124 : Fn := ⟨27, [(.t 4)], c124⟩
/- slices.IndexFunc[[]codend/trawl.Panel,codend/trawl.Panel] -/
def c125l0 : RCode := (.seq (.ops [(oD 9 (.bin .lss (.s 8) (.s 7)))]) (.seq (.cond (.s 9) .skip (.exit 0)) (.frz [999999999, 0, 1, 7, 8] (.seq (.block 1 (.seq (.ops [(oD 10 (mS 8)), (oD 5 (mS 10))]) (.seq (.ops [(oD 11 (mS 1)), (oD 12 (mS 0)), (oD 13 (mS 5)), (oD 14 (.iaddr 2 none (.s 12) (.s 13))), (oD 15 (.load 2 true (.s 14))), (iD 16 (.callv (.s 11) [(.s 15)]))]) (.cond (.s 16) (.seq (.ops [(oD 17 (mS 5)), (oD 4 (mS 17))]) .ret) .skip)))) (.frz [999999999, 0, 1, 7, 8] (.ops [(oD 18 (.bin .add (.s 8) (kI 1))), (oD 8 (mS 18))]))))))
def c125 : RCode := (.seq (.ops [(oD 4 (.mv (kI 0)))]) (.seq (.seq (.ops [(oD 6 (mS 0)), (oD 7 (.len .sl (.s 6))), (oD 8 (.mv (kI 0)))]) (.block 0 (.loop [0, 1, 7, 8] c125l0))) (.frz [999999999] (.seq (.ops [(oD 4 (.mv (kI (-1))))]) .ret))))
def f125 : Fn := ⟨19, [(.t 4)], c125⟩
/- slices.Grow[[]codend/trawl.Step,codend/trawl.Step] -/
def c126 : RCode := (.seq (.ops [(oD 4 (.mv (.c .nilslice)))]) (.seq (.seq (.ops [(oD 5 (mS 1)), (oD 6 (.bin .lss (.s 5) (kI 0)))]) (.cond (.s 6) .dead .skip)) (.frz [999999999, 0, 1] (.seq (.seq (.ops [(oD 8 (mS 1)), (oD 9 (mS 0)), (oD 10 (.cap (.s 9))), (oD 11 (mS 0)), (oD 12 (.len .sl (.s 11))), (oD 13 (.bin .sub (.s 10) (.s 12))), (oD 14 (.bin .sub (.s 8) (.s 13))), (oD 1 (mS 14))]) (.frz [999999999, 0, 1] (.seq (.ops [(oD 15 (mS 1)), (oD 16 (.bin .gtr (.s 15) (kI 0)))]) (.cond (.s 16) (.ops [(oD 17 (mS 0)), (oD 18 (mS 0)), (oD 19 (.cap (.s 18))), (oD 20 (.slc 3 (.s 17) none (some (.s 19)))), (oD 21 (mS 1)), (oD 22 (.appz 3 24 [(vI 0), (vI 0), (.bool false)] (.s 20) (.s 21))), (oD 23 (mS 0)), (oD 24 (.len .sl (.s 23))), (oD 25 (.slc 3 (.s 22) none (some (.s 24)))), (oD 0 (mS 25))]) .skip)))) (.frz [999999999, 0] (.seq (.ops [(oD 26 (mS 0)), (oD 4 (mS 26))]) .ret))))))
def f126 : Fn := ⟨27, [(.t 4)], c126⟩
/- slices.AppendSeq[[]codend/trawl.End,codend/trawl.End] -/
def c127l0 : RCode := (.ops [(oD 5 (.alloc [(vI 0), (vI 0)])), (oN (.store 2 (.s 5) (.s 7)))])
def c127l1 : RCode := (.block 1 (.ops [(oD 8 (.load 1 false (.s 2))), (oD 9 (.load 2 true (.s 5))), (oD 10 (.fslice 2 1 [(vI 0), (vI 0)] [(0, (.s 9))])), (oD 11 (.append 2 16 [(vI 0), (vI 0)] (.s 8) (.s 10))), (oN (.store 1 (.s 2) (.s 11)))]))
def c127 : RCode := (.seq (.ops [(oD 2 (.box (.s 0))), (oD 4 (.mv (.c .nilslice)))]) (.seq (.seq (.ops [(oD 6 (mS 1))]) (.block 0 (.rangeF (.s 6) [7] [2, 4, 6] c127l0 c127l1))) (.frz [999999999, 2] (.seq (.ops [(oD 12 (.load 1 false (.s 2))), (oD 4 (mS 12))]) .ret))))
def f127 : Fn := ⟨13, [(.t 4)], c127⟩
def tbl : List (Nat × Fn) := [(3, f3), (10, f10), (11, f11), (12, f12), (13, f13), (14, f14), (15, f15), (19, f19), (20, f20), (21, f21), (22, f22), (25, f25), (27, f27), (31, f31), (35, f35), (41, f41), (46, f46), (47, f47), (48, f48), (49, f49), (50, f50), (51, f51), (52, f52), (53, f53), (54, f54), (55, f55), (56, f56), (57, f57), (58, f58), (59, f59), (60, f60), (61, f61), (62, f62), (63, f63), (64, f64), (65, f65), (66, f66), (67, f67), (71, f71), (72, f72), (73, f73), (74, f74), (78, f78), (79, f79), (80, f80), (83, f83), (84, f84), (85, f85), (86, f86), (87, f87), (88, f88), (89, f89), (90, f90), (91, f91), (92, f92), (93, f93), (94, f94), (95, f95), (96, f96), (97, f97), (98, f98), (99, f99), (100, f100), (101, f101), (102, f102), (103, f103), (106, f106), (107, f107), (111, f111), (112, f112), (113, f113), (114, f114), (115, f115), (116, f116), (117, f117), (118, f118), (119, f119), (120, f120), (121, f121), (122, f122), (123, f123), (124, f124), (125, f125), (126, f126), (127, f127)]
def T (f : Nat) : Option Fn := lk tbl f
theorem tbl_ok : (tbl.all fun x => fnIs prog x.1 x.2.N x.2.ts x.2.rc && calleeIs prog x.1) = true := by kernel_rfl
theorem T_ok : ∀ f i, T f = some i → fnIs prog f i.N i.ts i.rc = true ∧ calleeIs prog f = true := by
  intro f i h
  have := List.all_eq_true.1 tbl_ok _ (mem_of_lk h)
  simpa using this
def rhoT : Sig → Nat → Ex := fun σ i => match i with
  | 58024 => cloop σ 79 k1
  | 93048 => uloop [.i] false u1
  | 93090 => rloop [.i] false r1
  | 118048 => uloop [.i, .i] true u1
  | 118090 => rloop [.i, .i] true r1
  | _ => fun _ _ => none
def tauT (n : Nat) : SeqSig := fun g caps => match g with
  | 120 => yCall n f120.N f120.rc caps
  | _ => none
def OT (n : Nat) : Ora := ⟨tauT n, itN n, rhoT⟩
theorem hands_are : tbl.flatMap (fun x => handsIn x.2.rc) = [(58024, ccode 79), (93048, mloop 47 5 48 49 50 4 5 lU bU1), (93090, mloop 89 5 90 91 92 8 9 lR bR1), (118048, mloop 47 5 48 49 50 4 5 lU bU2), (118090, mloop 89 5 90 91 92 8 9 lR bR2)] := by kernel_rfl
theorem OT_ok (n : Nat) : OraOK prog (OT n) := by
  refine ⟨?_, itN_ok n⟩
  intro g caps xs h
  simp only [OT, tauT] at h
  split at h
  · obtain ⟨h1, h2⟩ := T_ok 120 f120 rfl
    exact yCall_ok h1 h2 h
  · cases h
theorem hands_ok (n : Nat) : ∀ f i, T f = some i → ∀ σ, SigOK prog σ → HandsOK prog i.N σ (OT n) i.rc := by
  intro f i hT σ hσ
  refine handsIn_ok fun j b hb C e m r h => ?_
  have hmem : (j, b) ∈ tbl.flatMap (fun x => handsIn x.2.rc) := List.mem_flatMap.2 ⟨_, mem_of_lk hT, hb⟩
  rw [hands_are] at hmem
  simp only [List.mem_cons, Prod.mk.injEq, List.not_mem_nil, or_false] at hmem
  rcases hmem with ⟨rfl, rfl⟩ | ⟨rfl, rfl⟩ | ⟨rfl, rfl⟩ | ⟨rfl, rfl⟩ | ⟨rfl, rfl⟩
  · exact cloop_ok hσ h
  · exact uloop_ok1 h
  · exact rloop_ok1 h
  · exact uloop_ok2 h
  · exact rloop_ok2 h
/-- THE PROGRAM, carried out. -/
def R (k n : Nat) : Sig := S T noH noHI (OT n) k
theorem R_ok (k n : Nat) : SigOK prog (R k n) := (S_ok T_ok noH_ok noHI_ok (OT_ok n) (hands_ok n) k).1
end Go.Proofs.Ytnmnijgoggombaa.X
namespace Go.Proofs.Ytnmnijgoggombaa.X
open Go.Proofs.Try
theorem awake_run : R 30 300 10 [] = some (.p (.bool true)) := by kernel_rfl
theorem awake_ok : Ret prog 10 [] (.p (.bool true)) := R_ok 30 300 10 [] _ awake_run
/-- awake, as it came out. -/
def aw : Sig := fun f ps => if f = 10 then (match ps with | [] => some (.p (.bool true)) | _ => none) else none
theorem aw_ok : SigOK prog aw := by
  intro f ps t h
  unfold aw at h
  split at h
  · rename_i hf
    subst hf
    split at h
    · cases h; exact awake_ok
    · cases h
  · cases h
/-- The program, carried out; awake is known. -/
def R1 (k n : Nat) : Sig := S T aw noHI (OT n) k
theorem R1_ok (k n : Nat) : SigOK prog (R1 k n) := (S_ok T_ok aw_ok noHI_ok (OT_ok n) (hands_ok n) k).1
theorem awake_R1 (k n : Nat) : R1 (k + 1) n 10 [] = some (.p (.bool true)) := rfl
end Go.Proofs.Ytnmnijgoggombaa.X
namespace Go.Proofs.Ytnmnijgoggombaa.X
open Go.Proofs.Try
theorem R_eq (k n f : Nat) (ps : List PVal) (i : Fn) (h : T f = some i) (hf : f ≠ 10 := by decide) : R1 (k + 1) n f ps = callF (R1 k n) (SI T aw noHI (OT n) k) (OT n) i.N i.ts i.rc ps := by
  simp only [R1, S, aw, if_neg hf, h]
theorem when_run (k n : Nat) (b : Bool) (e : Int) : R1 (k + 1) n 63 [.bool b, .int .i64 e] = some (.p (.int .i64 (if b then e else 0))) := by
  cases b <;> rfl
end Go.Proofs.Ytnmnijgoggombaa.X
namespace Go.Proofs.Ytnmnijgoggombaa.X
open Go.Proofs.Try
section
variable (σ : Sig) (ι : SigI) (O : Ora) (N : Nat) (e : Env) (m : Mem)
/-- One round of a loop, its state told anew. -/
def LB (live : List Nat) (b : RCode) : Ex := fun e m => match exec σ ι O N b e m with
    | some (.normal, e1, m1) => some (.normal, (canon live e1 m1).1, (canon live e1 m1).2)
    | r => r
@[go_sem] theorem exec_skip : exec σ ι O N .skip e m = some (.normal, e, m) := rfl
@[go_sem] theorem exec_ops (l : List RO) : exec σ ι O N (.ops l) e m = match runS σ ι l e m with | some s => some (.normal, s.1, s.2) | none => none := rfl
@[go_sem] theorem exec_draw (B : List Nat) (l : List RO) : exec σ ι O N (.draw B l) e m = match runD σ l e m with | some s => if indepFrom B [] 0 s.1 = true then some (.normal, s.2.1, s.2.2) else none | none => none := rfl
@[go_sem] theorem exec_seq (a b : RCode) : exec σ ι O N (.seq a b) e m = match exec σ ι O N a e m with | some (.normal, e1, m1) => exec σ ι O N b e1 m1 | r => r := rfl
@[go_sem] theorem exec_cond (c : Arg) (a b : RCode) : exec σ ι O N (.cond c a b) e m = match evA e c with | some (.p (.bool t)) => if t = true then exec σ ι O N a e m else exec σ ι O N b e m | _ => none := rfl
@[go_sem] theorem exec_block (i : Nat) (b : RCode) : exec σ ι O N (.block i b) e m = match exec σ ι O N b e m with | some (.exit j, e1, m1) => if j = i then some (.normal, e1, m1) else some (.exit j, e1, m1) | r => r := rfl
@[go_sem] theorem exec_loop' (live : List Nat) (b : RCode) : exec σ ι O N (.loop live b) e m = O.L (LB σ ι O N live b) (canon live e m).1 (canon live e m).2 := rfl
@[go_sem] theorem exec_scope (b : RCode) : exec σ ι O N (.scope b) e m = exec σ ι O N b e m := rfl
@[go_sem] theorem exec_exit (i : Nat) : exec σ ι O N (.exit i) e m = some (.exit i, e, m) := rfl
@[go_sem] theorem exec_ret : exec σ ι O N .ret e m = some (.ret, e, m) := rfl
@[go_sem] theorem exec_hand (i : Nat) (b : RCode) : exec σ ι O N (.hand i b) e m = O.ρ σ i e m := rfl
@[go_sem] theorem exec_frz (ts : List Nat) (b : RCode) : exec σ ι O N (.frz ts b) e m = match tellF ts e m with | some s => exec σ ι O N b s.1 s.2 | none => none := rfl
end
@[go_sem] theorem OT_L (n : Nat) : (OT n).L = itN n := rfl
attribute [go_sem] eqVal cellsEq cellEq keyEq mapGet mapPut mapIdx strBin moveable putCell putCells fillRows deadRows entriesOf oLookup oMapset oMentry oMestore oAppin oCap oSlc3 oMkslice oAppz oField oAindex oCopy oClear oSlice oSsl oConv oNilchk evB tellF keepE callF runS stepS itemS itemOut callOut aOp ev1 ev2 ev3 evs evA evAs lk upd killEnv frzArgs frzArg frzOf refPl refPls gb skipped resVal rvAll rvVal pk pkL trunc refsIn refsInL apartPs entry binVal intBin intOf? oPick oUn allP aRet unp mkTup mkAgg AVal.ment
theorem within_run (k n : Nat) (x lo hi : Int) : R1 (k + 2) n 52 [.int .i64 x, .int .i64 lo, .int .i64 hi] = some (.p (.int .i64 (if x < lo ∨ x > hi then 3 else 0))) := by
  rw [R_eq (k + 1) n 52 _ f52 rfl]
  by_cases h : x < lo <;> by_cases h2 : x > hi <;> simp [f52, c52, go_sem, h, h2, when_run]
end Go.Proofs.Ytnmnijgoggombaa.X
namespace Go.Proofs.Ytnmnijgoggombaa.X
open Go.Proofs.Try
attribute [go_sem] canon canR keepR addS sitesV sitesL renV renMem hidKeys renOK nodupB oLen oIaddr oLoad pofCells
def rowsI (l : List Int) : List (List PVal) := l.map fun n => [.int .i64 n]
def firstI : List Int → Int
  | [] => 0
  | a :: l => if a = 0 then firstI l else a
/-- What is looked at of a state. -/
def obs (ss : List Nat) (r : Option (XE × Env × Mem)) : Option (XE × List (Option AVal) × Mem) := r.map fun r => (r.1, ss.map (lk r.2.1), r.2.2)
theorem obs_some {ss : List Nat} {r : Option (XE × Env × Mem)} {x : XE} {vs : List (Option AVal)} {m : Mem} (h : obs ss r = some (x, vs, m)) : ∃ e, r = some (x, e, m) ∧ ss.map (lk e) = vs := by
  cases r with
  | none => cases h
  | some r => obtain ⟨x', e, m'⟩ := r; simp only [obs, Option.map_some, Option.some.injEq, Prod.mk.injEq] at h; obtain ⟨rfl, rfl, rfl⟩ := h; exact ⟨e, rfl, rfl⟩
theorem first_loop (σ : Sig) (ι : SigI) (nn : Nat) (l : List Int) (hl : l.length ≤ 1000) : ∀ (n i : Nat), i ≤ l.length → l.length - i < n →
    obs [2] (itN n (LB σ ι (OT nn) 15 [5, 6, 7] c51l0) [(5, .p (.sl (rowsI l))), (6, .p (.int .i64 l.length)), (7, .p (.int .i64 i))] []) =
      some (if firstI (l.drop i) = 0 then (.exit 0, [none], []) else (.ret, [some (.p (.int .i64 (firstI (l.drop i))))], [])) := by
  intro n
  induction n with
  | zero => intro i _ h; omega
  | succ n ih =>
    intro i hi hn
    by_cases h : i < l.length
    · have hd : l.drop i = l[i] :: l.drop (i + 1) := List.drop_eq_getElem_cons h
      have hrow : (rowsI l)[i]? = some [.int .i64 l[i]] := by simp [rowsI, h]
      have hlt : ((i : Int) < (l.length : Int)) := by omega
      by_cases h0 : l[i] = 0
      · rw [hd, firstI, if_pos h0, ← ih (i + 1) (by omega) (by omega)]
        have hw : IntKind.i64.wrap ((i : Int) + 1) = (i : Int) + 1 := IntWalk.i64_in _ (by omega)
        simp [itN, LB, c51l0, go_sem, hlt, hrow, h0, hw]
      · rw [hd, firstI, if_neg h0, if_neg h0]
        simp [itN, LB, c51l0, go_sem, hlt, hrow, h0, obs]
    · have : i = l.length := by omega
      subst this
      simp [itN, LB, c51l0, go_sem, firstI, obs]
theorem first_run (k n : Nat) (l : List Int) (hl : l.length ≤ 1000) (hn : 1000 < n) : R1 (k + 1) n 51 [.sl (rowsI l)] = some (.p (.int .i64 (firstI l))) := by
  rw [R_eq k n 51 _ f51 rfl]
  have h := first_loop (R1 k n) (SI T aw noHI (OT n) k) n l hl n 0 (by omega) (by omega)
  have hlen : (rowsI l).length = l.length := by simp [rowsI]
  rw [List.drop_zero] at h
  by_cases h0 : firstI l = 0
  · rw [if_pos h0] at h
    obtain ⟨e, h1, h2⟩ := obs_some h
    simp only [Int.natCast_zero] at h1
    simp [f51, c51, go_sem, hlen, h1, h0]
  · rw [if_neg h0] at h
    obtain ⟨e, h1, h2⟩ := obs_some h
    simp at h1 h2
    simp [f51, c51, go_sem, hlen, h1, h2]
end Go.Proofs.Ytnmnijgoggombaa.X
namespace Go.Proofs.Ytnmnijgoggombaa.X
open Go.Proofs.Try
attribute [go_sem] oSindex oExtract
def letterC (c : Int) : Bool := (decide (97 ≤ c) && decide (c ≤ 122)) || (decide (65 ≤ c) && decide (c ≤ 90))
def badC (c : Int) (first : Bool) : Bool := !(letterC c) && (first || (!(c == 95) && (decide (c < 48) || decide (c > 57))))
def byteAt (s : ByteArray) (i : Nat) : Int := ((s[i]?).map fun b => (b.toNat : Int)).getD 0
def nameF (s : ByteArray) : Nat → Nat → Bool
  | 0, _ => true
  | k + 1, i => !(badC (byteAt s i) (i == 0)) && nameF s k (i + 1)
theorem refname_loop (σ : Sig) (ι : SigI) (nn : Nat) (s : ByteArray) (hl : s.size ≤ 1000) : ∀ (n i k : Nat), i + k = s.size → k < n →
    obs [2] (itN n (LB σ ι (OT nn) 55 [0, 3] c53l0) [(0, .p (.str s)), (3, .p (.int .i64 i))] []) =
      some (if nameF s k i = true then (.exit 0, [none], []) else (.ret, [some (.p (.bool false))], [])) := by
  intro n
  induction n with
  | zero => intro i k _ h; omega
  | succ n ih =>
    intro i k hi hn
    cases k with
    | zero =>
      have : ¬ ((i : Int) < (s.size : Int)) := by omega
      simp [itN, LB, c53l0, go_sem, this, nameF, obs]
    | succ k =>
      have hlt : ((i : Int) < (s.size : Int)) := by omega
      have hget : s[i]? = some s[i] := by simp [show i < s.size by omega]
      have hb : byteAt s i = (s[i].toNat : Int) := by simp [byteAt, hget]
      have hw : IntKind.i64.wrap ((i : Int) + 1) = (i : Int) + 1 := IntWalk.i64_in _ (by omega)
      have ih' := ih (i + 1) k (by omega) (by omega)
      simp only [nameF, hb]
      generalize hc : (s[i].toNat : Int) = c
      have hi0 : ((i : Int) == 0) = (i == 0) := by
        rw [Bool.eq_iff_iff]; simp
      rw [show ((i + 1 : Nat) : Int) = (i : Int) + 1 by omega] at ih'
      by_cases a5 : i = 0
      · subst a5
        have hlt0 : 0 < s.size := by omega
        have hw0 : IntKind.i64.wrap 1 = 1 := IntWalk.i64_in _ (by omega)
        simp only [Int.natCast_zero, Int.zero_add] at ih' ⊢
        cases hbad : badC c (0 == 0) with
        | false =>
          simp only [Bool.not_false, Bool.true_and]
          rw [← ih']
          simp only [badC, letterC] at hbad
          by_cases a1 : 97 ≤ c <;> by_cases a2 : c ≤ 122 <;> by_cases a3 : 65 ≤ c <;> by_cases a4 : c ≤ 90 <;> first | omega | skip
          all_goals (simp [a1, a2, a3, a4] at hbad)
          all_goals (simp [itN, LB, c53l0, go_sem, hlt0, hget, hc, a1, a2, a3, a4, hw0])
        | true =>
          simp only [Bool.not_true, Bool.false_and, Bool.false_eq_true, if_false]
          simp only [badC, letterC] at hbad
          by_cases a1 : 97 ≤ c <;> by_cases a2 : c ≤ 122 <;> by_cases a3 : 65 ≤ c <;> by_cases a4 : c ≤ 90 <;> first | omega | skip
          all_goals (simp [a1, a2, a3, a4] at hbad)
          all_goals (simp [itN, LB, c53l0, go_sem, hlt0, hget, hc, a1, a2, a3, a4, obs])
      · have hz : (i == 0) = false := by simpa using a5
        rw [hz]
        cases hbad : badC c false with
        | false =>
          simp only [Bool.not_false, Bool.true_and]
          rw [← ih']
          simp only [badC, letterC] at hbad
          by_cases a1 : 97 ≤ c <;> by_cases a2 : c ≤ 122 <;> by_cases a3 : 65 ≤ c <;> by_cases a4 : c ≤ 90 <;> first | omega | skip
          all_goals (by_cases a6 : c = 95 <;> by_cases a7 : c < 48 <;> by_cases a8 : c > 57 <;> first | omega | skip)
          all_goals (simp [a1, a2, a3, a4, a6, a7, a8] at hbad)
          all_goals (simp [itN, LB, c53l0, go_sem, hlt, hget, hc, a1, a2, a3, a4, a5, a6, a7, a8, hw])
        | true =>
          simp only [Bool.not_true, Bool.false_and, Bool.false_eq_true, if_false]
          simp only [badC, letterC] at hbad
          by_cases a1 : 97 ≤ c <;> by_cases a2 : c ≤ 122 <;> by_cases a3 : 65 ≤ c <;> by_cases a4 : c ≤ 90 <;> first | omega | skip
          all_goals (by_cases a6 : c = 95 <;> by_cases a7 : c < 48 <;> by_cases a8 : c > 57 <;> first | omega | skip)
          all_goals (simp [a1, a2, a3, a4, a6, a7, a8] at hbad)
          all_goals (simp [itN, LB, c53l0, go_sem, hlt, hget, hc, a1, a2, a3, a4, a5, a6, a7, a8, obs])
def nameP (s : ByteArray) : Bool := !(decide (s.size = 0) || decide (s.size > 24)) && nameF s s.size 0
theorem refname_run (k n : Nat) (s : ByteArray) (hn : 1000 < n) : R1 (k + 1) n 53 [.str s] = some (.p (.bool (nameP s))) := by
  rw [R_eq k n 53 _ f53 rfl]
  by_cases h0 : s.size = 0
  · have : (s.size : Int) = 0 := by omega
    simp [f53, c53, go_sem, this, nameP, h0]
  by_cases h1 : s.size > 24
  · have e0 : ¬ ((s.size : Int) = 0) := by omega
    have e1 : (s.size : Int) > 24 := by omega
    have e2 : ¬ s = ByteArray.empty := fun h => h0 (by rw [h]; rfl)
    have e3 : 24 < s.size := h1
    simp [f53, c53, go_sem, e0, e1, e2, e3, nameP]
  · have e0 : ¬ ((s.size : Int) = 0) := by omega
    have e1 : ¬ ((s.size : Int) > 24) := by omega
    have e2 : ¬ s = ByteArray.empty := fun h => h0 (by rw [h]; rfl)
    have e3 : ¬ (24 < s.size) := h1
    have h := refname_loop (R1 k n) (SI T aw noHI (OT n) k) n s (by omega) n 0 s.size (by omega) (by omega)
    have hP : nameP s = nameF s s.size 0 := by simp [nameP, h0, h1]
    rw [hP]
    by_cases hf : nameF s s.size 0 = true
    · rw [if_pos hf] at h
      obtain ⟨e, g1, g2⟩ := obs_some h
      simp only [Int.natCast_zero] at g1
      simp [f53, c53, go_sem, e0, e1, e2, e3, g1, hf]
    · rw [if_neg hf] at h
      obtain ⟨e, g1, g2⟩ := obs_some h
      simp only [Int.natCast_zero] at g1
      simp at g2 hf
      simp [f53, c53, go_sem, e0, e1, e2, e3, g1, g2, hf]
/-- A rune at a byte from 128 on is no letter. -/
theorem decode_high {s : ByteArray} {i : Nat} (h : i < s.size) (hb : 128 ≤ s[i].toNat) : 128 ≤ (Utf8.decode s i).1 := by
  have hg : s.get! i = s[i] := by
    simp [ByteArray.get!, getElem!_pos, h]
    rfl
  unfold Utf8.decode
  simp only [Nat.add_zero, hg]
  have : ¬ (s[i].toNat < 128) := by omega
  rw [if_neg this]
  split
  · split <;> simp_all [Utf8.runeError]
  split
  · split
    · rename_i h; simp only [Bool.and_eq_true, decide_eq_true_eq] at h; exact Nat.le_trans (by omega) h.1
    · simp [Utf8.runeError]
  split
  · split
    · rename_i h; simp only [Bool.and_eq_true, decide_eq_true_eq] at h; exact Nat.le_trans (by omega) h.1
    · simp [Utf8.runeError]
  · simp [Utf8.runeError]
theorem decode_low {s : ByteArray} {i : Nat} (h : i < s.size) (hb : s[i].toNat < 128) : Utf8.decode s i = (s[i].toNat, 1) := by
  have hg : s.get! i = s[i] := by
    simp [ByteArray.get!, getElem!_pos, h]
    rfl
  unfold Utf8.decode
  simp only [Nat.add_zero, hg]
  rw [if_pos hb]
end Go.Proofs.Ytnmnijgoggombaa.X
namespace Go.Proofs.Ytnmnijgoggombaa.X
open Go.Proofs.Try
attribute [go_sem] oSrange oSnext getAt sub setAt renP putSub killBy Kill.fn AVal.mentL inSites atOrUnder
def obsE (ss : List Nat) (r : Option (XE × Env × Mem)) : Option (XE × List (Option AVal)) := r.map fun r => (r.1, ss.map (lk r.2.1))
theorem obsE_some {ss : List Nat} {r : Option (XE × Env × Mem)} {x : XE} {vs : List (Option AVal)} (h : obsE ss r = some (x, vs)) : ∃ e m, r = some (x, e, m) ∧ ss.map (lk e) = vs := by
  cases r with
  | none => cases h
  | some r => obtain ⟨x', e, m'⟩ := r; simp only [obsE, Option.map_some, Option.some.injEq, Prod.mk.injEq] at h; obtain ⟨rfl, rfl⟩ := h; exact ⟨e, m', rfl, rfl⟩
theorem name_loop (σ : Sig) (ι : SigI) (nn : Nat) (s : ByteArray) (hl : s.size ≤ 1000) : ∀ (n i k : Nat), i + k = s.size → k < n →
    obsE [2] (itN n (LB σ ι (OT nn) 52 [15] c89l0) [(15, .rpt ⟨16000000000000, 0, []⟩ 0 0)] [(16000000000000, [.siter s i])]) =
      some (if nameF s k i = true then (.exit 0, [none]) else (.ret, [some (.p (.bool false))])) := by
  intro n
  induction n with
  | zero => intro i k _ h; omega
  | succ n ih =>
    intro i k hi hn
    cases k with
    | zero =>
      have : ¬ (i < s.size) := by omega
      simp [itN, LB, c89l0, go_sem, this, nameF, obsE]
    | succ k =>
      have hlt : i < s.size := by omega
      have hget : s[i]? = some s[i] := by simp [hlt]
      have hb : byteAt s i = (s[i].toNat : Int) := by simp [byteAt, hget]
      have ih' := ih (i + 1) k (by omega) (by omega)
      simp only [nameF, hb]
      by_cases hlow : s[i].toNat < 128
      · have hdec := decode_low hlt hlow
        generalize hc : (s[i].toNat : Int) = c at *
        by_cases a5 : i = 0
        · subst a5
          simp only [Nat.zero_add] at ih'
          cases hbad : badC c (0 == 0) with
          | false =>
            simp only [Bool.not_false, Bool.true_and]
            rw [← ih']
            simp only [badC, letterC] at hbad
            by_cases a1 : 97 ≤ c <;> by_cases a2 : c ≤ 122 <;> by_cases a3 : 65 ≤ c <;> by_cases a4 : c ≤ 90 <;> first | omega | skip
            all_goals (simp [a1, a2, a3, a4] at hbad)
            all_goals (simp [itN, LB, c89l0, go_sem, hlt, hdec, hc, a1, a2, a3, a4])
          | true =>
            simp only [Bool.not_true, Bool.false_and, Bool.false_eq_true, if_false]
            simp only [badC, letterC] at hbad
            by_cases a1 : 97 ≤ c <;> by_cases a2 : c ≤ 122 <;> by_cases a3 : 65 ≤ c <;> by_cases a4 : c ≤ 90 <;> first | omega | skip
            all_goals (simp [a1, a2, a3, a4] at hbad)
            all_goals (simp [itN, LB, c89l0, go_sem, hlt, hdec, hc, a1, a2, a3, a4, obsE])
        · have hz : (i == 0) = false := by simpa using a5
          rw [hz]
          cases hbad : badC c false with
          | false =>
            simp only [Bool.not_false, Bool.true_and]
            rw [← ih']
            simp only [badC, letterC] at hbad
            by_cases a1 : 97 ≤ c <;> by_cases a2 : c ≤ 122 <;> by_cases a3 : 65 ≤ c <;> by_cases a4 : c ≤ 90 <;> first | omega | skip
            all_goals (by_cases a6 : c = 95 <;> by_cases a7 : c < 48 <;> by_cases a8 : c > 57 <;> first | omega | skip)
            all_goals (simp [a1, a2, a3, a4, a6, a7, a8] at hbad)
            all_goals (simp [itN, LB, c89l0, go_sem, hlt, hdec, hc, a1, a2, a3, a4, a5, a6, a7, a8])
          | true =>
            simp only [Bool.not_true, Bool.false_and, Bool.false_eq_true, if_false]
            simp only [badC, letterC] at hbad
            by_cases a1 : 97 ≤ c <;> by_cases a2 : c ≤ 122 <;> by_cases a3 : 65 ≤ c <;> by_cases a4 : c ≤ 90 <;> first | omega | skip
            all_goals (by_cases a6 : c = 95 <;> by_cases a7 : c < 48 <;> by_cases a8 : c > 57 <;> first | omega | skip)
            all_goals (simp [a1, a2, a3, a4, a6, a7, a8] at hbad)
            all_goals (simp [itN, LB, c89l0, go_sem, hlt, hdec, hc, a1, a2, a3, a4, a5, a6, a7, a8, obsE])
      · have hdec := decode_high hlt (by omega)
        have hbad : badC (s[i].toNat : Int) (i == 0) = true := by
          have q1 : ¬ ((s[i].toNat : Int) ≤ 122) := by omega
          have q2 : ¬ ((s[i].toNat : Int) ≤ 90) := by omega
          have q3 : (s[i].toNat : Int) > 57 := by omega
          have q4 : ¬ ((s[i].toNat : Int) = 95) := by omega
          simp [badC, letterC, q1, q2, q3, q4]
        rw [hbad]
        simp only [Bool.not_true, Bool.false_and, Bool.false_eq_true, if_false]
        generalize hd : Utf8.decode s i = d at *
        obtain ⟨c, w⟩ := d
        simp only at hdec
        have r1 : (65 : Int) ≤ (c : Int) := by omega
        have r2 : ¬ ((c : Int) ≤ 90) := by omega
        have r3 : (97 : Int) ≤ (c : Int) := by omega
        have r4 : ¬ ((c : Int) ≤ 122) := by omega
        have r5 : ¬ ((c : Int) = 95) := by omega
        have r6 : ¬ ((c : Int) < 48) := by omega
        have r7 : (c : Int) > 57 := by omega
        by_cases a5 : i = 0
        · subst a5
          simp [itN, LB, c89l0, go_sem, hlt, hd, r1, r2, r3, r4, obsE]
        · simp [itN, LB, c89l0, go_sem, hlt, hd, r1, r2, r3, r4, r5, r6, r7, a5, obsE]
theorem name_run (k n : Nat) (s : ByteArray) (hn : 1000 < n) : R1 (k + 1) n 89 [.str s] = some (.p (.bool (nameP s))) := by
  rw [R_eq k n 89 _ f89 rfl]
  by_cases h0 : s.size = 0
  · have : (s.size : Int) = 0 := by omega
    simp [f89, c89, go_sem, this, nameP, h0]
  by_cases h1 : s.size > 24
  · have e0 : ¬ ((s.size : Int) = 0) := by omega
    have e1 : (s.size : Int) > 24 := by omega
    have e2 : ¬ s = ByteArray.empty := fun h => h0 (by rw [h]; rfl)
    have e3 : 24 < s.size := h1
    simp [f89, c89, go_sem, e0, e1, e2, e3, nameP]
  · have e0 : ¬ ((s.size : Int) = 0) := by omega
    have e1 : ¬ ((s.size : Int) > 24) := by omega
    have e2 : ¬ s = ByteArray.empty := fun h => h0 (by rw [h]; rfl)
    have e3 : ¬ (24 < s.size) := h1
    have h := name_loop (R1 k n) (SI T aw noHI (OT n) k) n s (by omega) n 0 s.size (by omega) (by omega)
    have hP : nameP s = nameF s s.size 0 := by simp [nameP, h0, h1]
    rw [hP]
    by_cases hf : nameF s s.size 0 = true
    · rw [if_pos hf] at h
      obtain ⟨e, m, g1, g2⟩ := obsE_some h
      simp [f89, c89, go_sem, e0, e1, e2, e3, g1, hf]
    · rw [if_neg hf] at h
      obtain ⟨e, m, g1, g2⟩ := obsE_some h
      simp at g2 hf
      simp [f89, c89, go_sem, e0, e1, e2, e3, g1, g2, hf]
end Go.Proofs.Ytnmnijgoggombaa.X
namespace Go.Proofs.Ytnmnijgoggombaa.X
open Go.Proofs.Try
attribute [go_sem] runD entOf softOf indepFrom indepAt indepE softE bef hdrAt roOp argSites opArgs roSlots argSlots guardSlots itemArgs allEv Kill.list Kill.isNo oFaddr Ent.on oStore AVal.cells PVal.cells AVal.scalar PVal.scalar AVal.isP setRange refOf refsOf ofCells cellAt Place.ext oFslice fsl putParts scalarRows pureRows allPs fillCells AVal.isOwn
structure Ld where
  nm : ByteArray
  p : Int
  a : Int
def rowL (x : Ld) : List PVal := [.str x.nm, .int .i64 x.p, .int .i64 x.a]
def rowsL (l : List Ld) : List (List PVal) := l.map rowL
theorem rowsL_length (l : List Ld) : (rowsL l).length = l.length := by simp [rowsL]
theorem rowsL_get (l : List Ld) (i : Nat) (h : i < (rowsL l).length) : (rowsL l)[i] = rowL (l[i]'(by rwa [rowsL_length] at h)) := by simp [rowsL]
def w64 (n : Int) : Int := IntKind.i64.wrap n
def sumF : List Ld → Int → Int → Int × Int
  | [], p, m => (p, m)
  | x :: l, p, m => sumF l (w64 (p + x.p)) (w64 (m + w64 (x.p * x.a)))
theorem outside_run (k n : Nat) (x lo hi : Int) : R1 (k + 1) n 55 [.int .i64 x, .int .i64 lo, .int .i64 hi] = some (.p (.int .i64 (if x < lo ∨ x > hi then 3 else 0))) := by
  rw [R_eq k n 55 _ f55 rfl]
  by_cases h : x < lo <;> by_cases h2 : x > hi <;> simp [f55, c55, go_sem, h, h2]
theorem refsum_loop (σ : Sig) (ι : SigI) (nn : Nat) (l : List Ld) (hl : l.length ≤ 1000) : ∀ (n i : Nat) (p m : Int), i ≤ l.length → l.length - i < n →
    obs [4, 5] (itN n (LB σ ι (OT nn) 35 [0, 4, 5, 6] c14l0) [(0, .p (.sl (rowsL l))), (4, .p (.int .i64 p)), (5, .p (.int .i64 m)), (6, .p (.int .i64 i))] []) =
      some (.exit 0, [some (.p (.int .i64 (sumF (l.drop i) p m).1)), some (.p (.int .i64 (sumF (l.drop i) p m).2))], []) := by
  intro n
  induction n with
  | zero => intro i p m _ h; omega
  | succ n ih =>
    intro i p m hi hn
    have hlen : (rowsL l).length = l.length := by simp [rowsL]
    by_cases h : i < l.length
    · have hd : l.drop i = l[i] :: l.drop (i + 1) := List.drop_eq_getElem_cons h
      have hrow : (rowsL l)[i]? = some (rowL l[i]) := by simp [rowsL, h]
      have hw : IntKind.i64.wrap ((i : Int) + 1) = (i : Int) + 1 := IntWalk.i64_in _ (by omega)
      rw [hd, sumF, ← ih (i + 1) _ _ (by omega) (by omega)]
      simp [itN, LB, c14l0, go_sem, hlen, h, hrow, rowsL_get, rowL, hw, w64]
    · have : i = l.length := by omega
      subst this
      simp [itN, LB, c14l0, go_sem, hlen, sumF, obs]
theorem rowsI_length (l : List Int) : (rowsI l).length = l.length := by simp [rowsI]
theorem rowsI_get (l : List Int) (i : Nat) (h : i < (rowsI l).length) : (rowsI l)[i] = [.int .i64 (l[i]'(by rwa [rowsI_length] at h))] := by simp [rowsI]
theorem refsum_run (k n : Nat) (l : List Ld) (hl : l.length ≤ 1000) (hn : 1000 < n) : R1 (k + 1) n 14 [.sl (rowsL l)] = some (.p (.tup [.int .i64 (sumF l 0 0).1, .int .i64 (sumF l 0 0).2])) := by
  rw [R_eq k n 14 _ f14 rfl]
  have h := refsum_loop (R1 k n) (SI T aw noHI (OT n) k) n l hl n 0 0 0 (by omega) (by omega)
  rw [List.drop_zero] at h
  obtain ⟨e, g1, g2⟩ := obs_some h
  simp only [Int.natCast_zero] at g1
  simp at g2
  simp [f14, c14, go_sem, g1, g2]
theorem reffirst_loop (σ : Sig) (ι : SigI) (nn : Nat) (l : List Int) (hl : l.length ≤ 1000) : ∀ (n i : Nat), i ≤ l.length → l.length - i < n →
    obs [2] (itN n (LB σ ι (OT nn) 19 [0, 3] c54l0) [(0, .p (.sl (rowsI l))), (3, .p (.int .i64 i))] []) =
      some (if firstI (l.drop i) = 0 then (.exit 0, [none], []) else (.ret, [some (.p (.int .i64 (firstI (l.drop i))))], [])) := by
  intro n
  induction n with
  | zero => intro i _ h; omega
  | succ n ih =>
    intro i hi hn
    have hlen := rowsI_length l
    by_cases h : i < l.length
    · have hd : l.drop i = l[i] :: l.drop (i + 1) := List.drop_eq_getElem_cons h
      by_cases h0 : l[i] = 0
      · rw [hd, firstI, if_pos h0, ← ih (i + 1) (by omega) (by omega)]
        have hw : IntKind.i64.wrap ((i : Int) + 1) = (i : Int) + 1 := IntWalk.i64_in _ (by omega)
        simp [itN, LB, c54l0, go_sem, hlen, h, rowsI_get, h0, hw]
      · rw [hd, firstI, if_neg h0, if_neg h0]
        simp [itN, LB, c54l0, go_sem, hlen, h, rowsI_get, h0, obs]
    · have : i = l.length := by omega
      subst this
      simp [itN, LB, c54l0, go_sem, hlen, firstI, obs]
theorem reffirst_run (k n : Nat) (l : List Int) (hl : l.length ≤ 1000) (hn : 1000 < n) : R1 (k + 1) n 54 [.sl (rowsI l)] = some (.p (.int .i64 (firstI l))) := by
  rw [R_eq k n 54 _ f54 rfl]
  have h := reffirst_loop (R1 k n) (SI T aw noHI (OT n) k) n l hl n 0 (by omega) (by omega)
  rw [List.drop_zero] at h
  by_cases h0 : firstI l = 0
  · rw [if_pos h0] at h
    obtain ⟨e, g1, g2⟩ := obs_some h
    simp only [Int.natCast_zero] at g1
    simp [f54, c54, go_sem, g1, h0]
  · rw [if_neg h0] at h
    obtain ⟨e, g1, g2⟩ := obs_some h
    simp only [Int.natCast_zero] at g1
    simp at g2
    simp [f54, c54, go_sem, g1, g2]
/-- The error of a load. -/
def rng (x lo hi : Int) : Int := if x < lo ∨ x > hi then 3 else 0
def errL (x : Ld) : Int := firstI [if nameP x.nm = true then 0 else 8, rng x.p (-1000000) 1000000, rng x.a (-10000) 10000]
def errLs : List Ld → Int
  | [] => 0
  | x :: l => if errL x = 0 then errLs l else errL x
/-- The program's check of the loads. -/
theorem check_loop (k nn : Nat) (hnn : 1000 < nn) (l : List Ld) (hl : l.length ≤ 1000) (ι : SigI) : ∀ (n i : Nat), i ≤ l.length → l.length - i < n →
    obsE [2] (itN n (LB (R1 (k + 2) nn) ι (OT nn) 32 [9, 10, 11] c50l0) [(9, .p (.sl (rowsL l))), (10, .p (.int .i64 l.length)), (11, .p (.int .i64 i))] []) =
      some (if errLs (l.drop i) = 0 then (.exit 0, [none]) else (.ret, [some (.p (.int .i64 (errLs (l.drop i))))])) := by
  intro n
  induction n with
  | zero => intro i _ h; omega
  | succ n ih =>
    intro i hi hn
    have hlen := rowsL_length l
    by_cases h : i < l.length
    · have hd : l.drop i = l[i] :: l.drop (i + 1) := List.drop_eq_getElem_cons h
      have hname := name_run (k + 1) nn l[i].nm hnn
      have hw1 : R1 (k + 2) nn 52 [.int .i64 l[i].p, .int .i64 (-1000000), .int .i64 1000000] = some (.p (.int .i64 (rng l[i].p (-1000000) 1000000))) := within_run k nn l[i].p (-1000000) 1000000
      have hw2 : R1 (k + 2) nn 52 [.int .i64 l[i].a, .int .i64 (-10000), .int .i64 10000] = some (.p (.int .i64 (rng l[i].a (-10000) 10000))) := within_run k nn l[i].a (-10000) 10000
      have hf := first_run (k + 1) nn [if nameP l[i].nm = true then 0 else 8, rng l[i].p (-1000000) 1000000, rng l[i].a (-10000) 10000] (by simp) hnn
      simp only [rowsI, List.map_cons, List.map_nil] at hf
      rw [show firstI [if nameP l[i].nm = true then 0 else 8, rng l[i].p (-1000000) 1000000, rng l[i].a (-10000) 10000] = errL l[i] from rfl] at hf
      have hwh := fun b e => when_run (k + 1) nn b e
      have hx : rowL l[i] = [.str l[i].nm, .int .i64 l[i].p, .int .i64 l[i].a] := rfl
      have hw : IntKind.i64.wrap ((i : Int) + 1) = (i : Int) + 1 := IntWalk.i64_in _ (by omega)
      generalize hnb : nameP l[i].nm = nb at *
      by_cases h0 : errL l[i] = 0
      · rw [hd, errLs, if_pos h0, ← ih (i + 1) (by omega) (by omega)]
        rw [h0] at hf
        generalize rng l[i].p (-1000000) 1000000 = r1 at *
        generalize rng l[i].a (-10000) 10000 = r2 at *
        cases nb
        · simp only [Bool.false_eq_true, if_false] at hf
          simp [itN, LB, c50l0, go_sem, hlen, h, rowsL_get, hx, hname, hwh, hw1, hw2, hw, hf]
        · simp only [if_true] at hf
          simp [itN, LB, c50l0, go_sem, hlen, h, rowsL_get, hx, hname, hwh, hw1, hw2, hw, hf]
      · rw [hd, errLs, if_neg h0, if_neg h0]
        generalize rng l[i].p (-1000000) 1000000 = r1 at *
        generalize rng l[i].a (-10000) 10000 = r2 at *
        cases nb
        · simp only [Bool.false_eq_true, if_false] at hf
          simp [itN, LB, c50l0, go_sem, hlen, h, rowsL_get, hx, hname, hwh, hw1, hw2, hf, h0, obsE]
        · simp only [if_true] at hf
          simp [itN, LB, c50l0, go_sem, hlen, h, rowsL_get, hx, hname, hwh, hw1, hw2, hf, h0, obsE]
    · have : i = l.length := by omega
      subst this
      simp [itN, LB, c50l0, go_sem, hlen, errLs, obsE]
def checkP (l : List Ld) : Int := if l.length > 64 then 5 else errLs l
theorem check_run (k n : Nat) (l : List Ld) (hl : l.length ≤ 1000) (hn : 1000 < n) : R1 (k + 3) n 50 [.sl (rowsL l)] = some (.p (.int .i64 (checkP l))) := by
  rw [R_eq (k + 2) n 50 _ f50 rfl]
  have hlen := rowsL_length l
  by_cases h64 : l.length > 64
  · have e1 : (64 : Int) < (l.length : Int) := by omega
    simp [f50, c50, go_sem, hlen, e1, checkP, h64]
  · have e1 : ¬ ((64 : Int) < (l.length : Int)) := by omega
    have h := check_loop k n hn l hl (SI T aw noHI (OT n) (k + 2)) n 0 (by omega) (by omega)
    rw [List.drop_zero] at h
    have hP : checkP l = errLs l := by simp [checkP, h64]
    rw [hP]
    by_cases h0 : errLs l = 0
    · rw [if_pos h0] at h
      obtain ⟨e, m, g1, g2⟩ := obsE_some h
      simp only [Int.natCast_zero] at g1
      simp [f50, c50, go_sem, hlen, e1, g1, h0]
    · rw [if_neg h0] at h
      obtain ⟨e, m, g1, g2⟩ := obsE_some h
      simp only [Int.natCast_zero] at g1
      simp at g2
      simp [f50, c50, go_sem, hlen, e1, g1, g2]
end Go.Proofs.Ytnmnijgoggombaa.X
namespace Go.Proofs.Ytnmnijgoggombaa.X
open Go.Proofs.Try
theorem firstI_err (x : Ld) : errL x = if nameP x.nm = true then firstI [rng x.p (-1000000) 1000000, rng x.a (-10000) 10000] else 8 := by
  unfold errL
  by_cases h : nameP x.nm = true
  · simp [h, firstI]
  · simp [h, firstI]
theorem refcheck_loop (k nn : Nat) (hnn : 1000 < nn) (l : List Ld) (hl : l.length ≤ 1000) (ι : SigI) : ∀ (n i : Nat), i ≤ l.length → l.length - i < n →
    obsE [2] (itN n (LB (R1 (k + 1) nn) ι (OT nn) 38 [0, 3] c13l0) [(0, .p (.sl (rowsL l))), (3, .p (.int .i64 i))] []) =
      some (if errLs (l.drop i) = 0 then (.exit 0, [none]) else (.ret, [some (.p (.int .i64 (errLs (l.drop i))))])) := by
  intro n
  induction n with
  | zero => intro i _ h; omega
  | succ n ih =>
    intro i hi hn
    have hlen := rowsL_length l
    by_cases h : i < l.length
    · have hd : l.drop i = l[i] :: l.drop (i + 1) := List.drop_eq_getElem_cons h
      have hname := refname_run k nn l[i].nm hnn
      have hw1 : R1 (k + 1) nn 55 [.int .i64 l[i].p, .int .i64 (-1000000), .int .i64 1000000] = some (.p (.int .i64 (rng l[i].p (-1000000) 1000000))) := outside_run k nn l[i].p (-1000000) 1000000
      have hw2 : R1 (k + 1) nn 55 [.int .i64 l[i].a, .int .i64 (-10000), .int .i64 10000] = some (.p (.int .i64 (rng l[i].a (-10000) 10000))) := outside_run k nn l[i].a (-10000) 10000
      have hf := reffirst_run k nn [rng l[i].p (-1000000) 1000000, rng l[i].a (-10000) 10000] (by simp) hnn
      simp only [rowsI, List.map_cons, List.map_nil] at hf
      have hx : rowL l[i] = [.str l[i].nm, .int .i64 l[i].p, .int .i64 l[i].a] := rfl
      have hw : IntKind.i64.wrap ((i : Int) + 1) = (i : Int) + 1 := IntWalk.i64_in _ (by omega)
      have herr := firstI_err l[i]
      rw [hd, errLs]
      generalize hnb : nameP l[i].nm = nb at *
      generalize hr1 : rng l[i].p (-1000000) 1000000 = r1 at *
      generalize hr2 : rng l[i].a (-10000) 10000 = r2 at *
      generalize hff : firstI [r1, r2] = ff at *
      cases nb
      · simp only [Bool.false_eq_true, if_false] at herr
        rw [herr]
        simp [itN, LB, c13l0, go_sem, hlen, h, rowsL_get, hx, hname, obsE]
      · simp only [if_true] at herr
        rw [herr]
        by_cases h0 : ff = 0
        · rw [if_pos h0, ← ih (i + 1) (by omega) (by omega)]
          rw [h0] at hf
          simp [itN, LB, c13l0, go_sem, hlen, h, rowsL_get, hx, hname, hw1, hw2, hw, hf]
        · rw [if_neg h0, if_neg h0]
          simp [itN, LB, c13l0, go_sem, hlen, h, rowsL_get, hx, hname, hw1, hw2, hf, h0, obsE]
    · have : i = l.length := by omega
      subst this
      simp [itN, LB, c13l0, go_sem, hlen, errLs, obsE]
theorem refcheck_run (k n : Nat) (l : List Ld) (hl : l.length ≤ 1000) (hn : 1000 < n) : R1 (k + 2) n 13 [.sl (rowsL l)] = some (.p (.int .i64 (checkP l))) := by
  rw [R_eq (k + 1) n 13 _ f13 rfl]
  have hlen := rowsL_length l
  by_cases h64 : l.length > 64
  · have e1 : (64 : Int) < (l.length : Int) := by omega
    simp [f13, c13, go_sem, hlen, e1, checkP, h64]
  · have e1 : ¬ ((64 : Int) < (l.length : Int)) := by omega
    have h := refcheck_loop k n hn l hl (SI T aw noHI (OT n) (k + 1)) n 0 (by omega) (by omega)
    rw [List.drop_zero] at h
    have hP : checkP l = errLs l := by simp [checkP, h64]
    rw [hP]
    by_cases h0 : errLs l = 0
    · rw [if_pos h0] at h
      obtain ⟨e, m, g1, g2⟩ := obsE_some h
      simp only [Int.natCast_zero] at g1
      simp [f13, c13, go_sem, hlen, e1, g1, h0]
    · rw [if_neg h0] at h
      obtain ⟨e, m, g1, g2⟩ := obsE_some h
      simp only [Int.natCast_zero] at g1
      simp at g2
      simp [f13, c13, go_sem, hlen, e1, g1, g2]
/-- The program's sum. -/
theorem sum_loop (σ : Sig) (ι : SigI) (nn : Nat) (l : List Ld) (hl : l.length ≤ 1000) : ∀ (n i : Nat) (p m : Int), i ≤ l.length → l.length - i < n →
    obsE [6, 7] (itN n (LB σ ι (OT nn) 35 [6, 7, 15, 16, 17] c11l0) [(6, .p (.int .i64 p)), (7, .p (.int .i64 m)), (15, .p (.sl (rowsL l))), (16, .p (.int .i64 l.length)), (17, .p (.int .i64 i))] []) =
      some (.exit 0, [some (.p (.int .i64 (sumF (l.drop i) p m).1)), some (.p (.int .i64 (sumF (l.drop i) p m).2))]) := by
  intro n
  induction n with
  | zero => intro i p m _ h; omega
  | succ n ih =>
    intro i p m hi hn
    have hlen := rowsL_length l
    by_cases h : i < l.length
    · have hd : l.drop i = l[i] :: l.drop (i + 1) := List.drop_eq_getElem_cons h
      have hx : rowL l[i] = [.str l[i].nm, .int .i64 l[i].p, .int .i64 l[i].a] := rfl
      have hw : IntKind.i64.wrap ((i : Int) + 1) = (i : Int) + 1 := IntWalk.i64_in _ (by omega)
      rw [hd, sumF, ← ih (i + 1) _ _ (by omega) (by omega)]
      simp [itN, LB, c11l0, go_sem, hlen, h, rowsL_get, hx, hw, w64]
    · have : i = l.length := by omega
      subst this
      simp [itN, LB, c11l0, go_sem, hlen, sumF, obsE]
theorem sum_run (k n : Nat) (l : List Ld) (hl : l.length ≤ 1000) (hn : 1000 < n) : R1 (k + 4) n 11 [.sl (rowsL l)] =
    some (.p (.tup (if checkP l = 0 then [.int .i64 (sumF l 0 0).1, .int .i64 (sumF l 0 0).2, .int .i64 0] else [.int .i64 0, .int .i64 0, .int .i64 (checkP l)]))) := by
  rw [R_eq (k + 3) n 11 _ f11 rfl]
  have hlen := rowsL_length l
  have hc := check_run k n l hl hn
  have h := sum_loop (R1 (k + 3) n) (SI T aw noHI (OT n) (k + 3)) n l hl n 0 0 0 (by omega) (by omega)
  rw [List.drop_zero] at h
  obtain ⟨e, m, g1, g2⟩ := obsE_some h
  simp only [Int.natCast_zero] at g1
  simp at g2
  by_cases h0 : checkP l = 0
  · rw [h0] at hc
    simp [f11, c11, go_sem, hlen, hc, g1, g2, h0]
  · simp [f11, c11, go_sem, hlen, hc, h0]
end Go.Proofs.Ytnmnijgoggombaa.X
namespace Go.Proofs.Ytnmnijgoggombaa.X
open Go.Proofs.Try
attribute [go_sem] oMinmax mm oBuild oUn
def moreW (m q : Int) : Int := w64 ((w64 (0 - m)).tdiv q)
def n0W (more : Int) : Int := if w64 (0 - more) > more then w64 (0 - more) else more
def n1W (p lift n0 : Int) : Int := if p < 0 then (if w64 ((w64 (w64 (lift - 1) - p)).tdiv lift) > n0 then w64 ((w64 (w64 (lift - 1) - p)).tdiv lift) else n0) else n0
def n2W (n1 more : Int) : Int := if (w64 (n1 - more)).tmod 2 = 0 then n1 else w64 (n1 + 1)
def two (a b : Int) : PVal := .agg [.int .i64 a, .int .i64 b]
/-- What trawl.Floats answers to a pull and a moment. -/
def floatsW (p m lift arm : Int) : List PVal :=
  if m.tmod (w64 (lift * arm)) = 0 then
    if n2W (n1W p lift (n0W (moreW m (w64 (lift * arm))))) (moreW m (w64 (lift * arm))) > 10000 then [two 0 0, .int .i64 5]
    else [two (w64 ((w64 (n2W (n1W p lift (n0W (moreW m (w64 (lift * arm))))) (moreW m (w64 (lift * arm))) - moreW m (w64 (lift * arm)))).tdiv 2))
              (w64 ((w64 (n2W (n1W p lift (n0W (moreW m (w64 (lift * arm))))) (moreW m (w64 (lift * arm))) + moreW m (w64 (lift * arm)))).tdiv 2)), .int .i64 0]
  else [two 0 0, .int .i64 23]
set_option maxHeartbeats 4000000 in
theorem floats_run (k n : Nat) (l : List Ld) (lift arm : Int) (hl : l.length ≤ 1000) (hn : 1000 < n) (hlift : lift ≠ 0) (hq : w64 (lift * arm) ≠ 0) : R1 (k + 5) n 12 [.sl (rowsL l), .int .i64 lift, .int .i64 arm] =
    some (.p (.tup (if firstI [checkP l, rng lift 1 1000000, rng arm 1 10000] = 0 then floatsW (sumF l 0 0).1 (sumF l 0 0).2 lift arm else [two 0 0, .int .i64 (firstI [checkP l, rng lift 1 1000000, rng arm 1 10000])]))) := by
  rw [R_eq (k + 4) n 12 _ f12 rfl]
  have hs := sum_run k n l hl hn
  have hw1 : R1 (k + 4) n 52 [.int .i64 lift, .int .i64 1, .int .i64 1000000] = some (.p (.int .i64 (rng lift 1 1000000))) := within_run (k + 2) n lift 1 1000000
  have hw2 : R1 (k + 4) n 52 [.int .i64 arm, .int .i64 1, .int .i64 10000] = some (.p (.int .i64 (rng arm 1 10000))) := within_run (k + 2) n arm 1 10000
  have hf := first_run (k + 3) n [checkP l, rng lift 1 1000000, rng arm 1 10000] (by simp) hn
  simp only [rowsI, List.map_cons, List.map_nil] at hf
  generalize hr1 : rng lift 1 1000000 = r1 at *
  generalize hr2 : rng arm 1 10000 = r2 at *
  generalize hee : firstI [checkP l, r1, r2] = ee at *
  have hc : checkP l ≠ 0 → ee ≠ 0 := fun h => by rw [← hee]; simp [firstI, h]
  generalize checkP l = c at *
  by_cases he : ee = 0
  · have hc0 : c = 0 := Decidable.byContradiction fun h => hc h he
    subst hc0
    rw [if_pos rfl] at hs
    rw [he] at hf
    rw [if_pos he]
    generalize (sumF l 0 0).1 = p at *
    generalize (sumF l 0 0).2 = m at *
    generalize hqq : w64 (lift * arm) = q at *
    unfold floatsW
    rw [hqq]
    have hqq' : IntKind.i64.wrap (lift * arm) = q := hqq
    by_cases h1 : m.tmod q = 0
    · rw [if_pos h1]
      have hmo' : IntKind.i64.wrap ((IntKind.i64.wrap (-m)).tdiv q) = moreW m q := by unfold moreW w64; rw [Int.zero_sub]
      generalize moreW m q = mo at *
      have hn0 : n0W mo = if mo < IntKind.i64.wrap (-mo) then IntKind.i64.wrap (-mo) else mo := by unfold n0W w64; simp
      have hn0' : (some (if mo < IntKind.i64.wrap (-mo) then IntKind.i64.wrap (-mo) else mo)) = some (n0W mo) := by rw [hn0]
      by_cases c3 : p < 0
      · have hn1 : n1W p lift (n0W mo) = if n0W mo < IntKind.i64.wrap ((IntKind.i64.wrap (IntKind.i64.wrap (lift - 1) - p)).tdiv lift) then IntKind.i64.wrap ((IntKind.i64.wrap (IntKind.i64.wrap (lift - 1) - p)).tdiv lift) else n0W mo := by
          unfold n1W w64; rw [if_pos c3]
        by_cases c5 : (IntKind.i64.wrap (n1W p lift (n0W mo) - mo)).tmod 2 = 0
        · have hn2 : n2W (n1W p lift (n0W mo)) mo = n1W p lift (n0W mo) := by unfold n2W w64; rw [if_pos c5]
          rw [hn2]
          by_cases c6 : 10000 < n1W p lift (n0W mo)
          · simp [f12, c12, go_sem, hs, hw1, hw2, hf, hqq', hq, h1, two, hmo', ← hn0, hlift, c3, ← hn1, c5, c6]
          · simp [f12, c12, go_sem, hs, hw1, hw2, hf, hqq', hq, h1, two, hmo', ← hn0, hlift, c3, ← hn1, c5, c6, w64]
        · have hn2 : n2W (n1W p lift (n0W mo)) mo = IntKind.i64.wrap (n1W p lift (n0W mo) + 1) := by unfold n2W w64; rw [if_neg c5]
          by_cases c6 : 10000 < IntKind.i64.wrap (n1W p lift (n0W mo) + 1)
          · rw [hn2]
            simp [f12, c12, go_sem, hs, hw1, hw2, hf, hqq', hq, h1, two, hmo', ← hn0, hlift, c3, ← hn1, c5, c6]
          · rw [hn2]
            simp [f12, c12, go_sem, hs, hw1, hw2, hf, hqq', hq, h1, two, hmo', ← hn0, hlift, c3, ← hn1, c5, c6, w64]
      · have hn1 : n1W p lift (n0W mo) = n0W mo := by unfold n1W; rw [if_neg c3]
        rw [hn1]
        by_cases c5 : (IntKind.i64.wrap (n0W mo - mo)).tmod 2 = 0
        · have hn2 : n2W (n0W mo) mo = n0W mo := by unfold n2W w64; rw [if_pos c5]
          rw [hn2]
          by_cases c6 : 10000 < n0W mo
          · simp [f12, c12, go_sem, hs, hw1, hw2, hf, hqq', hq, h1, two, hmo', ← hn0, c3, c5, c6]
          · simp [f12, c12, go_sem, hs, hw1, hw2, hf, hqq', hq, h1, two, hmo', ← hn0, c3, c5, c6, w64]
        · have hn2 : n2W (n0W mo) mo = IntKind.i64.wrap (n0W mo + 1) := by unfold n2W w64; rw [if_neg c5]
          rw [hn2]
          by_cases c6 : 10000 < IntKind.i64.wrap (n0W mo + 1)
          · simp [f12, c12, go_sem, hs, hw1, hw2, hf, hqq', hq, h1, two, hmo', ← hn0, c3, c5, c6]
          · simp [f12, c12, go_sem, hs, hw1, hw2, hf, hqq', hq, h1, two, hmo', ← hn0, c3, c5, c6, w64]
    · rw [if_neg h1]
      simp [f12, c12, go_sem, hs, hw1, hw2, hf, hqq', hq, h1, two]
  · rw [if_neg he]
    by_cases hc0 : c = 0
    · subst hc0
      rw [if_pos rfl] at hs
      simp [f12, c12, go_sem, hs, hw1, hw2, hf, he, two]
    · rw [if_neg hc0] at hs
      simp [f12, c12, go_sem, hs, hw1, hw2, hf, he, two]
end Go.Proofs.Ytnmnijgoggombaa.X
namespace Go.Proofs.Ytnmnijgoggombaa.X
open Go.Proofs.Try
abbrev boxF : Place := ⟨7000000000000, 0, []⟩
def obsF (r : Option (XE × Env × Mem)) : Option (XE × Option AVal × Option AVal × Option AVal) := r.map fun r => (r.1, lk r.2.1 6, lk r.2.1 7, getAt r.2.2 boxF)
theorem obsF_some {r : Option (XE × Env × Mem)} {x : XE} {a b c : Option AVal} (h : obsF r = some (x, a, b, c)) : ∃ e m, r = some (x, e, m) ∧ lk e 6 = a ∧ lk e 7 = b ∧ getAt m boxF = c := by
  cases r with
  | none => cases h
  | some r => obtain ⟨x', e, m'⟩ := r; simp only [obsF, Option.map_some, Option.some.injEq, Prod.mk.injEq] at h; obtain ⟨rfl, rfl, rfl, rfl⟩ := h; exact ⟨e, m', rfl, rfl, rfl, rfl⟩
/-- What the reference looks for. -/
def okS (p lift d s : Int) : Bool := decide (d ≤ s) && decide (w64 (0 - d) ≤ s) && decide ((w64 (s - d)).tmod 2 = 0) && decide (0 ≤ w64 (p + w64 (lift * s)))
def refS (p lift d : Int) : Nat → Nat → Option Int
  | 0, _ => none
  | k + 1, i => if okS p lift d i = true then some i else refS p lift d k (i + 1)
def ownF (a b : Int) : AVal := .own true 2 [[.p (.int .i64 a), .p (.int .i64 b)]]
def ansF (d : Int) : Option Int → XE × Option AVal × Option AVal × Option AVal
  | some s => (.ret, some (.rpt boxF 0 0), some (.p (.int .i64 0)), some (ownF (w64 ((w64 (s + d)).tdiv 2)) (w64 ((w64 (s - d)).tdiv 2))))
  | none => (.exit 0, some (.rpt boxF 0 0), none, some (ownF 0 0))
set_option maxHeartbeats 2000000 in
theorem reffloats_loop (σ : Sig) (ι : SigI) (nn : Nat) (p lift d : Int) : ∀ (n i k : Nat), i + k = 10001 → k < n →
    obsF (itN n (LB σ ι (OT nn) 67 [1, 6, 8, 10, 11] c15l0) [(1, .p (.int .i64 lift)), (6, .rpt boxF 0 0), (8, .p (.int .i64 p)), (10, .p (.int .i64 d)), (11, .p (.int .i64 i))] [(7000000000000, [ownF 0 0])]) =
      some (ansF d (refS p lift d k i)) := by
  intro n
  induction n with
  | zero => intro i k _ h; omega
  | succ n ih =>
    intro i k hi hn
    cases k with
    | zero =>
      have hi' : i = 10001 := by omega
      subst hi'
      simp [itN, LB, c15l0, go_sem, refS, ansF, obsF, ownF]
    | succ k =>
      have hle : (i : Int) ≤ 10000 := by omega
      have hw : IntKind.i64.wrap ((i : Int) + 1) = (i : Int) + 1 := IntWalk.i64_in _ (by omega)
      have ih' := ih (i + 1) k (by omega) (by omega)
      rw [show ((i + 1 : Nat) : Int) = (i : Int) + 1 by omega] at ih'
      simp only [refS]
      have ex : okS p lift d (i : Int) = (decide (d ≤ (i : Int)) && decide (IntKind.i64.wrap (-d) ≤ (i : Int)) && decide ((IntKind.i64.wrap ((i : Int) - d)).tmod 2 = 0) && decide (0 ≤ IntKind.i64.wrap (p + IntKind.i64.wrap (lift * (i : Int))))) := by
        unfold okS w64; rw [Int.zero_sub]
      by_cases a1 : d ≤ (i : Int)
      · by_cases a2 : IntKind.i64.wrap (-d) ≤ (i : Int)
        · by_cases a3 : (IntKind.i64.wrap ((i : Int) - d)).tmod 2 = 0
          · by_cases a4 : 0 ≤ IntKind.i64.wrap (p + IntKind.i64.wrap (lift * (i : Int)))
            · rw [ex]
              simp [a1, a2, a3, a4, itN, LB, c15l0, go_sem, hle, ansF, obsF, ownF, w64]
            · rw [ex]
              simp only [a1, a2, a3, a4, decide_true, decide_false, Bool.and_true, Bool.and_false, Bool.false_eq_true, if_false]
              rw [← ih']
              simp [a1, a2, a3, a4, itN, LB, c15l0, go_sem, hle, hw, ownF]
          · rw [ex]
            simp only [a1, a2, a3, decide_true, decide_false, Bool.and_true, Bool.and_false, Bool.false_and, Bool.false_eq_true, if_false]
            rw [← ih']
            simp [a1, a2, a3, itN, LB, c15l0, go_sem, hle, hw, ownF]
        · rw [ex]
          simp only [a1, a2, decide_true, decide_false, Bool.and_true, Bool.and_false, Bool.false_and, Bool.false_eq_true, if_false]
          rw [← ih']
          simp [a1, a2, itN, LB, c15l0, go_sem, hle, hw, ownF]
      · rw [ex]
        simp only [a1, decide_false, Bool.false_and, Bool.false_eq_true, if_false]
        rw [← ih']
        simp [a1, itN, LB, c15l0, go_sem, hle, hw, ownF]
/-- What ref.Floats answers to a pull and a moment. -/
def refW (p m lift arm : Int) : List PVal :=
  if m.tmod (w64 (lift * arm)) = 0 then
    match refS p lift (w64 (m.tdiv (w64 (lift * arm)))) 10001 0 with
    | some s => [two (w64 ((w64 (s + w64 (m.tdiv (w64 (lift * arm))))).tdiv 2)) (w64 ((w64 (s - w64 (m.tdiv (w64 (lift * arm))))).tdiv 2)), .int .i64 0]
    | none => [two 0 0, .int .i64 5]
  else [two 0 0, .int .i64 23]
set_option maxHeartbeats 2000000 in
theorem reffloats_run (k n : Nat) (l : List Ld) (lift arm : Int) (hl : l.length ≤ 1000) (hn : 10001 < n) (hq : w64 (lift * arm) ≠ 0) : R1 (k + 2) n 15 [.sl (rowsL l), .int .i64 lift, .int .i64 arm] =
    some (.p (.tup (refW (sumF l 0 0).1 (sumF l 0 0).2 lift arm))) := by
  rw [R_eq (k + 1) n 15 _ f15 rfl]
  have hs := refsum_run k n l hl (by omega)
  generalize (sumF l 0 0).1 = p at *
  generalize (sumF l 0 0).2 = m at *
  unfold refW
  generalize hqq : w64 (lift * arm) = q at *
  have hqq' : IntKind.i64.wrap (lift * arm) = q := hqq
  by_cases h1 : m.tmod q = 0
  · rw [if_pos h1]
    generalize hd : w64 (m.tdiv q) = d
    have hd' : IntKind.i64.wrap (m.tdiv q) = d := hd
    have h := reffloats_loop (R1 (k + 1) n) (SI T aw noHI (OT n) (k + 1)) n p lift d n 0 10001 (by omega) hn
    cases hr : refS p lift d 10001 0 with
    | none =>
      rw [hr] at h
      obtain ⟨e, mm, g1, g2, g3, g4⟩ := obsF_some h
      simp only [Int.natCast_zero, ownF] at g1
      simp only [getAt, boxF, ownF, Option.bind_eq_some_iff] at g4
      obtain ⟨cs, q1, x, q2, q3⟩ := g4
      simp only [sub, Option.some.injEq] at q3
      subst q3
      simp [f15, c15, go_sem, hs, hqq', hq, h1, hd', g1, g2, q1, q2, two]
    | some s =>
      rw [hr] at h
      obtain ⟨e, mm, g1, g2, g3, g4⟩ := obsF_some h
      simp only [Int.natCast_zero, ownF] at g1
      simp only [getAt, boxF, ownF, Option.bind_eq_some_iff] at g4
      obtain ⟨cs, q1, x, q2, q3⟩ := g4
      simp only [sub, Option.some.injEq] at q3
      subst q3
      simp [f15, c15, go_sem, hs, hqq', hq, h1, hd', g1, g2, g3, q1, q2, two]
  · rw [if_neg h1]
    simp [f15, c15, go_sem, hs, hqq', hq, h1, two]
end Go.Proofs.Ytnmnijgoggombaa.X
namespace Go.Proofs.Ytnmnijgoggombaa.X
theorem w64_in {n : Int} (h : -9223372036854775808 ≤ n ∧ n ≤ 9223372036854775807) : w64 n = n := IntWalk.i64_in _ (by omega)
theorem firstI_zero : ∀ {l : List Int}, firstI l = 0 → ∀ x ∈ l, x = 0 := by
  intro l
  induction l with
  | nil => intro _ x h; simp at h
  | cons a l ih =>
    intro h x hx
    simp only [firstI] at h
    split at h
    · rename_i ha
      rcases List.mem_cons.1 hx with rfl | hx
      · exact ha
      · exact ih h x hx
    · rename_i ha; exact absurd h ha
theorem rng_zero {x lo hi : Int} (h : rng x lo hi = 0) : lo ≤ x ∧ x ≤ hi := by
  unfold rng at h
  split at h
  · cases h
  · omega
theorem errLs_zero : ∀ {l : List Ld}, errLs l = 0 → ∀ x ∈ l, (-1000000 ≤ x.p ∧ x.p ≤ 1000000) ∧ (-10000 ≤ x.a ∧ x.a ≤ 10000) := by
  intro l
  induction l with
  | nil => intro _ x h; simp at h
  | cons a l ih =>
    intro h x hx
    simp only [errLs] at h
    split at h
    · rename_i ha
      rcases List.mem_cons.1 hx with rfl | hx
      · have := firstI_zero ha
        exact ⟨rng_zero (this _ (by simp)), rng_zero (this _ (by simp))⟩
      · exact ih h x hx
    · rename_i ha; exact absurd h ha
theorem mul_bound {p a : Int} (hp : -1000000 ≤ p ∧ p ≤ 1000000) (ha : -10000 ≤ a ∧ a ≤ 10000) : -10000000000 ≤ p * a ∧ p * a ≤ 10000000000 := by
  have h : (p * a).natAbs ≤ 1000000 * 10000 := by
    rw [Int.natAbs_mul]
    exact Nat.mul_le_mul (by omega) (by omega)
  omega
theorem sumF_bound : ∀ {l : List Ld}, (∀ x ∈ l, (-1000000 ≤ x.p ∧ x.p ≤ 1000000) ∧ (-10000 ≤ x.a ∧ x.a ≤ 10000)) → ∀ (p m P M : Int), -P ≤ p ∧ p ≤ P → -M ≤ m ∧ m ≤ M →
    P + 1000000 * l.length ≤ 1000000000000 → M + 10000000000 * l.length ≤ 1000000000000000 →
    (-(P + 1000000 * l.length) ≤ (sumF l p m).1 ∧ (sumF l p m).1 ≤ P + 1000000 * l.length) ∧ (-(M + 10000000000 * l.length) ≤ (sumF l p m).2 ∧ (sumF l p m).2 ≤ M + 10000000000 * l.length) := by
  intro l
  induction l with
  | nil => intro _ p m P M hp hm _ _; simp [sumF]; omega
  | cons x l ih =>
    intro h p m P M hp hm hP hM
    obtain ⟨h1, h2⟩ := h x (by simp)
    have hmul := mul_bound h1 h2
    simp only [List.length_cons] at hP hM ⊢
    have e1 : w64 (p + x.p) = p + x.p := w64_in (by omega)
    have e2 : w64 (x.p * x.a) = x.p * x.a := w64_in (by omega)
    have e3 : w64 (m + x.p * x.a) = m + x.p * x.a := w64_in (by omega)
    simp only [sumF, e2, e1, e3]
    have := ih (fun y hy => h y (by simp [hy])) (p + x.p) (m + x.p * x.a) (P + 1000000) (M + 10000000000) (by omega) (by omega) (by omega) (by omega)
    omega
theorem check_bound {l : List Ld} (h : checkP l = 0) : (-64000000 ≤ (sumF l 0 0).1 ∧ (sumF l 0 0).1 ≤ 64000000) ∧ (-640000000000 ≤ (sumF l 0 0).2 ∧ (sumF l 0 0).2 ≤ 640000000000) := by
  unfold checkP at h
  split at h
  · cases h
  · rename_i h64
    have := sumF_bound (errLs_zero h) 0 0 0 0 (by omega) (by omega) (by omega) (by omega)
    omega
end Go.Proofs.Ytnmnijgoggombaa.X
namespace Go.Proofs.Ytnmnijgoggombaa.X
/-- The search finds the least number that will do, or none up to the end. -/
theorem refS_none {p lift d : Int} : ∀ {k i : Nat}, (∀ s, i ≤ s → s < i + k → okS p lift d s = false) → refS p lift d k i = none := by
  intro k
  induction k with
  | zero => intro i _; rfl
  | succ k ih =>
    intro i h
    simp only [refS, h i (by omega) (by omega), Bool.false_eq_true, if_false]
    exact ih fun s h1 h2 => h s (by omega) (by omega)
theorem refS_some {p lift d : Int} {s : Nat} : ∀ {k i : Nat}, i ≤ s → s < i + k → okS p lift d s = true → (∀ r, i ≤ r → r < s → okS p lift d r = false) → refS p lift d k i = some (s : Int) := by
  intro k
  induction k with
  | zero => intro i h1 h2; omega
  | succ k ih =>
    intro i h1 h2 hs hr
    by_cases hi : i = s
    · subst hi
      simp only [refS, hs, if_true]
    · simp only [refS, hr i (by omega) (by omega), Bool.false_eq_true, if_false]
      exact ih (by omega) (by omega) hs fun r g1 g2 => hr r (by omega) g2
end Go.Proofs.Ytnmnijgoggombaa.X
namespace Go.Proofs.Ytnmnijgoggombaa.X
/-- The least number that a lift makes enough. -/
theorem ceil_spec {p lift : Int} (hp : p < 0) (hl : 1 ≤ lift) : 0 ≤ (lift - 1 - p).tdiv lift ∧ 0 ≤ p + lift * ((lift - 1 - p).tdiv lift) ∧ ∀ s : Int, s < (lift - 1 - p).tdiv lift → p + lift * s < 0 := by
  have h0 : 0 ≤ lift - 1 - p := by omega
  rw [Int.tdiv_eq_ediv_of_nonneg h0]
  have h1 := Int.mul_ediv_add_emod (lift - 1 - p) lift
  have h2 := Int.emod_nonneg (lift - 1 - p) (show lift ≠ 0 by omega)
  have h3 := Int.emod_lt_of_pos (lift - 1 - p) (show 0 < lift by omega)
  generalize (lift - 1 - p) / lift = c at *
  generalize (lift - 1 - p) % lift = r at *
  refine ⟨?_, by omega, ?_⟩
  · rcases Int.lt_or_le c 0 with hc | hc
    · exfalso
      have : lift * c ≤ lift * (-1) := Int.mul_le_mul_of_nonneg_left (by omega) (by omega)
      omega
    · exact hc
  · intro s hs
    have : lift * s ≤ lift * (c - 1) := Int.mul_le_mul_of_nonneg_left (by omega) (by omega)
    rw [Int.mul_sub] at this
    omega
end Go.Proofs.Ytnmnijgoggombaa.X
namespace Go.Proofs.Ytnmnijgoggombaa.X
theorem tm2 (x : Int) : x.tmod 2 = 0 ↔ x % 2 = 0 := by
  rw [← Int.dvd_iff_tmod_eq_zero, Int.dvd_iff_emod_eq_zero]
theorem okS_iff {p lift d s : Int} (hp : -64000000 ≤ p ∧ p ≤ 64000000) (hl : 1 ≤ lift ∧ lift ≤ 1000000) (hd : -640000000000 ≤ d ∧ d ≤ 640000000000) (hs : 0 ≤ s ∧ s ≤ 10001) :
    okS p lift d s = true ↔ (d ≤ s ∧ -d ≤ s ∧ (s - d) % 2 = 0 ∧ 0 ≤ p + lift * s) := by
  have h1 : lift * s ≤ 1000000 * 10001 := Int.mul_le_mul hl.2 hs.2 hs.1 (by omega)
  have h0 : 0 ≤ lift * s := Int.mul_nonneg (by omega) hs.1
  have e1 : w64 (lift * s) = lift * s := w64_in (by omega)
  have e2 : w64 (p + lift * s) = p + lift * s := w64_in (by omega)
  have e3 : w64 (s - d) = s - d := w64_in (by omega)
  have e4 : w64 (0 - d) = -d := by rw [w64_in (by omega)]; omega
  unfold okS
  rw [e1, e2, e3, e4]
  simp only [Bool.and_eq_true, decide_eq_true_eq, tm2]
  constructor
  · rintro ⟨⟨⟨a, b⟩, c⟩, d⟩; exact ⟨a, b, c, d⟩
  · rintro ⟨a, b, c, d⟩; exact ⟨⟨⟨a, b⟩, c⟩, d⟩
end Go.Proofs.Ytnmnijgoggombaa.X
namespace Go.Proofs.Ytnmnijgoggombaa.X
/-- THE LAW: the closed form is what the search finds. -/
theorem floats_same {p m lift arm : Int} (hp : -64000000 ≤ p ∧ p ≤ 64000000) (hm : -640000000000 ≤ m ∧ m ≤ 640000000000) (hl : 1 ≤ lift ∧ lift ≤ 1000000) (ha : 1 ≤ arm ∧ arm ≤ 10000) :
    floatsW p m lift arm = refW p m lift arm := by
  have hq1 : lift * arm ≤ 1000000 * 10000 := Int.mul_le_mul hl.2 ha.2 (by omega) (by omega)
  have hq0 : 1 * 1 ≤ lift * arm := Int.mul_le_mul hl.1 ha.1 (by omega) (by omega)
  have eq : w64 (lift * arm) = lift * arm := w64_in (by omega)
  unfold floatsW refW
  rw [eq]
  generalize lift * arm = q at *
  by_cases h : m.tmod q = 0
  · rw [if_pos h, if_pos h]
    have hdm := Int.mul_tdiv_add_tmod m q
    rw [h, Int.add_zero] at hdm
    have hd : -640000000000 ≤ m.tdiv q ∧ m.tdiv q ≤ 640000000000 := by
      generalize m.tdiv q = t at *
      constructor
      · rcases Int.lt_or_le t (-640000000000) with ht | ht
        · exfalso
          have h1 : q * t ≤ q * (-640000000001) := Int.mul_le_mul_of_nonneg_left (by omega) (by omega)
          omega
        · exact ht
      · rcases Int.lt_or_le 640000000000 t with ht | ht
        · exfalso
          have h1 : q * 640000000001 ≤ q * t := Int.mul_le_mul_of_nonneg_left (by omega) (by omega)
          omega
        · exact ht
    have emore : moreW m q = -(m.tdiv q) := by
      unfold moreW
      rw [w64_in (n := 0 - m) (by omega), Int.zero_sub, Int.neg_tdiv]
      exact w64_in (by omega)
    rw [emore, w64_in (n := m.tdiv q) (by omega)]
    generalize m.tdiv q = d at *
    have en0 : n0W (-d) = if -d < d then d else -d := by
      unfold n0W
      rw [w64_in (n := 0 - -d) (by omega)]
      simp
    obtain ⟨n0, hn0⟩ : ∃ n0, n0W (-d) = n0 := ⟨_, rfl⟩
    rw [hn0] at en0 ⊢
    have b0 : 0 ≤ n0 ∧ n0 ≤ 640000000000 ∧ (n0 = d ∨ n0 = -d) ∧ d ≤ n0 ∧ -d ≤ n0 := by split at en0 <;> omega
    -- the least number that is enough
    have key : ∃ n1, n1W p lift n0 = n1 ∧ n0 ≤ n1 ∧ n1 ≤ 640000000000 ∧ 0 ≤ p + lift * n1 ∧ ∀ s, n0 ≤ s → 0 ≤ p + lift * s → n1 ≤ s := by
      unfold n1W
      by_cases hpn : p < 0
      · rw [if_pos hpn]
        obtain ⟨c0, c1, c2⟩ := ceil_spec hpn hl.1
        rw [w64_in (n := lift - 1) (by omega), w64_in (n := lift - 1 - p) (by omega)]
        have cb : (lift - 1 - p).tdiv lift ≤ 65000000 := by
          rw [Int.tdiv_eq_ediv_of_nonneg (by omega)]
          exact Int.le_trans (Int.ediv_le_self _ (by omega)) (by omega)
        generalize (lift - 1 - p).tdiv lift = c at *
        rw [w64_in (n := c) (by omega)]
        by_cases hc : c > n0
        · rw [if_pos hc]
          exact ⟨c, rfl, by omega, by omega, c1, fun s _ h2 => by
            rcases Int.lt_or_le s c with hs | hs
            · have := c2 s hs; omega
            · exact hs⟩
        · rw [if_neg hc]
          have : lift * c ≤ lift * n0 := Int.mul_le_mul_of_nonneg_left (by omega) (by omega)
          exact ⟨n0, rfl, Int.le_refl _, b0.2.1, by omega, fun s h1 _ => h1⟩
      · rw [if_neg hpn]
        have : 0 ≤ lift * n0 := Int.mul_nonneg (by omega) b0.1
        exact ⟨n0, rfl, Int.le_refl _, b0.2.1, by omega, fun s h1 _ => h1⟩
    obtain ⟨n1, e1, k1, k2, k3, k4⟩ := key
    rw [e1]
    have en2 : n2W n1 (-d) = if (n1 + d) % 2 = 0 then n1 else n1 + 1 := by
      unfold n2W
      rw [w64_in (n := n1 - -d) (by omega), w64_in (n := n1 + 1) (by omega)]
      simp only [tm2, Int.sub_neg]
    obtain ⟨n2, hn2⟩ : ∃ n2, n2W n1 (-d) = n2 := ⟨_, rfl⟩
    rw [hn2] at en2 ⊢
    have b2 : n1 ≤ n2 ∧ n2 ≤ n1 + 1 ∧ (n2 - d) % 2 = 0 := by split at en2 <;> omega
    have k5 : 0 ≤ p + lift * n2 := by
      have : lift * n1 ≤ lift * n2 := Int.mul_le_mul_of_nonneg_left b2.1 (by omega)
      omega
    have least : ∀ s : Int, d ≤ s → -d ≤ s → (s - d) % 2 = 0 → 0 ≤ p + lift * s → n2 ≤ s := by
      intro s h1 h2 h3 h4
      have := k4 s (by omega) h4
      split at en2 <;> omega
    by_cases hbig : n2 > 10000
    · rw [if_pos hbig, refS_none]
      intro s _ hs
      cases hok : okS p lift d (s : Int) with
      | false => rfl
      | true =>
        obtain ⟨o1, o2, o3, o4⟩ := (okS_iff hp hl hd (by omega)).1 hok
        have := least s o1 o2 o3 o4
        omega
    · rw [if_neg hbig]
      obtain ⟨s, hs⟩ : ∃ s : Nat, n2 = s := ⟨n2.toNat, by omega⟩
      rw [refS_some (s := s) (by omega) (by omega) ((okS_iff hp hl hd (by omega)).2 ⟨by omega, by omega, by omega, by rw [← hs]; exact k5⟩) ?_]
      · rw [hs]
        simp [Int.sub_neg, Int.sub_eq_add_neg]
      · intro r _ hr
        cases hok : okS p lift d (r : Int) with
        | false => rfl
        | true =>
          obtain ⟨o1, o2, o3, o4⟩ := (okS_iff hp hl hd (by omega)).1 hok
          have := least r o1 o2 o3 o4
          omega
  · rw [if_neg h, if_neg h]
end Go.Proofs.Ytnmnijgoggombaa.X
namespace Go.Proofs.Ytnmnijgoggombaa.X
open Go.Proofs.Try
theorem refcheck_nil (k n : Nat) : R1 (k + 1) (n + 1) 13 [.nilslice] = some (.p (.int .i64 0)) := by
  rw [R_eq k (n + 1) 13 _ f13 rfl]
  simp [f13, c13, go_sem, itN, LB, c13l0]
theorem refsum_nil (k n : Nat) : R1 (k + 1) (n + 1) 14 [.nilslice] = some (.p (.tup [.int .i64 0, .int .i64 0])) := by
  rw [R_eq k (n + 1) 14 _ f14 rfl]
  simp [f14, c14, go_sem, itN, LB, c14l0]
set_option maxHeartbeats 2000000 in
theorem reffloats_nil (k n : Nat) (lift arm : Int) (hn : 10001 < n) (hq : w64 (lift * arm) ≠ 0) : R1 (k + 2) n 15 [.nilslice, .int .i64 lift, .int .i64 arm] = some (.p (.tup (refW 0 0 lift arm))) := by
  rw [R_eq (k + 1) n 15 _ f15 rfl]
  obtain ⟨n', rfl⟩ : ∃ n', n = n' + 1 := ⟨n - 1, by omega⟩
  have hs := refsum_nil k n'
  unfold refW
  generalize hqq : w64 (lift * arm) = q at *
  have hqq' : IntKind.i64.wrap (lift * arm) = q := hqq
  have h1 : (0 : Int).tmod q = 0 := by simp
  rw [if_pos h1]
  generalize hd : w64 ((0 : Int).tdiv q) = d
  have hd' : IntKind.i64.wrap ((0 : Int).tdiv q) = d := hd
  have h := reffloats_loop (R1 (k + 1) (n' + 1)) (SI T aw noHI (OT (n' + 1)) (k + 1)) (n' + 1) 0 lift d (n' + 1) 0 10001 (by omega) hn
  have hd0 : IntKind.i64.wrap 0 = d := by rw [← hd']; simp
  cases hr : refS 0 lift d 10001 0 with
  | none =>
    rw [hr] at h
    obtain ⟨e, mm, g1, g2, g3, g4⟩ := obsF_some h
    simp only [Int.natCast_zero, ownF] at g1
    simp only [getAt, boxF, ownF, Option.bind_eq_some_iff] at g4
    obtain ⟨cs, q1, x, q2, q3⟩ := g4
    simp only [sub, Option.some.injEq] at q3
    subst q3
    simp [f15, c15, go_sem, hs, hqq', hq, hd0, g1, g2, q1, q2, two]
  | some s =>
    rw [hr] at h
    obtain ⟨e, mm, g1, g2, g3, g4⟩ := obsF_some h
    simp only [Int.natCast_zero, ownF] at g1
    simp only [getAt, boxF, ownF, Option.bind_eq_some_iff] at g4
    obtain ⟨cs, q1, x, q2, q3⟩ := g4
    simp only [sub, Option.some.injEq] at q3
    subst q3
    simp [f15, c15, go_sem, hs, hqq', hq, hd0, g1, g2, g3, q1, q2, two]
end Go.Proofs.Ytnmnijgoggombaa.X
namespace Go.Proofs.Ytnmnijgoggombaa.X
open Go.Proofs.Try
set_option maxHeartbeats 2000000 in
theorem floats_bad (k n : Nat) (l : List Ld) (lift arm : Int) (hl : l.length ≤ 1000) (hn : 1000 < n) (he : firstI [checkP l, rng lift 1 1000000, rng arm 1 10000] ≠ 0) : R1 (k + 5) n 12 [.sl (rowsL l), .int .i64 lift, .int .i64 arm] =
    some (.p (.tup [two 0 0, .int .i64 (firstI [checkP l, rng lift 1 1000000, rng arm 1 10000])])) := by
  rw [R_eq (k + 4) n 12 _ f12 rfl]
  have hs := sum_run k n l hl hn
  have hw1 : R1 (k + 4) n 52 [.int .i64 lift, .int .i64 1, .int .i64 1000000] = some (.p (.int .i64 (rng lift 1 1000000))) := within_run (k + 2) n lift 1 1000000
  have hw2 : R1 (k + 4) n 52 [.int .i64 arm, .int .i64 1, .int .i64 10000] = some (.p (.int .i64 (rng arm 1 10000))) := within_run (k + 2) n arm 1 10000
  have hf := first_run (k + 3) n [checkP l, rng lift 1 1000000, rng arm 1 10000] (by simp) hn
  simp only [rowsI, List.map_cons, List.map_nil] at hf
  generalize hr1 : rng lift 1 1000000 = r1 at *
  generalize hr2 : rng arm 1 10000 = r2 at *
  generalize hee : firstI [checkP l, r1, r2] = ee at *
  generalize checkP l = c at *
  by_cases hc0 : c = 0
  · subst hc0
    rw [if_pos rfl] at hs
    simp [f12, c12, go_sem, hs, hw1, hw2, hf, he, two]
  · rw [if_neg hc0] at hs
    simp [f12, c12, go_sem, hs, hw1, hw2, hf, he, two]
end Go.Proofs.Ytnmnijgoggombaa.X
