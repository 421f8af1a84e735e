/- Part 3 of the proof of one statement about the given program: what the program's code computes is carried out over abstract values, and that is proved to hold of the program in every world. -/
import Derived.Test.YtnmnijgoggombaaLoB
import Derived.Maps.RangeRun
set_option maxRecDepth 100000
/- Any order of a region that draws does what the text's order does. -/
namespace Go.Proofs.Ytnmnijgoggombaa.X
open Go.RowKit
/-- One operation of a region, with its guard. -/
def xRO (P : Program) (C : Ctx) (N : Nat) (r : RO) (K : Env → Mem → Prop) (e : Env) (m : Mem) : Prop :=
  ∀ (all : Array Oper) (i : Nat) (o : Oper), all[i]? = some o → roIs P N all o r = true → ∀ G w a, Rel C G w N a e m → ∀ (next : Act → World → Prop) (Q : Exit → Act → World → Prop),
    (∀ a w, Holds C N K a w → next a w) → wpOpIn (fcF C) 0 P all Q i next a w
section
variable {P : Program} {C : Ctx} {N : Nat}
theorem xRO_item {d : Option Nat} {it : RItem} {K : Env → Mem → Prop} {e : Env} {m : Mem} (h : xItem P C N d it K e m) : xRO P C N ⟨d, it, none⟩ K e m := by
  intro all i o ho hc G w a hr next Q hn
  simp only [roIs, Bool.and_eq_true] at hc
  obtain ⟨⟨hd, hg⟩, hi⟩ := hc
  have hg' := guardIs_none hg
  unfold wpOpIn
  rw [ho]
  simp only
  rw [if_pos (by simp [Region.wanted, hg'])]
  exact h o hd hi G w a hr next Q hn
theorem xRO_guard {d : Option Nat} {it : RItem} {s : Nat} {want : Bool} {v : AVal} {y : Option Bool} {K : Env → Mem → Prop} {e : Env} {m : Mem} (hs : lk e s = some v) (hv : gb v = some y)
    (h1 : y = some want → xItem P C N d it K e m) (h2 : y ≠ some want → K (skipped d e) m) : xRO P C N ⟨d, it, some (s, want)⟩ K e m := by
  intro all i o ho hc G w a hr next Q hn
  simp only [roIs, Bool.and_eq_true] at hc
  obtain ⟨⟨hd, hg⟩, hi⟩ := hc
  obtain ⟨j, hgj, hj, h6⟩ := guardIs_some hg
  have hy := yield_slot hr hj h6 hs hv
  unfold wpOpIn
  rw [ho]
  simp only
  by_cases hb : y = some want
  · rw [if_pos (by simp [Region.wanted, hgj, hy, hb])]
    exact h1 hb o hd hi G w a hr next Q hn
  · rw [if_neg (by simp [Region.wanted, hgj, hy, hb])]
    exact ⟨fun f _ => wide_fn (C := C) (f := f), hn _ _ ⟨G, skipped d e, m, hr.skipped hd, h2 hb⟩⟩
def Ent.on (x : Ent) (s : Nat) : Bool := x.T.contains s
/-- An operation does the same in each state that is alike. -/
structure Solo (P : Program) (C : Ctx) (N : Nat) (x : Ent) (e : Env) (m m' : Mem) : Prop where
  run : ∀ e2 m2, (∀ s ∈ x.S, lk e2 s = lk e s) → Alike x.on m m2 → (∀ q ∈ x.hd, hdrAt m2 q = hdrAt m q) → ∃ m2', Both x.on m m2 m' m2' ∧ (x.ro = true → m2' = m2) ∧
    ∀ K, K (upd x.r.dst (x.v, m2', x.kl) e2) m2' → xRO P C N x.r K e2 m2
  within : ∀ s ∈ x.S, ∃ v, lk e s = some v ∧ (Within x.on v ∨ v ∈ x.av)
  kills : ∀ pl, x.kl.fn pl = true → x.on pl.s = true
  ro : x.ro = true → m' = m ∧ x.kl = .no
  keep : ∀ q, x.on q.s = true → hdrAt x.mb q = hdrAt x.ma q → hdrAt m' q = hdrAt m q
theorem hdrAt_congr {m m' : Mem} {q : Place} (h : lk m' q.s = lk m q.s) : hdrAt m' q = hdrAt m q := by
  unfold hdrAt getAt
  rw [h]
theorem evA_slots {e e2 : Env} {xs : List Arg} (h : ∀ s ∈ argSlots xs, lk e2 s = lk e s) : ∀ x ∈ xs, evA e2 x = evA e x := by
  induction xs with
  | nil => simp
  | cons y ys ih =>
    intro x hx
    cases y with
    | s t =>
      simp only [argSlots, List.mem_cons, forall_eq_or_imp] at h
      rcases List.mem_cons.1 hx with rfl | hx
      · exact h.1
      · exact ih h.2 x hx
    | c v =>
      rcases List.mem_cons.1 hx with rfl | hx
      · rfl
      · exact ih h x hx
theorem argSlots_mem {xs : List Arg} {s : Nat} (h : s ∈ argSlots xs) : .s s ∈ xs := by
  induction xs with
  | nil => simp [argSlots] at h
  | cons y ys ih =>
    cases y with
    | s t =>
      simp only [argSlots, List.mem_cons] at h
      rcases h with rfl | h
      · simp
      · exact List.mem_cons_of_mem _ (ih h)
    | c v => exact List.mem_cons_of_mem _ (ih h)
theorem argSites_ok {e : Env} {xs : List Arg} {x : Arg} {v : AVal} (hx : x ∈ xs) (hv : evA e x = some v) : ∀ s ∈ sitesV v, s ∈ argSites e xs := by
  induction xs with
  | nil => simp at hx
  | cons y ys ih =>
    intro s hs
    simp only [argSites, List.mem_append]
    rcases List.mem_cons.1 hx with rfl | hx
    · left; rw [hv]; exact hs
    · exact .inr (ih hx s hs)
theorem rd_ev1 {m m2 : Mem} {e : Env} {x : Arg} {f : Mem → AVal → Option Out} (h : ∀ v, evA e x = some v → Reads (fun m => f m v) m m2) : Reads (fun m => ev1 e x (f m)) m m2 := by
  unfold ev1
  cases hx : evA e x with
  | none => exact Reads.none fun m => rfl
  | some v => exact h v hx
theorem rd_evs {m m2 : Mem} {e : Env} {xs : List Arg} {f : Mem → List AVal → Option Out} (h : ∀ vs, Reads (fun m => f m vs) m m2) : Reads (fun m => evs e xs (f m)) m m2 := by
  unfold evs
  cases hx : evAs e xs with
  | none => exact Reads.none fun m => rfl
  | some v => exact h v
theorem rd_evB {m m2 : Mem} {e : Env} {x : Option Arg} {f : Mem → Option Int → Option Out} (h : ∀ n, Reads (fun m => f m n) m m2) : Reads (fun m => evB e x (f m)) m m2 := by
  unfold evB
  cases x with
  | none => exact h none
  | some a =>
    show Reads (fun m => match evA e a with | some v => (match intOf? v with | some n => f m (some n) | none => none) | none => none) m m2
    cases evA e a with
    | none => exact Reads.none fun m => rfl
    | some v =>
      simp only
      cases intOf? v with
      | none => exact Reads.none fun m => rfl
      | some n => exact h _
theorem aOp_reads {m m2 : Mem} {e : Env} {r : ROp} {d : Nat} (hr : roOp r = true) (hT : ∀ x ∈ opArgs r, ∀ v, evA e x = some v → AlikeV m2 m v) : Reads (fun m => aOp r d e m) m m2 := by
  cases r with
  | mv x => exact rd_ev1 fun v hv => Reads.some fun m => rfl
  | load n ag x => exact rd_ev1 fun v hv => reads_load (hT x (by simp [opArgs]) v hv)
  | faddr off x => exact rd_ev1 fun v hv => reads_faddr
  | iaddr z a x i =>
    cases a with
    | none => exact rd_ev1 fun v hv => rd_ev1 fun u hu => reads_iaddr (hT x (by simp [opArgs]) v hv)
    | some len => exact rd_ev1 fun v hv => rd_ev1 fun u hu => reads_iaddrA
  | field off n ag x => exact rd_ev1 fun v hv => reads_field
  | aindex len z ag x i => exact rd_ev1 fun v hv => rd_ev1 fun u hu => reads_aindex
  | sindex x i => exact rd_ev1 fun v hv => rd_ev1 fun u hu => reads_sindex
  | bin op x y => exact rd_ev1 fun v hv => rd_ev1 fun u hu => Reads.map (x := binVal op v u) (g := .p) fun _ _ => rfl
  | eq k neg x y => exact rd_ev1 fun v hv => rd_ev1 fun u hu => Reads.map (x := eqVal k v u) (g := fun b => .p (.bool (if neg = true then !b else b))) fun _ _ => rfl
  | un op x => exact rd_ev1 fun v hv => reads_un
  | build zero parts => exact rd_evs fun vs => reads_build
  | fslice z n zero parts => exact rd_evs fun vs => reads_fslice
  | lookup ls zero ok x k => exact rd_ev1 fun v hv => rd_ev1 fun u hu => reads_lookup (hT x (by simp [opArgs]) v hv)
  | extract i x => exact rd_ev1 fun v hv => reads_extract
  | cap x => exact rd_ev1 fun v hv => reads_cap
  | slc3 x lo hi mx => exact rd_ev1 fun v hv => rd_ev1 fun u hu => rd_ev1 fun s hs => rd_ev1 fun t ht => reads_slc3 (hT x (by simp [opArgs]) v hv)
  | len k x => exact rd_ev1 fun v hv => reads_len (hT x (by simp [opArgs]) v hv)
  | slc z x lo hi => exact rd_ev1 fun v hv => rd_evB fun n1 => rd_evB fun n2 => reads_slice (hT x (by simp [opArgs]) v hv)
  | ssl x lo hi => exact rd_ev1 fun v hv => rd_evB fun n1 => rd_evB fun n2 => reads_ssl
  | fn f fst caps =>
    refine rd_evs fun us => rd_evs fun vs => ?_
    cases hp : allP us with
    | none => exact Reads.none fun m => rfl
    | some us => exact Reads.map (x := allP vs) (g := fun cs => .p (.fn f us cs)) fun _ _ => rfl
  | pick c a b => exact rd_ev1 fun v hv => rd_ev1 fun u hu => rd_ev1 fun t ht => reads_pick
  | conv k x => exact rd_ev1 fun v hv => reads_conv
  | nilchk x => exact rd_ev1 fun v hv => reads_nilchk
  | minmax mx xs => exact rd_evs fun vs => reads_minmax
  | _ => simp [roOp] at hr
theorem roOp_out {r : ROp} {d : Nat} {e : Env} {m : Mem} {o : Out} (hr : roOp r = true) (h : aOp r d e m = some o) : o.2.1 = m ∧ o.2.2 = .no :=
  (aOp_reads (m2 := m) hr (fun _ _ _ _ _ _ => rfl)).1 o h
theorem solo_op {d : Option Nat} {o : ROp} {g : Option (Nat × Bool)} {e : Env} {m : Mem} {out : Out} (ho : aOp o (d.getD 0) e m = some out) (hev : allEv e (opArgs o) = true)
    (hg : ∀ s w, g = some (s, w) → lk e s = some (.p (.bool w))) :
    Solo P C N ⟨⟨d, .op o, g⟩, out.1, out.2.2, (if roOp o = true then [] else [d.getD 0]) ++ argSites e (opArgs o), roOp o, argSlots (opArgs o) ++ guardSlots g, [], [], m, out.2.1⟩ e m out.2.1 := by
  have hwithin : ∀ x ∈ opArgs o, ∀ v, evA e x = some v → Within (fun s => ((if roOp o = true then [] else [d.getD 0]) ++ argSites e (opArgs o)).contains s) v := by
    intro x hx v hv s hs
    simp only [List.contains_eq_mem, decide_eq_true_eq, List.mem_append]
    exact .inr (argSites_ok hx hv s (sitesV_ok v hs))
  have hd : roOp o = false → (fun s => ((if roOp o = true then [] else [d.getD 0]) ++ argSites e (opArgs o)).contains s) (d.getD 0) = true := by
    intro h; simp [h]
  refine ⟨?_, ?_, ?_, ?_, fun q _ h => h.symm⟩
  · intro e2 m2 hs ha _
    obtain ⟨m2', h1, h2, h3⟩ := aOp_local hwithin hd ha out ho
    have henv : aOp o (d.getD 0) e2 m2 = aOp o (d.getD 0) e m2 := aOp_env (evA_slots fun s h => hs s (List.mem_append_left _ h))
    refine ⟨m2', h2, ?_, ?_⟩
    · intro hro
      have := (roOp_out hro h1).1
      exact this
    · intro K hK
      have hit : xItem P C N d (.op o) K e2 m2 := xItem_op (by rw [henv]; exact h1) hK
      cases g with
      | none => exact xRO_item hit
      | some sw =>
        obtain ⟨s, w⟩ := sw
        have := hg s w rfl
        exact xRO_guard (by rw [hs s (by simp [guardSlots]), this]) rfl (fun _ => hit) (fun h => absurd rfl h)
  · intro s hs
    rcases List.mem_append.1 hs with hs | hs
    · have hm := argSlots_mem hs
      have := List.all_eq_true.1 hev _ hm
      obtain ⟨v, hv⟩ := Option.isSome_iff_exists.1 this
      exact ⟨v, hv, .inl (hwithin _ hm v hv)⟩
    · cases g with
      | none => simp [guardSlots] at hs
      | some sw =>
        obtain ⟨s', w⟩ := sw
        simp only [guardSlots, List.mem_singleton] at hs
        subst hs
        exact ⟨_, hg s w rfl, .inl (pure_within _)⟩
  · obtain ⟨m2', h1, h2, h3⟩ := aOp_local hwithin hd (m2 := m) (fun _ _ => rfl) out ho
    exact h3
  · exact fun h => roOp_out h ho
theorem solo_skip {d : Option Nat} {it : RItem} {s : Nat} {w : Bool} {v : AVal} {y : Option Bool} {e : Env} {m : Mem} (hs : lk e s = some v) (hv : gb v = some y) (hb : ¬ y = some w) :
    Solo P C N ⟨⟨d, it, some (s, w)⟩, .p (.tup []), .no, [], true, [s], [], [], m, m⟩ e m m := by
  refine ⟨?_, ?_, fun pl h => (by cases h), fun _ => ⟨rfl, rfl⟩, fun q _ h => rfl⟩
  · intro e2 m2 h ha _
    refine ⟨m2, Both.refl ha, fun _ => rfl, ?_⟩
    intro K hK
    refine xRO_guard (v := v) (by rw [h s (by simp), hs]) hv (fun h => absurd h hb) (fun _ => ?_)
    cases d <;> exact hK
  · intro t ht
    simp only [List.mem_singleton] at ht
    subst ht
    have : ∃ p, v = .p p := by unfold gb at hv; split at hv <;> first | exact ⟨_, rfl⟩ | cases hv
    obtain ⟨p, rfl⟩ := this
    exact ⟨_, hs, .inl (pure_within _)⟩
theorem aRet_local {t : AVal} {d : Nat} {m m2 : Mem} {out : Out} (h : aRet t d m = some out) (ha : Alike (fun s => out.2.2.list.contains s) m m2) :
    ∃ m2', aRet t d m2 = some (out.1, m2', out.2.2) ∧ Both (fun s => out.2.2.list.contains s) m m2 out.2.1 m2' ∧ (out.2.2.isNo = true → out.2.1 = m ∧ m2' = m2 ∧ out.2.2 = .no) ∧
      ∀ pl, out.2.2.fn pl = true → out.2.2.list.contains pl.s = true := by
  unfold aRet at h ⊢
  split at h
  · split at h
    · cases h
    · rename_i h1
      cases h
      exact ⟨m2, by rw [if_neg h1], Both.refl ha, (fun _ => ⟨rfl, rfl, rfl⟩), (fun pl h => by cases h)⟩
  · split at h
    · cases h
    · rename_i h1
      cases h
      refine ⟨_, by rw [if_neg h1], ?_, (fun h => by cases h), (fun pl h => h)⟩
      have key : ∀ (m : Mem) s, lk ((unp d t 0).2.1 ++ offMem ((unp d t 0).2.1.map (·.1)) m) s = if ((unp d t 0).2.1.map (·.1)).contains s = true then lk (unp d t 0).2.1 s else lk m s := by
        intro m s
        rw [lk_append]
        have off : ∀ (D : List Nat) (m : Mem), lk (offMem D m) s = if D.contains s = true then none else lk m s := by
          intro D m
          induction m with
          | nil => simp [offMem, lk]
          | cons x m ih =>
            unfold offMem at ih ⊢
            by_cases hx : D.contains x.1 = true
            · rw [List.filter_cons_of_neg (by simpa using hx), ih]
              by_cases hs : s = x.1
              · subst hs; simp_all
              · simp only [lk]; rw [if_neg hs]
            · rw [List.filter_cons_of_pos (by simpa using hx)]
              simp only [lk, ih]
              by_cases hs : s = x.1
              · subst hs; simp_all
              · simp [hs]
        rw [off]
        have none' : ∀ (l : Mem), (l.map (·.1)).contains s = false → lk l s = none := by
          intro l
          induction l with
          | nil => intro _; rfl
          | cons x l ih =>
            intro h
            simp only [List.map_cons, List.contains_cons, Bool.or_eq_false_iff, beq_eq_false_iff_ne] at h
            simp only [lk]
            rw [if_neg h.1]
            exact ih h.2
        split
        · rename_i hc; rw [Option.or_none]
        · rename_i hc; rw [none' _ (by simpa using hc)]; rfl
      refine ⟨?_, ?_, ?_⟩
      · intro s hs
        have hs' : ((unp d t 0).2.1.map (·.1)).contains s = true := hs
        simp only [key, hs', if_true]
      · intro s hs
        have hs' : ((unp d t 0).2.1.map (·.1)).contains s = false := hs
        simp only [key, hs', Bool.false_eq_true, if_false]
      · intro s hs
        have hs' : ((unp d t 0).2.1.map (·.1)).contains s = false := hs
        simp only [key, hs', Bool.false_eq_true, if_false]
theorem pure_args : ∀ {args : List Arg} {vs : List AVal} {ps : List PVal} {e : Env}, evAs e args = some vs → allP vs = some ps → ∀ y ∈ args, ∃ q, evA e y = some (.p q) := by
  intro args
  induction args with
  | nil => simp
  | cons y ys ih =>
    intro vs ps e h1 h2 z hz
    simp only [evAs, Option.bind_eq_some_iff, Option.map_eq_some_iff] at h1
    obtain ⟨u, h3, us, h4, rfl⟩ := h1
    cases u with
    | p q =>
      simp only [allP, Option.map_eq_some_iff] at h2
      obtain ⟨qs, h5, rfl⟩ := h2
      rcases List.mem_cons.1 hz with rfl | hz
      · exact ⟨q, h3⟩
      · exact ih h4 h5 z hz
    | _ => simp [allP] at h2
theorem callOut_spec {σ : Nat → List PVal → Option AVal} {f : Nat} {fst caps : List PVal} {args : List Arg} {d : Nat} {e : Env} {m : Mem} {out : Out} (h : callOut σ f fst caps args d e m = some out) :
    (∀ y ∈ args, ∃ q, evA e y = some (.p q)) ∧ ∃ t, aRet t d m = some out ∧ ∀ e2 m2 out2, (∀ x ∈ args, evA e2 x = evA e x) → aRet t d m2 = some out2 → callOut σ f fst caps args d e2 m2 = some out2 := by
  unfold callOut at h
  split at h
  · rename_i vs hvs
    split at h
    · rename_i ps hps
      split at h
      · rename_i t ht
        refine ⟨pure_args hvs hps, t, h, fun e2 m2 out2 he h2 => ?_⟩
        unfold callOut
        rw [evAs_congr he, hvs]
        simp only [hps, ht, h2]
      · cases h
    · cases h
  · cases h
theorem hdrAt_some {m : Mem} {q : Place} {h : Nat × Nat × Nat} (hh : hdrAt m q = some h) : ∃ a, getAt m q = some a ∧
    ((∃ rows, a = .own false h.2.1 rows ∧ h = (0, h.2.1, rows.length)) ∨ (∃ rows, a = .own true h.2.1 rows ∧ h.1 = 1) ∨ ∃ es, a = .omap es ∧ h = (2, 0, 0)) := by
  unfold hdrAt at hh
  split at hh <;> first | (cases hh; done) | skip
  · cases hh; exact ⟨_, by assumption, .inl ⟨_, rfl, rfl⟩⟩
  · cases hh; exact ⟨_, by assumption, .inr (.inl ⟨_, rfl, rfl⟩)⟩
  · cases hh; exact ⟨_, by assumption, .inr (.inr ⟨_, rfl, rfl⟩)⟩
theorem load_hdr {m : Mem} {pl : Place} {i j : Nat} {h : Nat × Nat × Nat} (hh : hdrAt m (pl.ext i j) = some h) :
    oLoad 1 false m (.rpt pl i j) = some ((if h.1 = 0 then .rsl (pl.ext i j) 0 h.2.2 else if h.1 = 1 then .rpt (pl.ext i j) 0 0 else .rmp (pl.ext i j)), m, .no) := by
  obtain ⟨a, ha, hc⟩ := hdrAt_some hh
  rw [Place.ext_eq, getAt_app] at ha
  simp only [Option.bind_eq_some_iff] at ha
  obtain ⟨b, hb, hs⟩ := ha
  cases b with
  | own p z rows =>
    simp only [sub, Option.bind_eq_some_iff, Option.some.injEq] at hs
    obtain ⟨a', ha', rfl⟩ := hs
    obtain ⟨row, h1, h2⟩ := cellAt_some.1 ha'
    have h3 : (row.drop j).take 1 = [a'] := by
      have hlt := (List.getElem?_eq_some_iff.1 h2).1
      rw [List.getElem?_eq_getElem hlt] at h2
      cases h2
      rw [List.drop_eq_getElem_cons hlt]
      rfl
    simp only [oLoad, hb, h1, h3]
    rcases hc with ⟨r, rfl, h4⟩ | ⟨r, rfl, h4⟩ | ⟨r, rfl, h4⟩
    · rw [h4]; simp [refsOf, refOf, ofCells]
    · rw [h4]; simp [refsOf, refOf, ofCells]
    · rw [h4]; simp [refsOf, refOf, ofCells]
  | _ => simp [sub] at hs
theorem soft_run {o : ROp} {d : Nat} {e : Env} {m : Mem} {out : Out} {hd : List Place} {av : List AVal} (hs : softOf o e m = some (hd, av)) (ho : aOp o d e m = some out) :
    (out.2.1 = m ∧ out.2.2 = .no) ∧ (∀ e2 m2, (∀ x ∈ opArgs o, evA e2 x = evA e x) → (∀ q ∈ hd, hdrAt m2 q = hdrAt m q) → aOp o d e2 m2 = some (out.1, m2, .no)) ∧
      ∀ x ∈ opArgs o, ∃ v, evA e x = some v ∧ v ∈ av := by
  unfold softOf at hs
  split at hs
  · rename_i x
    split at hs
    · rename_i v hv
      cases hs
      simp only [aOp, ev1, hv, Option.some.injEq] at ho
      cases ho
      refine ⟨⟨rfl, rfl⟩, fun e2 m2 he _ => ?_, fun y hy => ?_⟩
      · simp only [aOp, ev1, he x (by simp [opArgs]), hv]
      · simp only [opArgs, List.mem_singleton] at hy; subst hy; exact ⟨v, hv, by simp⟩
    · cases hs
  · rename_i off x
    split at hs
    · rename_i v hv
      cases hs
      simp only [aOp, ev1, hv] at ho
      have hr := (reads_faddr (off := off) (x := v) (m := m) (m2 := m)).1 out ho
      refine ⟨hr, fun e2 m2 he _ => ?_, fun y hy => ?_⟩
      · simp only [aOp, ev1, he x (by simp [opArgs]), hv]
        unfold oFaddr at ho ⊢
        split at ho <;> first | (cases ho; rfl) | cases ho
      · simp only [opArgs, List.mem_singleton] at hy; subst hy; exact ⟨v, hv, by simp⟩
    · cases hs
  · rename_i n ag x
    split at hs
    · rename_i pl i j hv
      split at hs
      · rename_i hc
        obtain ⟨rfl, rfl, hh⟩ := hc
        cases hs
        obtain ⟨h, hh⟩ := Option.isSome_iff_exists.1 hh
        simp only [aOp, ev1, hv, load_hdr hh, Option.some.injEq] at ho
        cases ho
        refine ⟨⟨rfl, rfl⟩, fun e2 m2 he hq => ?_, fun y hy => ?_⟩
        · have := hq (pl.ext i j) (by simp)
          rw [hh] at this
          simp only [aOp, ev1, he x (by simp [opArgs]), hv, load_hdr this]
        · simp only [opArgs, List.mem_singleton] at hy; subst hy; exact ⟨_, hv, by simp⟩
      · cases hs
    · cases hs
  · rename_i z x i
    split at hs
    · rename_i pl off len v hv hi
      split at hs
      · rename_i hh
        cases hs
        obtain ⟨h, hh⟩ := Option.isSome_iff_exists.1 hh
        simp only [aOp, ev2, ev1, hv, hi] at ho
        have key : ∀ m2, hdrAt m2 pl = some h → oIaddr z m2 (.rsl pl off len) (.p v) = (oIaddr z m (.rsl pl off len) (.p v)).map fun o => (o.1, m2, .no) := by
          intro m2 h2
          obtain ⟨a, ha, hc⟩ := hdrAt_some hh
          obtain ⟨a2, ha2, hc2⟩ := hdrAt_some h2
          unfold oIaddr
          cases intOf? (.p v) with
          | none => rfl
          | some n =>
            simp only [ha, ha2]
            rcases hc with ⟨r, rfl, e1⟩ | ⟨r, rfl, e1⟩ | ⟨r, rfl, e1⟩ <;> rcases hc2 with ⟨r2, rfl, e2⟩ | ⟨r2, rfl, e2⟩ | ⟨r2, rfl, e2⟩ <;>
              first | rfl | (simp only; split <;> rfl) | (exfalso; rw [e1] at e2; simp at e2; done) | (exfalso; rw [e2] at e1; simp at e1; done)
        refine ⟨?_, fun e2 m2 he hq => ?_, fun y hy => ?_⟩
        · have := key m hh
          rw [ho] at this
          simp only [Option.map_some, Option.some.injEq] at this
          rw [this]
          exact ⟨rfl, rfl⟩
        · have := hq pl (by simp)
          rw [hh] at this
          simp only [aOp, ev2, ev1, he x (by simp [opArgs]), he i (by simp [opArgs]), hv, hi, key m2 this, ho, Option.map_some]
        · simp only [opArgs, List.mem_cons, List.not_mem_nil, or_false] at hy
          rcases hy with rfl | rfl
          · exact ⟨_, hv, by simp⟩
          · exact ⟨_, hi, by simp⟩
      · cases hs
    · cases hs
  · cases hs
/-- An operation that looks at kinds and sizes alone. -/
theorem solo_soft {d : Option Nat} {o : ROp} {g : Option (Nat × Bool)} {e : Env} {m : Mem} {out : Out} {hd : List Place} {av : List AVal} (hs : softOf o e m = some (hd, av)) (ho : aOp o (d.getD 0) e m = some out)
    (hg : ∀ s w, g = some (s, w) → lk e s = some (.p (.bool w))) :
    Solo P C N ⟨⟨d, .op o, g⟩, out.1, out.2.2, [], true, argSlots (opArgs o) ++ guardSlots g, hd, av, m, out.2.1⟩ e m out.2.1 := by
  obtain ⟨⟨h1, h2⟩, h3, h4⟩ := soft_run hs ho
  refine ⟨?_, ?_, fun pl h => (by rw [h2] at h; cases h), fun _ => ⟨h1, h2⟩, fun q _ _ => by rw [h1]⟩
  · intro e2 m2 hsl ha hq
    refine ⟨m2, ?_, fun _ => rfl, ?_⟩
    · have : Both (fun s => ([] : List Nat).contains s) m m2 m m2 := Both.refl (fun s h => by simp at h)
      show Both (fun s => ([] : List Nat).contains s) m m2 out.2.1 m2
      rw [h1]
      exact this
    · intro K hK
      have hrun := h3 e2 m2 (evA_slots fun s h => hsl s (List.mem_append_left _ h)) hq
      rw [h2] at hK
      have hit : xItem P C N d (.op o) K e2 m2 := xItem_op hrun hK
      cases g with
      | none => exact xRO_item hit
      | some sw =>
        obtain ⟨s, w⟩ := sw
        have := hg s w rfl
        exact xRO_guard (by rw [hsl s (by simp [guardSlots]), this]) rfl (fun _ => hit) (fun h => absurd rfl h)
  · intro s hsl
    rcases List.mem_append.1 hsl with hsl | hsl
    · obtain ⟨v, hv, hm⟩ := h4 _ (argSlots_mem hsl)
      exact ⟨v, hv, .inr hm⟩
    · cases g with
      | none => simp [guardSlots] at hsl
      | some sw =>
        obtain ⟨s', w⟩ := sw
        simp only [guardSlots, List.mem_singleton] at hsl
        subst hsl
        exact ⟨_, hg s w rfl, .inl (pure_within _)⟩
/-- A call, alone. -/
theorem solo_call {σ : Nat → List PVal → Option AVal} (hσ : SigOK P σ) {d : Option Nat} {it : RItem} {g : Option (Nat × Bool)} {e : Env} {m : Mem} {out : Out} (hit : ∀ o, it ≠ .op o) (ho : itemOut σ it (d.getD 0) e m = some out)
    (hg : ∀ s w, g = some (s, w) → lk e s = some (.p (.bool w))) :
    Solo P C N ⟨⟨d, it, g⟩, out.1, out.2.2, out.2.2.list, out.2.2.isNo, roSlots ⟨d, it, g⟩, [], [], m, out.2.1⟩ e m out.2.1 := by
  have key : (∀ y ∈ itemArgs it, ∃ q, evA e y = some (.p q)) ∧ ∃ t, aRet t (d.getD 0) m = some out ∧ ∀ e2 m2 out2, (∀ x ∈ itemArgs it, evA e2 x = evA e x) → aRet t (d.getD 0) m2 = some out2 → itemOut σ it (d.getD 0) e2 m2 = some out2 := by
    cases it with
    | op o => exact absurd rfl (hit o)
    | call f args => exact callOut_spec ho
    | callv x args =>
      simp only [itemOut] at ho ⊢
      split at ho
      · rename_i f fst caps hf
        obtain ⟨h1, t, h2, h3⟩ := callOut_spec ho
        refine ⟨?_, t, h2, fun e2 m2 out2 he h4 => ?_⟩
        · intro y hy
          simp only [itemArgs, List.mem_cons] at hy
          rcases hy with rfl | hy
          · exact ⟨_, hf⟩
          · exact h1 y hy
        · rw [he x (by simp [itemArgs]), hf]
          exact h3 e2 m2 out2 (fun y hy => he y (by simp [itemArgs, hy])) h4
      · cases ho
    | calli f args l => cases ho
  obtain ⟨hpure, t, ht, hmove⟩ := key
  refine ⟨?_, ?_, ?_, ?_, fun q _ h => h.symm⟩
  · intro e2 m2 hs ha _
    obtain ⟨m2', h1, h2, h3, _⟩ := aRet_local ht ha
    refine ⟨m2', h2, fun h => (h3 h).2.1, ?_⟩
    intro K hK
    have hit : xItem P C N d it K e2 m2 := xItem_out hσ (hmove e2 m2 _ (evA_slots fun s h => hs s (List.mem_append_left _ h)) h1) hK
    cases g with
    | none => exact xRO_item hit
    | some sw =>
      obtain ⟨s, w⟩ := sw
      exact xRO_guard (by rw [hs s (by simp [roSlots, guardSlots]), hg s w rfl]) rfl (fun _ => hit) (fun h => absurd rfl h)
  · intro s hs
    rcases List.mem_append.1 hs with hs | hs
    · obtain ⟨q, hq⟩ := hpure _ (argSlots_mem hs)
      exact ⟨_, hq, .inl (pure_within _)⟩
    · cases g with
      | none => simp [guardSlots] at hs
      | some sw =>
        obtain ⟨s', w⟩ := sw
        simp only [guardSlots, List.mem_singleton] at hs
        subst hs
        exact ⟨_, hg s w rfl, .inl (pure_within _)⟩
  · obtain ⟨_, _, _, _, h4⟩ := aRet_local (m2 := m) ht (fun _ _ => rfl)
    exact h4
  · intro h
    obtain ⟨_, _, _, h3, _⟩ := aRet_local (m2 := m) ht (fun _ _ => rfl)
    exact ⟨(h3 h).1, (h3 h).2.2⟩
end
end Go.Proofs.Ytnmnijgoggombaa.X
/- Swapping two operations that are apart; pulling one to the front. -/
namespace Go.Proofs.Ytnmnijgoggombaa.X
open Go.RowKit
mutual
theorem ment_at {K : Place → Bool} : (v : AVal) → v.ment K = true → ∃ pl, K pl = true ∧ v.ment (fun q => q.s == pl.s) = true
  | .agg cs, h => by simp only [AVal.ment] at h ⊢; exact mentL_at cs h
  | .tup cs, h => by simp only [AVal.ment] at h ⊢; exact mentL_at cs h
  | .rsl pl _ _, h => by simp only [AVal.ment] at h ⊢; exact ⟨pl, h, by simp⟩
  | .rpt pl _ _, h => by simp only [AVal.ment] at h ⊢; exact ⟨pl, h, by simp⟩
  | .rmp pl, h => by simp only [AVal.ment] at h ⊢; exact ⟨pl, h, by simp⟩
  | .rit pl mp _, h => by
    simp only [AVal.ment, Bool.or_eq_true] at h ⊢
    rcases h with h | h
    · exact ⟨pl, h, .inl (by simp)⟩
    · exact ⟨mp, h, .inr (by simp)⟩
  | .p _, h => by simp [AVal.ment] at h
  | .own _ _ _, h => by simp [AVal.ment] at h
  | .omap _, h => by simp [AVal.ment] at h
  | .dead, h => by simp [AVal.ment] at h
  | .unk, h => by simp [AVal.ment] at h
  | .siter _ _, h => by simp [AVal.ment] at h
  | .smap _, h => by simp [AVal.ment] at h
  | .miter _ _ _, h => by simp [AVal.ment] at h
theorem mentL_at {K : Place → Bool} : (l : List AVal) → AVal.mentL K l = true → ∃ pl, K pl = true ∧ AVal.mentL (fun q => q.s == pl.s) l = true
  | [], h => by simp [AVal.mentL] at h
  | a :: l, h => by
    simp only [AVal.mentL, Bool.or_eq_true] at h ⊢
    rcases h with h | h
    · obtain ⟨pl, h1, h2⟩ := ment_at a h; exact ⟨pl, h1, .inl h2⟩
    · obtain ⟨pl, h1, h2⟩ := mentL_at l h; exact ⟨pl, h1, .inr h2⟩
end
theorem filter_one {α : Type} (f : α → Bool) (v : α) : Option.filter f (some v) = if f v = true then some v else none := rfl
theorem lk_killBy (f : AVal → Bool) (e : Env) (t : Nat) : lk (killBy f e) t = (lk e t).filter fun v => !f v := by
  induction e with
  | nil => rfl
  | cons x e ih =>
    simp only [killBy]
    by_cases hx : f x.2 = true
    · rw [if_pos hx, lk_filter]
      simp only [lk]
      by_cases ht : t = x.1
      · simp [ht, hx, filter_one]
      · simp [ht, ih]
    · rw [if_neg hx]
      simp only [lk]
      by_cases ht : t = x.1
      · simp [ht, hx, filter_one]
      · simp [ht, ih]
theorem lk_killEnv (k : Kill) (e : Env) (t : Nat) : lk (killEnv k e) t = (lk e t).filter fun v => !(v.ment k.fn) := by
  cases k with
  | no =>
    have : ∀ v : AVal, v.ment Kill.no.fn = false := AVal.ment_false
    simp only [killEnv, this]
    cases lk e t <;> rfl
  | site s => exact lk_killBy _ e t
  | under pl => exact lk_killBy _ e t
  | sites l => exact lk_killBy _ e t
  | lent D ps => exact lk_killBy _ e t
theorem lk_upd (d : Option Nat) (v : AVal) (m : Mem) (k : Kill) (e : Env) (t : Nat) :
    lk (upd d (v, m, k) e) t = if d = some t then some v else (lk e t).filter fun v => !(v.ment k.fn) := by
  cases d with
  | none => simp only [upd, lk_killEnv]; rfl
  | some d =>
    simp only [upd, lk, lk_killEnv, Option.some.injEq]
    by_cases h : t = d
    · subst h; simp
    · rw [if_neg h, if_neg (fun e => h e.symm)]
section
variable {P : Program} {C : Ctx} {N : Nat}
theorem Solo.move {x : Ent} {e e2 : Env} {m m' m2 : Mem} (h : Solo P C N x e m m') (he : ∀ s ∈ x.S, lk e2 s = lk e s) (ha : Alike x.on m m2) (hq : ∀ q ∈ x.hd, hdrAt m2 q = hdrAt m q) :
    ∃ m2', Solo P C N x e2 m2 m2' ∧ Both x.on m m2 m' m2' := by
  obtain ⟨m2', h1, h2, _⟩ := h.run e2 m2 he ha hq
  refine ⟨m2', ⟨?_, ?_, h.kills, fun hr => ⟨h2 hr, (h.ro hr).2⟩, ?_⟩, h1⟩
  · intro e3 m3 he3 ha3 hq3
    obtain ⟨m3', g1, g2, g3⟩ := h.run e3 m3 (fun s hs => (he3 s hs).trans (he s hs)) (fun s hs => (ha3 s hs).trans (ha s hs)) (fun q hh => (hq3 q hh).trans (hq q hh))
    exact ⟨m3', ⟨fun s hs => (g1.like s hs).trans (h1.like s hs).symm, h1.off2, g1.off2⟩, g2, g3⟩
  · intro s hs
    obtain ⟨v, hv, hw⟩ := h.within s hs
    exact ⟨v, by rw [he s hs]; exact hv, hw⟩
  · intro q hon hk
    rw [hdrAt_congr (h1.like q.s hon), hdrAt_congr (ha q.s hon)]
    exact h.keep q hon hk
theorem Solo.off {x : Ent} {e : Env} {m m' : Mem} (h : Solo P C N x e m m') {s : Nat} (hs : x.on s = false) : lk m' s = lk m s := by
  obtain ⟨_, h1, _⟩ := h.run e m (fun _ _ => rfl) (fun _ _ => rfl) (fun _ _ => rfl)
  exact h1.off s hs
def TextRun (P : Program) (C : Ctx) (N : Nat) : List Ent → Env → Mem → Env → Mem → Prop
  | [], e, m, ef, mf => (∀ t, lk e t = lk ef t) ∧ ∀ s, lk m s = lk mf s
  | x :: xs, e, m, ef, mf => ∃ m', Solo P C N x e m m' ∧ TextRun P C N xs (upd x.r.dst (x.v, m', x.kl) e) m' ef mf
theorem TextRun.congr : ∀ {xs : List Ent} {e e2 : Env} {m m2 : Mem} {ef : Env} {mf : Mem}, TextRun P C N xs e m ef mf → (∀ t, lk e2 t = lk e t) → (∀ s, lk m2 s = lk m s) → TextRun P C N xs e2 m2 ef mf := by
  intro xs
  induction xs with
  | nil => intro e e2 m m2 ef mf h he hm; exact ⟨fun t => (he t).trans (h.1 t), fun s => (hm s).trans (h.2 s)⟩
  | cons x xs ih =>
    intro e e2 m m2 ef mf h he hm
    obtain ⟨m', h1, h2⟩ := h
    obtain ⟨m2', g1, g2⟩ := h1.move (fun s _ => he s) (fun s _ => hm s) (fun q _ => hdrAt_congr (hm q.s))
    refine ⟨m2', g1, ih h2 ?_ ?_⟩
    · intro t; rw [lk_upd, lk_upd, he t]
    · intro s
      cases hs : x.on s with
      | true => exact g2.like s hs
      | false => rw [g2.off2 s hs, g2.off s hs, hm s]
structure Indep (j k : Ent) : Prop where
  a : ∀ d, j.r.dst = some d → d ∉ k.S
  b : ∀ d, k.r.dst = some d → d ∉ j.S
  c : ∀ d, j.r.dst = some d → k.r.dst ≠ some d
  m : j.ro = true ∨ ∀ s, j.on s = true → k.on s = false
  n : k.ro = true ∨ ∀ s, j.on s = true → k.on s = false
  v : j.v.ment k.kl.fn = false
  u : k.v.ment j.kl.fn = false
  hj : ∀ q ∈ j.hd, k.on q.s = true → hdrAt k.mb q = hdrAt k.ma q
  hk : ∀ q ∈ k.hd, j.on q.s = true → hdrAt j.mb q = hdrAt j.ma q
  av : ∀ v ∈ j.av, v.ment k.kl.fn = false
theorem filter_some {α : Type} {f : α → Bool} {o : Option α} {v : α} (h : o.filter f = some v) : o = some v := by
  cases o with
  | none => simp at h
  | some x => simp only [Option.filter] at h; split at h <;> simp_all
theorem TextRun.swap {j k : Ent} {xs : List Ent} {e : Env} {m : Mem} {ef : Env} {mf : Mem} (hi : Indep j k) (h : TextRun P C N (j :: k :: xs) e m ef mf) : TextRun P C N (k :: j :: xs) e m ef mf := by
  obtain ⟨m1, hj, mk, hk, hrest⟩ := h
  have both : ∀ s, j.on s = true → k.on s = true → j.ro = true ∧ k.ro = true := by
    intro s h1 h2
    refine ⟨hi.m.resolve_right fun h => ?_, hi.n.resolve_right fun h => ?_⟩ <;> (have := h s h1; rw [h2] at this; cases this)
  obtain ⟨mk0, hk0, bk⟩ := hk.move (e2 := e) (m2 := m) (by
      intro s hs
      obtain ⟨v, hv, _⟩ := hk.within s hs
      rw [hv]
      rw [lk_upd] at hv
      split at hv
      · rename_i hd; exact absurd hs (hi.a s hd)
      · exact filter_some hv) (by
      intro s hs
      cases hjs : j.on s with
      | true => rw [(hj.ro (both s hjs hs).1).1]
      | false => rw [hj.off hjs]) (by
      intro q hq
      cases hjs : j.on q.s with
      | true => exact (hj.keep q hjs (hi.hk q hq hjs)).symm
      | false => exact (hdrAt_congr (hj.off hjs)).symm)
  obtain ⟨mj0, hj0, bj⟩ := hj.move (e2 := upd k.r.dst (k.v, mk0, k.kl) e) (m2 := mk0) (by
      intro s hs
      obtain ⟨v, hv, hw⟩ := hj.within s hs
      rw [lk_upd, hv]
      rw [if_neg (fun hd => hi.b s hd hs)]
      have : v.ment k.kl.fn = false := by
        cases hm : v.ment k.kl.fn with
        | false => rfl
        | true =>
          rcases hw with hw | hw
          rotate_left
          · rw [hi.av v hw] at hm; cases hm
          obtain ⟨pl, h1, h2⟩ := ment_at v hm
          have hro := (both pl.s (hw pl.s h2) (hk.kills pl h1)).2
          rw [(hk.ro hro).2] at hm
          exact absurd hm (by rw [show v.ment Kill.no.fn = false from AVal.ment_false v]; simp)
      simp [this]) (by
      intro s hs
      cases hks : k.on s with
      | true => rw [(hk0.ro (both s hs hks).2).1]
      | false => rw [hk0.off hks]) (by
      intro q hq
      cases hks : k.on q.s with
      | true => exact hk0.keep q hks (hi.hj q hq hks)
      | false => exact hdrAt_congr (hk0.off hks))
  refine ⟨mk0, hk0, mj0, hj0, hrest.congr ?_ ?_⟩
  · intro t
    simp only [lk_upd]
    by_cases h1 : j.r.dst = some t
    · rw [if_pos h1, if_neg (hi.c t h1), if_pos h1, filter_one, hi.v]
      rfl
    · rw [if_neg h1, if_neg h1]
      by_cases h2 : k.r.dst = some t
      · rw [if_pos h2, if_pos h2, filter_one, hi.u]; rfl
      · rw [if_neg h2, if_neg h2]
        cases lk e t with
        | none => rfl
        | some v => cases hv1 : v.ment j.kl.fn <;> cases hv2 : v.ment k.kl.fn <;> simp [filter_one, hv1, hv2]
  · intro s
    cases hjs : j.on s with
    | true =>
      rw [bj.like s hjs]
      cases hks : k.on s with
      | true => rw [(hk.ro (both s hjs hks).2).1]
      | false => rw [hk.off hks]
    | false =>
      rw [bj.off2 s hjs]
      cases hks : k.on s with
      | true => rw [bk.like s hks]
      | false => rw [bk.off2 s hks, hk.off hks, hj.off hjs]
theorem TextRun.pull {k : Ent} {post : List Ent} {ef : Env} {mf : Mem} : ∀ {pre : List Ent} {e : Env} {m : Mem}, (∀ j ∈ pre, Indep j k) → TextRun P C N (pre ++ k :: post) e m ef mf →
    TextRun P C N (k :: (pre ++ post)) e m ef mf := by
  intro pre
  induction pre with
  | nil => intro e m _ h; exact h
  | cons j pre ih =>
    intro e m hi h
    obtain ⟨m1, hj, hrest⟩ := h
    exact TextRun.swap (hi j (by simp)) ⟨m1, hj, ih (fun x hx => hi x (List.mem_cons_of_mem _ hx)) hrest⟩
theorem runD_text {σ : Nat → List PVal → Option AVal} (hσ : SigOK P σ) : ∀ {l : List RO} {e : Env} {m : Mem} {es : List Ent} {ef : Env} {mf : Mem},
    runD σ l e m = some (es, ef, mf) → TextRun P C N es e m ef mf ∧ es.map (·.r) = l := by
  intro l
  induction l with
  | nil => intro e m es ef mf h; simp only [runD, Option.some.injEq, Prod.mk.injEq] at h; obtain ⟨rfl, rfl, rfl⟩ := h; exact ⟨⟨fun _ => rfl, fun _ => rfl⟩, rfl⟩
  | cons r rs ih =>
    intro e m es ef mf h
    have go : (∀ s w, r.guard = some (s, w) → lk e s = some (.p (.bool w))) → (match itemOut σ r.it (r.dst.getD 0) e m with
      | some out => if allEv e (itemArgs r.it) = true then
          match runD σ rs (upd r.dst out e) out.2.1 with
          | some (es, st) => some (entOf r (r.dst.getD 0) e m out :: es, st)
          | none => none
        else none
      | none => none) = some (es, ef, mf) → TextRun P C N es e m ef mf ∧ es.map (·.r) = r :: rs := by
      intro hg h
      split at h
      · rename_i out ho
        split at h
        · rename_i hev
          split at h
          · rename_i es' st' hr
            simp only [Option.some.injEq, Prod.mk.injEq] at h
            obtain ⟨rfl, rfl⟩ := h
            obtain ⟨i1, i2⟩ := ih hr
            obtain ⟨d, it, g⟩ := r
            cases it with
            | op o =>
              cases hs : softOf o e m with
              | some ha =>
                obtain ⟨hd, av⟩ := ha
                simp only [entOf, hs]
                exact ⟨⟨out.2.1, solo_soft hs ho hg, i1⟩, by simp [i2]⟩
              | none =>
                simp only [entOf, hs]
                exact ⟨⟨out.2.1, solo_op ho hev hg, i1⟩, by simp [i2]⟩
            | call f args => exact ⟨⟨out.2.1, solo_call hσ (by simp) ho hg, i1⟩, by simp [entOf, i2]⟩
            | callv f args => exact ⟨⟨out.2.1, solo_call hσ (by simp) ho hg, i1⟩, by simp [entOf, i2]⟩
            | calli f args l => cases ho
          · cases h
        · cases h
      · cases h
    simp only [runD] at h
    split at h
    · rename_i hg
      exact go (by rw [hg]; simp) h
    · rename_i s want hg
      split at h
      · rename_i v hb
        split at h
        · rename_i y hy
          split at h
          · rename_i hbw
            subst hbw
            have hvb : v = .p (.bool want) := by unfold gb at hy; split at hy <;> first | (cases hy; done) | (cases hy; rfl)
            subst hvb
            exact go (by rw [hg]; rintro s' w' ⟨⟩; exact hb) h
          rename_i hbw
          split at h
          · rename_i es' st' hr
            simp only [Option.some.injEq, Prod.mk.injEq] at h
            obtain ⟨rfl, rfl⟩ := h
            obtain ⟨i1, i2⟩ := ih hr
            obtain ⟨d, it, g⟩ := r
            simp only at hg
            subst hg
            refine ⟨⟨m, solo_skip hb hy hbw, ?_⟩, by simp [i2]⟩
            have : upd d (.p (.tup []), m, .no) e = skipped d e := by cases d <;> rfl
            rw [this]
            exact i1
          · cases h
        · cases h
      · cases h
end
end Go.Proofs.Ytnmnijgoggombaa.X
/- Each order that the draw may take. -/
namespace Go.Proofs.Ytnmnijgoggombaa.X
open Go.RowKit
/-- 'k' leaves the kinds and sizes that 'j' looked at. -/
def softE (j k : Ent) : Bool := (j.hd.all fun q => !(k.T.contains q.s) || hdrAt k.mb q == hdrAt k.ma q) && j.av.all fun v => !(v.ment k.kl.fn)
/-- What operations do that are not ordered is apart. -/
def indepE (j k : Ent) : Bool :=
  ((j.ro && k.ro) || ((j.T.all fun s => !(k.T.contains s)) || (j.ro && k.ro)) && !(j.v.ment k.kl.fn) && !(k.v.ment j.kl.fn)) && softE j k && softE k j
def indepAt (B : List Nat) (k : Nat) (x : Ent) : Nat → List Ent → Bool
  | _, [] => true
  | j, y :: ys => (bef B k j || indepE y x) && indepAt B k x (j + 1) ys
def indepFrom (B : List Nat) : List Ent → Nat → List Ent → Bool
  | _, _, [] => true
  | pre, k, x :: xs => indepAt B k x 0 pre && indepFrom B (pre ++ [x]) (k + 1) xs
theorem certFrom_get {B : List Nat} : ∀ {os : List Oper} {i j : Nat} {o : Oper}, certFrom B i os = true → os[j]? = some o → certAt B (i + j) (edgesOf o) = true := by
  intro os
  induction os with
  | nil => intro i j o _ h; simp at h
  | cons x xs ih =>
    intro i j o h hj
    simp only [certFrom, Bool.and_eq_true] at h
    cases j with
    | zero => simp at hj; subst hj; exact h.1
    | succ j =>
      have := ih h.2 (by simpa using hj)
      rwa [Nat.add_assoc, Nat.add_comm 1 j] at this
theorem apartAt_get {B : List Nat} {k : Nat} {r : RO} : ∀ {l : List RO} {i j : Nat} {x : RO}, apartAt B k r i l = true → l[j]? = some x → bef B k (i + j) = true ∨ apartRO x r = true := by
  intro l
  induction l with
  | nil => intro i j x _ h; simp at h
  | cons y ys ih =>
    intro i j x h hj
    simp only [apartAt, Bool.and_eq_true, Bool.or_eq_true] at h
    cases j with
    | zero => simp at hj; subst hj; exact h.1
    | succ j =>
      have := ih h.2 (by simpa using hj)
      rwa [Nat.add_assoc, Nat.add_comm 1 j] at this
theorem apartFrom_get {B : List Nat} : ∀ {l pre : List RO} {n : Nat}, n = pre.length → apartFrom B pre n l = true → ∀ {j k : Nat} {x y : RO}, j < k → pre.length ≤ k → (pre ++ l)[j]? = some x → (pre ++ l)[k]? = some y →
    bef B k j = true ∨ apartRO x y = true := by
  intro l
  induction l with
  | nil =>
    intro pre n hn _ j k x y hjk hk hx hy
    have := (List.getElem?_eq_some_iff.1 hy).1
    simp at this
    omega
  | cons r rs ih =>
    intro pre n hn h j k x y hjk hk hx hy
    subst hn
    simp only [apartFrom, Bool.and_eq_true] at h
    by_cases he : k = pre.length
    · subst he
      rw [List.getElem?_append_right (Nat.le_refl _)] at hy
      simp at hy
      subst hy
      rw [List.getElem?_append_left hjk] at hx
      have := apartAt_get h.1 hx
      simpa using this
    · have e : pre ++ r :: rs = (pre ++ [r]) ++ rs := by simp
      rw [e] at hx hy
      exact ih (by simp) h.2 hjk (by simp; omega) hx hy
theorem indepAt_get {B : List Nat} {k : Nat} {r : Ent} : ∀ {l : List Ent} {i j : Nat} {x : Ent}, indepAt B k r i l = true → l[j]? = some x → bef B k (i + j) = true ∨ indepE x r = true := by
  intro l
  induction l with
  | nil => intro i j x _ h; simp at h
  | cons y ys ih =>
    intro i j x h hj
    simp only [indepAt, Bool.and_eq_true, Bool.or_eq_true] at h
    cases j with
    | zero => simp at hj; subst hj; exact h.1
    | succ j =>
      have := ih h.2 (by simpa using hj)
      rwa [Nat.add_assoc, Nat.add_comm 1 j] at this
theorem indepFrom_get {B : List Nat} : ∀ {l pre : List Ent} {n : Nat}, n = pre.length → indepFrom B pre n l = true → ∀ {j k : Nat} {x y : Ent}, j < k → pre.length ≤ k → (pre ++ l)[j]? = some x → (pre ++ l)[k]? = some y →
    bef B k j = true ∨ indepE x y = true := by
  intro l
  induction l with
  | nil =>
    intro pre n hn _ j k x y hjk hk hx hy
    have := (List.getElem?_eq_some_iff.1 hy).1
    simp at this
    omega
  | cons r rs ih =>
    intro pre n hn h j k x y hjk hk hx hy
    subst hn
    simp only [indepFrom, Bool.and_eq_true] at h
    by_cases he : k = pre.length
    · subst he
      rw [List.getElem?_append_right (Nat.le_refl _)] at hy
      simp at hy
      subst hy
      rw [List.getElem?_append_left hjk] at hx
      have := indepAt_get h.1 hx
      simpa using this
    · have e : pre ++ r :: rs = (pre ++ [r]) ++ rs := by simp
      rw [e] at hx hy
      exact ih (by simp) h.2 hjk (by simp; omega) hx hy
/-- What an operation looked at lies among its slots. -/
def Ent.fair (x : Ent) : Prop := (∀ s ∈ x.S, s ∈ roSlots x.r) ∧ (x.ro = true → x.kl = .no)
theorem softE_ok {j k : Ent} (h : softE j k = true) : (∀ q ∈ j.hd, k.on q.s = true → hdrAt k.mb q = hdrAt k.ma q) ∧ ∀ v ∈ j.av, v.ment k.kl.fn = false := by
  simp only [softE, Bool.and_eq_true, List.all_eq_true, Bool.or_eq_true, Bool.not_eq_true', beq_iff_eq] at h
  refine ⟨fun q hq hon => (h.1 q hq).resolve_left fun h' => ?_, h.2⟩
  simp only [Ent.on] at hon
  rw [hon] at h'
  cases h'
theorem indep_of {j k : Ent} (hj : j.fair) (hk : k.fair) (ha : apartRO j.r k.r = true) (hi : indepE j k = true) : Indep j k := by
  have hs1 : softE j k = true := by simp only [indepE, Bool.and_eq_true] at hi; exact hi.1.2
  have hs2 : softE k j = true := by simp only [indepE, Bool.and_eq_true] at hi; exact hi.2
  have hi : ((j.ro && k.ro) || ((j.T.all fun s => !(k.T.contains s)) || (j.ro && k.ro)) && !(j.v.ment k.kl.fn) && !(k.v.ment j.kl.fn)) = true := by
    simp only [indepE, Bool.and_eq_true] at hi ⊢; exact hi.1.1
  simp only [apartRO, Bool.and_eq_true] at ha
  obtain ⟨h1, h2⟩ := ha
  have hno : ∀ v : AVal, v.ment Kill.no.fn = false := AVal.ment_false
  refine ⟨?_, ?_, ?_, ?_, ?_, ?_, ?_, (softE_ok hs1).1, (softE_ok hs2).1, (softE_ok hs1).2⟩
  · intro d hd hm
    rw [hd] at h1
    simp only [Bool.and_eq_true, Bool.not_eq_true', List.contains_eq_mem, decide_eq_false_iff_not] at h1
    exact h1.1 (hk.1 d hm)
  · intro d hd hm
    rw [hd] at h2
    simp only [Bool.not_eq_true', List.contains_eq_mem, decide_eq_false_iff_not] at h2
    exact h2 (hj.1 d hm)
  · intro d hd hm
    rw [hd] at h1
    simp [hm] at h1
  all_goals simp only [Bool.and_eq_true, Bool.or_eq_true, Bool.not_eq_true', List.all_eq_true, List.contains_eq_mem, decide_eq_false_iff_not] at hi
  · rcases hi with ⟨h, _⟩ | ⟨⟨h | ⟨h, _⟩, _⟩, _⟩
    · exact .inl h
    · right; intro s hs
      simp only [Ent.on, List.contains_eq_mem, decide_eq_true_eq, decide_eq_false_iff_not] at hs ⊢
      exact h s hs
    · exact .inl h
  · rcases hi with ⟨_, h⟩ | ⟨⟨h | ⟨_, h⟩, _⟩, _⟩
    · exact .inl h
    · right; intro s hs
      simp only [Ent.on, List.contains_eq_mem, decide_eq_true_eq, decide_eq_false_iff_not] at hs ⊢
      exact h s hs
    · exact .inl h
  · rcases hi with ⟨_, h⟩ | ⟨⟨_, h⟩, _⟩
    · rw [hk.2 h]; exact hno _
    · exact h
  · rcases hi with ⟨h, _⟩ | ⟨⟨_, _⟩, h⟩
    · rw [hj.2 h]; exact hno _
    · exact h
theorem entOf_fair {r : RO} {d : Nat} {e : Env} {m : Mem} {out : Out} {σ : Nat → List PVal → Option AVal} (h : itemOut σ r.it d e m = some out) : (entOf r d e m out).fair := by
  obtain ⟨dst, it, g⟩ := r
  cases it with
  | op o =>
    cases hs : softOf o e m with
    | some ha =>
      obtain ⟨hd, av⟩ := ha
      simp only [entOf, hs]
      exact ⟨fun s hs => hs, fun _ => (soft_run hs h).1.2⟩
    | none =>
      simp only [entOf, hs]
      exact ⟨fun s hs => hs, fun hr => (roOp_out (r := o) hr h).2⟩
  | call f args => exact ⟨fun s hs => hs, fun hr => by revert hr; simp only [entOf]; cases out.2.2 <;> simp [Kill.isNo]⟩
  | callv x args => exact ⟨fun s hs => hs, fun hr => by revert hr; simp only [entOf]; cases out.2.2 <;> simp [Kill.isNo]⟩
  | calli f args l => cases h
theorem runD_fair {σ : Nat → List PVal → Option AVal} : ∀ {l : List RO} {e : Env} {m : Mem} {es : List Ent} {st : Env × Mem}, runD σ l e m = some (es, st) → ∀ x ∈ es, x.fair := by
  intro l
  induction l with
  | nil => intro e m es st h; simp only [runD, Option.some.injEq, Prod.mk.injEq] at h; obtain ⟨rfl, _⟩ := h; simp
  | cons r rs ih =>
    intro e m es st h
    have go : (match itemOut σ r.it (r.dst.getD 0) e m with
      | some out => if allEv e (itemArgs r.it) = true then
          match runD σ rs (upd r.dst out e) out.2.1 with
          | some (es, st) => some (entOf r (r.dst.getD 0) e m out :: es, st)
          | none => none
        else none
      | none => none) = some (es, st) → ∀ x ∈ es, x.fair := by
      intro h
      split at h
      · rename_i out ho
        split at h
        · split at h
          · rename_i es' st' hr
            simp only [Option.some.injEq, Prod.mk.injEq] at h
            obtain ⟨rfl, rfl⟩ := h
            intro x hx
            rcases List.mem_cons.1 hx with rfl | hx
            · exact entOf_fair ho
            · exact ih hr x hx
          · cases h
        · cases h
      · cases h
    simp only [runD] at h
    split at h
    · exact go h
    · rename_i s want hg
      split at h
      · rename_i v hb
        split at h
        · rename_i y hy
          split at h
          · exact go h
          split at h
          · rename_i es' st' hr
            simp only [Option.some.injEq, Prod.mk.injEq] at h
            obtain ⟨rfl, rfl⟩ := h
            intro x hx
            rcases List.mem_cons.1 hx with rfl | hx
            · exact ⟨fun s hs => by simp only [List.mem_singleton] at hs; subst hs; simp [roSlots, hg, guardSlots], fun _ => rfl⟩
            · exact ih hr x hx
          · cases h
        · cases h
      · cases h
section
variable {P : Program} {C : Ctx} {N : Nat}
theorem opsAre_get {all : Array Oper} : ∀ {os : List Oper} {l : List RO}, opsAre P N all os l = true → os.length = l.length ∧ ∀ (i : Nat) (o : Oper) (r : RO), os[i]? = some o → l[i]? = some r → roIs P N all o r = true := by
  intro os
  induction os with
  | nil => intro l h; cases l <;> simp [opsAre] at h ⊢
  | cons o os ih =>
    intro l h
    cases l with
    | nil => simp [opsAre] at h
    | cons r rs =>
      simp only [opsAre, Bool.and_eq_true] at h
      obtain ⟨i1, i2⟩ := ih h.2
      refine ⟨by simp [i1], ?_⟩
      intro i o' r' ho hr
      cases i with
      | zero => simp at ho hr; subst ho hr; exact h.1
      | succ i => exact i2 i o' r' (by simpa using ho) (by simpa using hr)
theorem Rel.congr {G : Gh} {w : World} {a : Act} {e e2 : Env} {m m2 : Mem} (h : Rel C G w N a e m) (he : ∀ t, lk e2 t = lk e t) (hm : ∀ s, lk m2 s = lk m s) : Rel C G w N a e2 m2 := by
  refine ⟨?_, h.good, ?_, h.marks, h.size⟩
  · intro pl x hx
    exact h.mr pl x (by rw [← getAt_at (hm pl.s)]; exact hx)
  · intro t v hv
    exact h.er t v (by rw [← he t]; exact hv)
/-- The operations that are not listed yet, in the text's order. -/
def left (n : Nat) (listed : Array Bool) : List Nat := (List.range n).filter fun i => !(listed.getD i true)
def Down (all : Array Oper) (listed : Array Bool) : Prop := ∀ i o, all[i]? = some o → listed.getD i true = true → ∀ e ∈ edgesOf o, listed.getD e false = true
theorem mem_edgesOf {o : Oper} {x : Nat} : x ∈ edgesOf o ↔ ∃ e, e ∈ o.after ∧ Region.binds .any e = true ∧ e.on = x := by
  simp only [edgesOf, List.mem_filterMap, Array.mem_toList_iff]
  constructor
  · rintro ⟨e, h1, h2⟩
    split at h2
    · rename_i h; cases h2; exact ⟨e, h1, h, rfl⟩
    · cases h2
  · rintro ⟨e, h1, h2, rfl⟩
    exact ⟨e, h1, by rw [if_pos h2]⟩
theorem ready_spec {all : Array Oper} {listed : Array Bool} {i : Nat} : i ∈ Region.ready .any all listed ↔ i < all.size ∧ listed.getD i true = false ∧ ∃ o, all[i]? = some o ∧ ∀ e ∈ edgesOf o, listed.getD e false = true := by
  simp only [Region.ready, List.mem_filter, List.mem_range, Bool.and_eq_true, Bool.not_eq_true']
  refine and_congr_right fun hi => and_congr_right fun _ => ?_
  have ho : all[i]? = some all[i] := by simp [hi]
  rw [ho]
  simp only [Option.map_some, Option.getD_some, Option.some.injEq, exists_eq_left', Array.all_eq_true_iff_forall_mem, Bool.or_eq_true, Bool.not_eq_true', mem_edgesOf]
  constructor
  · rintro h x ⟨e, h1, h2, rfl⟩
    rcases h e h1 with h | h
    · rw [h2] at h; cases h
    · exact h
  · intro h e he
    cases hb : Region.binds .any e with
    | false => exact .inl rfl
    | true => exact .inr (h e.on ⟨e, he, hb, rfl⟩)
theorem before_listed {all : Array Oper} {B : List Nat} {listed : Array Bool} (hc : certFrom B 0 all.toList = true) (hd : Down all listed) : ∀ (i : Nat) (o : Oper), all[i]? = some o → (∀ e ∈ edgesOf o, listed.getD e false = true) →
    ∀ j, j < i → bef B i j = true → listed.getD j false = true := by
  intro i
  induction i using Nat.strongRecOn with
  | _ i ih =>
    intro o ho he j hj hb
    have hcert := certFrom_get hc (j := i) (o := o) (by simpa using ho)
    simp only [Nat.zero_add, certAt, Bool.and_eq_true, List.all_eq_true, decide_eq_true_eq, List.mem_range, Bool.or_eq_true, Bool.not_eq_true', List.contains_eq_mem, List.any_eq_true] at hcert
    rcases hcert.2 j hj with (h | h) | ⟨x, hx, hxj, hxb⟩
    · rw [hb] at h; cases h
    · exact he j h
    · have hlt := hcert.1 x hx
      have hn : i < all.size := (Array.getElem?_eq_some_iff.1 ho).1
      have hxo : all[x]? = some all[x] := by simp
      have hxl := he x hx
      refine ih x hlt all[x] hxo ?_ j hxj hxb
      refine hd x _ hxo ?_
      simp only [Array.getD_eq_getD_getElem?] at hxl ⊢
      cases hq : listed[x]? with
      | none => rw [hq] at hxl; cases hxl
      | some b => rw [hq] at hxl; exact hxl
theorem range_split {n i : Nat} (h : i < n) : List.range n = List.range i ++ i :: List.range' (i + 1) (n - i - 1) := by
  have : n = i + ((n - i - 1) + 1) := by omega
  rw [List.range_eq_range', List.range_eq_range']
  conv => lhs; rw [this]
  rw [← List.range'_append_1, List.range'_succ]
  simp
theorem getD_set {listed : Array Bool} {i j : Nat} {b : Bool} (h : i ≠ j) : (listed.setIfInBounds i true).getD j b = listed.getD j b := by
  simp only [Array.getD_eq_getD_getElem?]
  rw [Array.getElem?_setIfInBounds_ne h]
theorem getD_set_self {listed : Array Bool} {i : Nat} {b : Bool} (h : i < listed.size) : (listed.setIfInBounds i true).getD i b = true := by
  simp [Array.getD_eq_getD_getElem?, h]
theorem left_split {n i : Nat} {listed : Array Bool} (hi : i < n) (hs : listed.size = n) (hl : listed.getD i true = false) :
    ∃ pre post, left n listed = pre ++ i :: post ∧ left n (listed.setIfInBounds i true) = pre ++ post ∧ ∀ j ∈ pre, j < i ∧ listed.getD j true = false := by
  refine ⟨(List.range i).filter fun j => !(listed.getD j true), (List.range' (i + 1) (n - i - 1)).filter fun j => !(listed.getD j true), ?_, ?_, ?_⟩
  · unfold left
    rw [range_split hi, List.filter_append, List.filter_cons_of_pos (by simp [hl])]
  · unfold left
    rw [range_split hi, List.filter_append, List.filter_cons_of_neg (by rw [getD_set_self (by omega)]; simp)]
    congr 1
    · refine List.filter_congr fun j hj => ?_
      have : j < i := List.mem_range.1 hj
      rw [getD_set (by omega)]
    · refine List.filter_congr fun j hj => ?_
      have : i + 1 ≤ j := (List.mem_range'_1.1 hj).1
      rw [getD_set (by omega)]
  · intro j hj
    simp only [List.mem_filter, List.mem_range, Bool.not_eq_true'] at hj
    exact hj
theorem left_lt {n : Nat} {listed : Array Bool} {i : Nat} (h : i ∈ left n listed) : i < n ∧ listed.getD i true = false := by
  simpa [left] using h
theorem left_mem {n : Nat} {listed : Array Bool} {i : Nat} (h1 : i < n) (h2 : listed.getD i true = false) : i ∈ left n listed :=
  List.mem_filter.2 ⟨List.mem_range.2 h1, by rw [h2]; rfl⟩
theorem TextRun_any {all : Array Oper} {B : List Nat} {l : List RO} {es : List Ent} (hops : opsAre P N all all.toList l = true) (hcert : certFrom B 0 all.toList = true) (hap : apartFrom B [] 0 l = true)
    (hes : es.map (·.r) = l) (hfair : ∀ x ∈ es, x.fair) (hind : indepFrom B [] 0 es = true) {Q : Exit → Act → World → Prop} {ef : Env} {mf : Mem}
    (hQ : ∀ G w a, Rel C G w N a ef mf → Q .normal a w) :
    ∀ (fuel : Nat) (listed : Array Bool) (e : Env) (m : Mem), fuel = (left all.size listed).length → listed.size = all.size → Down all listed →
      TextRun P C N ((left all.size listed).filterMap fun i => es[i]?) e m ef mf → ∀ G w a, Rel C G w N a e m → wpAnyIn (fcF C) 0 P .any all Q fuel listed a w := by
  obtain ⟨hlen, hget⟩ := opsAre_get hops
  have hn : es.length = all.size := by rw [← Array.length_toList, hlen, ← hes]; simp
  intro fuel
  induction fuel with
  | zero =>
    intro listed e m hf hs hd ht G w a hr
    have hnil : left all.size listed = [] := List.eq_nil_of_length_eq_zero hf.symm
    rw [hnil] at ht
    refine ⟨?_, hQ G w a (hr.congr (fun t => (ht.1 t).symm) (fun s => (ht.2 s).symm))⟩
    refine List.eq_nil_iff_forall_not_mem.2 fun i hi => ?_
    obtain ⟨h1, h2, _⟩ := ready_spec.1 hi
    have : i ∈ left all.size listed := left_mem h1 h2
    rw [hnil] at this
    cases this
  | succ fuel ih =>
    intro listed e m hf hs hd ht G w a hr
    refine ⟨?_, ?_⟩
    · intro hnone
      exfalso
      cases hl : left all.size listed with
      | nil => rw [hl] at hf; cases hf
      | cons i rest =>
        obtain ⟨h1, h2⟩ := left_lt (n := all.size) (listed := listed) (i := i) (by rw [hl]; simp)
        have ho : all[i]? = some all[i] := by simp [h1]
        have hmem : i ∈ Region.ready .any all listed := by
          refine ready_spec.2 ⟨h1, h2, _, ho, ?_⟩
          intro x hx
          have hc := certFrom_get hcert (j := i) (o := all[i]) (by simp [h1])
          simp only [Nat.zero_add, certAt, Bool.and_eq_true, List.all_eq_true, decide_eq_true_eq] at hc
          have hlt := hc.1 x hx
          cases hg : listed.getD x false with
          | true => rfl
          | false =>
            exfalso
            have hg' : listed.getD x true = false := by
              simp only [Array.getD_eq_getD_getElem?] at hg ⊢
              rw [Array.getElem?_eq_getElem (by omega)] at hg ⊢
              exact hg
            obtain ⟨pre, post, e1, _, e3⟩ := left_split (n := all.size) (by omega) hs h2
            have hxm : x ∈ left all.size listed := left_mem (by omega) hg'
            obtain ⟨pre', post', f1, _, f3⟩ := left_split (n := all.size) (i := x) (by omega) hs hg'
            have hi2 : i ∈ left all.size listed := by rw [hl]; simp
            -- the list is ascending: its head is the least
            have hsorted : (left all.size listed).Pairwise (· < ·) := List.Pairwise.filter _ List.pairwise_lt_range
            rw [hl] at hsorted hxm
            rcases List.mem_cons.1 hxm with rfl | hxm
            · omega
            · have := (List.pairwise_cons.1 hsorted).1 x hxm
              omega
        rw [hnone] at hmem
        cases hmem
    · intro i hi
      obtain ⟨h1, h2, o, ho, hedges⟩ := ready_spec.1 hi
      obtain ⟨pre, post, e1, e2, e3⟩ := left_split h1 hs h2
      have hx : ∃ x, es[i]? = some x := ⟨es[i]'(by omega), by simp⟩
      obtain ⟨x, hx⟩ := hx
      rw [e1, List.filterMap_append, List.filterMap_cons, hx] at ht
      have hpull := TextRun.pull (k := x) (by
        intro y hy
        simp only [List.mem_filterMap] at hy
        obtain ⟨j, hj, hjy⟩ := hy
        obtain ⟨hlt, hun⟩ := e3 j hj
        have hnb : ¬ bef B i j = true := by
          intro hb
          have := before_listed hcert hd i o ho hedges j hlt hb
          simp only [Array.getD_eq_getD_getElem?] at this hun
          rw [Array.getElem?_eq_getElem (by omega)] at this hun
          simp only [Option.getD_some] at this hun
          rw [this] at hun
          cases hun
        have hyr : l[j]? = some y.r := by rw [← hes]; simp [hjy]
        have hxr : l[i]? = some x.r := by rw [← hes]; simp [hx]
        have ha := (apartFrom_get (pre := []) rfl hap hlt (Nat.zero_le _) (by simpa using hyr) (by simpa using hxr)).resolve_left hnb
        have hi := (indepFrom_get (pre := []) rfl hind hlt (Nat.zero_le _) (by simpa using hjy) (by simpa using hx)).resolve_left hnb
        exact indep_of (hfair y (List.mem_of_getElem? hjy)) (hfair x (List.mem_of_getElem? hx)) ha hi) ht
      obtain ⟨m', hsolo, hrest⟩ := hpull
      obtain ⟨m2', hb, _, hrun⟩ := hsolo.run e m (fun _ _ => rfl) (fun _ _ => rfl) (fun _ _ => rfl)
      have hxr : l[i]? = some x.r := by rw [← hes]; simp [hx]
      refine hrun (fun e2 m2 => TextRun P C N (pre.filterMap (fun i => es[i]?) ++ post.filterMap fun i => es[i]?) e2 m2 ef mf) ?_ all i o ho (hget i o x.r (by simpa using ho) hxr) G w a hr _ Q ?_
      · refine hrest.congr (fun t => ?_) (fun s => ?_)
        · rw [lk_upd, lk_upd]
        · cases hon : x.on s with
          | true => exact hb.like s hon
          | false => rw [hb.off2 s hon, hb.off s hon]
      · rintro a' w' ⟨G', e', m'', hr', hk⟩
        refine ih (listed.setIfInBounds i true) e' m'' ?_ (by simpa using hs) ?_ ?_ G' w' a' hr'
        · rw [e1] at hf
          rw [e2]
          simp at hf ⊢
          omega
        · intro k q hq hkl x hxe
          by_cases hik : i = k
          · subst hik
            rw [ho] at hq
            cases hq
            by_cases hix : i = x
            · subst hix; exact getD_set_self (by omega)
            · rw [getD_set hix]; exact hedges x hxe
          · rw [getD_set hik] at hkl
            by_cases hix : i = x
            · subst hix; exact getD_set_self (by omega)
            · rw [getD_set hix]; exact hd k q hq hkl x hxe
        · rw [e2, List.filterMap_append]
          exact hk
theorem left_all (n : Nat) : left n (Array.replicate n false) = List.range n := by
  unfold left
  rw [List.filter_eq_self]
  intro i hi
  have : i < n := List.mem_range.1 hi
  simp [this]
theorem range_get' {α : Type} (es : List α) : ∀ (l : List α) (k : Nat), (∀ j, l[j]? = es[k + j]?) → (List.range' k l.length).filterMap (fun i => es[i]?) = l := by
  intro l
  induction l with
  | nil => intro k _; rfl
  | cons x l ih =>
    intro k h
    have h0 : es[k]? = some x := by simpa using (h 0).symm
    simp only [List.length_cons, List.range'_succ, List.filterMap_cons, h0]
    rw [ih (k + 1) (fun j => by have := h (j + 1); simpa [Nat.add_assoc, Nat.add_comm 1 j] using this)]
theorem range_get {α : Type} (es : List α) : (List.range es.length).filterMap (fun i => es[i]?) = es := by
  rw [List.range_eq_range']
  exact range_get' es es 0 (by simp)
/-- A REGION THAT DRAWS ITS ORDER, at one go. -/
theorem xWp_draw {B : List Nat} {l : List RO} {σ : Nat → List PVal → Option AVal} (hσ : SigOK P σ) {e : Env} {m : Mem} {es : List Ent} {ef : Env} {mf : Mem} {Q : XQ}
    (h : runD σ l e m = some (es, ef, mf)) (hi : indepFrom B [] 0 es = true) (hk : Q .normal ef mf) : xWp P C N (.draw B l) Q e m := by
  intro c hc G w a hr
  obtain ⟨id, ops, rfl, hd⟩ := codeIs_draw hc
  simp only [drawIs, Bool.and_eq_true] at hd
  obtain ⟨⟨⟨h1, h2⟩, h3⟩, h4⟩ := hd
  obtain ⟨t1, t2⟩ := runD_text hσ h
  have hn : es.length = ops.size := by rw [← Array.length_toList, (opsAre_get h1).1, ← t2]; simp
  refine wpIn_region_any h4 (TextRun_any (ef := ef) (mf := mf) h1 h2 h3 t2 (runD_fair h) hi (fun G w a hr => ⟨G, ef, mf, hr, hk⟩) ops.size _ e m ?_ (by simp) ?_ ?_ G _ a ?_)
  · rw [left_all]; simp
  · intro i o ho hl
    have : i < ops.size := (Array.getElem?_eq_some_iff.1 ho).1
    simp [this] at hl
  · rw [left_all, ← hn]
    rw [range_get]
    exact t1
  · refine ⟨fun pl x hx => ?_, ?_, hr.er, ?_, hr.size⟩
    · have := hr.mr pl x hx
      cases x <;> exact this
    · have hg := hr.good
      exact ⟨hg.fz, hg.fzl, hg.fm, hg.fml, hg.inj, hg.bnd, hg.size, hg.keep, hg.own, hg.fz0, hg.fm0, hg.fzn, hg.fmn, hg.os, hg.tape, hg.output⟩
    · have := hr.marks
      unfold Marks at this ⊢
      exact this
end
end Go.Proofs.Ytnmnijgoggombaa.X
/- A range over a function. -/
namespace Go.Proofs.Ytnmnijgoggombaa.X
open Go.RowKit
def hide (N : Nat) (e : Env) : Env := e.map fun x => (if x.1 < 1000000 then x.1 + 1000000 else x.1 + N, x.2)
def unhide (N : Nat) : Env → Env
  | [] => []
  | x :: e => if x.1 < 1000000 then unhide N e else (if x.1 - 1000000 < N then x.1 - 1000000 else x.1 - N, x.2) :: unhide N e
def visOf (e : Env) : Env := e.filter fun x => Nat.ble x.1 999999
def parEnv (ps : List Nat) (x : List PVal) : Env := ((ps.zip x).map fun y => (y.1, AVal.p y.2)).reverse
theorem hide_lk {N t : Nat} {v : AVal} : ∀ {e : Env}, lk (hide N e) t = some v → ∃ s, lk e s = some v ∧ t = if s < 1000000 then s + 1000000 else s + N := by
  intro e
  induction e with
  | nil => intro h; simp [hide, lk] at h
  | cons x e ih =>
    intro h
    simp only [hide, List.map_cons, lk] at h
    by_cases ht : t = if x.1 < 1000000 then x.1 + 1000000 else x.1 + N
    · rw [if_pos ht] at h
      cases h
      exact ⟨x.1, by simp [lk], ht⟩
    · rw [if_neg ht] at h
      obtain ⟨s, h1, h2⟩ := ih h
      refine ⟨s, ?_, h2⟩
      simp only [lk]
      rw [if_neg]
      · exact h1
      · rintro rfl; exact ht h2
theorem unhide_lk {N t : Nat} {v : AVal} : ∀ {e : Env}, lk (unhide N e) t = some v → ∃ s, 1000000 ≤ s ∧ lk e s = some v ∧ t = if s - 1000000 < N then s - 1000000 else s - N := by
  intro e
  induction e with
  | nil => intro h; simp [unhide, lk] at h
  | cons x e ih =>
    intro h
    simp only [unhide] at h
    split at h
    · rename_i hx
      obtain ⟨s, h0, h1, h2⟩ := ih h
      refine ⟨s, h0, ?_, h2⟩
      simp only [lk]
      rw [if_neg (by omega)]
      exact h1
    · rename_i hx
      simp only [lk] at h
      by_cases ht : t = if x.1 - 1000000 < N then x.1 - 1000000 else x.1 - N
      · rw [if_pos ht] at h
        cases h
        exact ⟨x.1, by omega, by simp [lk], ht⟩
      · rw [if_neg ht] at h
        obtain ⟨s, h0, h1, h2⟩ := ih h
        refine ⟨s, h0, ?_, h2⟩
        simp only [lk]
        rw [if_neg]
        · exact h1
        · rintro rfl; exact ht h2
theorem visOf_lk {t : Nat} {v : AVal} : ∀ {e : Env}, lk (visOf e) t = some v → lk e t = some v ∧ t < 1000000 := by
  intro e
  induction e with
  | nil => intro h; simp [visOf, lk] at h
  | cons x e ih =>
    intro h
    by_cases hx : Nat.ble x.1 999999 = true
    · simp only [visOf] at h ih
      rw [List.filter_cons_of_pos (by simpa using hx)] at h
      simp only [lk] at h ⊢
      split at h
      · rename_i ht
        cases h
        have := Nat.le_of_ble_eq_true hx
        exact ⟨by rw [if_pos ht], by omega⟩
      · rename_i ht
        rw [if_neg ht]
        exact ih h
    · simp only [visOf] at h ih
      rw [List.filter_cons_of_neg (by simpa using hx)] at h
      obtain ⟨h1, h2⟩ := ih h
      have : ¬ x.1 ≤ 999999 := fun hle => hx (Nat.ble_eq_true_of_le hle)
      simp only [lk]
      rw [if_neg (by omega)]
      exact ⟨h1, h2⟩
section
variable {P : Program} {C : Ctx} {N : Nat}
/-- The slots of a round that begins. -/
theorem ER.round {C' : Ctx} {G : Gh} {e : Env} {tmps : Array Value} (he : ER C G e tmps) (hN : tmps.size = N) (hc : C'.hid = tmps ++ C.hid) : ER C' G (visOf e ++ hide N e) tmps := by
  intro t v h
  rw [lk_append] at h
  cases hq : lk (visOf e) t with
  | some u =>
    rw [hq] at h
    simp at h
    subst h
    obtain ⟨h1, h2⟩ := visOf_lk hq
    obtain ⟨c, h3, h4⟩ := he t u h1
    rw [slotOf_lt h2] at h3
    exact ⟨c, by rw [slotOf_lt h2]; exact h3, h4⟩
  | none =>
    rw [hq] at h
    simp at h
    obtain ⟨s, h1, h2⟩ := hide_lk h
    obtain ⟨c, h3, h4⟩ := he s v h1
    refine ⟨c, ?_, h4⟩
    unfold slotOf at h3 ⊢
    split at h2
    · rename_i hs
      rw [if_pos hs] at h3
      have hlt := (Array.getElem?_eq_some_iff.1 h3).1
      rw [if_neg (by omega), hc, Array.getElem?_append, if_pos (by omega)]
      have : t - 1000000 = s := by omega
      rw [this]
      exact h3
    · rename_i hs
      rw [if_neg hs] at h3
      rw [if_neg (by omega), hc, Array.getElem?_append, if_neg (by omega), hN]
      have : t - 1000000 - N = s - 1000000 := by omega
      rw [this]
      exact h3
theorem ER.unround {C' : Ctx} {G : Gh} {e : Env} {tmps tmps' : Array Value} (he : ER C' G e tmps') (hN : tmps.size = N) (h6 : N ≤ 1000000) (hc : C'.hid = tmps ++ C.hid) : ER C G (unhide N e) tmps := by
  intro t v h
  obtain ⟨s, h0, h1, h2⟩ := unhide_lk h
  obtain ⟨c, h3, h4⟩ := he s v h1
  refine ⟨c, ?_, h4⟩
  unfold slotOf at h3 ⊢
  rw [if_neg (by omega), hc, Array.getElem?_append] at h3
  split at h2
  · rename_i hs
    rw [if_pos (by omega)] at h3
    rw [if_pos (by omega), h2]
    exact h3
  · rename_i hs
    rw [if_neg (by omega), hN] at h3
    rw [if_neg (by omega)]
    have : t - 1000000 = s - 1000000 - N := by omega
    rw [this]
    exact h3
theorem ER.pars {G : Gh} : ∀ {ps : List Nat} {x : List PVal} {av : List Value} {e : Env} {tmps : Array Value}, ER C G e tmps → x.length = ps.length → av.length = ps.length → (∀ p ∈ ps, p < tmps.size ∧ p < 1000000) →
    (∀ (k : Nat) (p : PVal) (c : Value), x[k]? = some p → av[k]? = some c → PV G.F p c) → ER C G (parEnv ps x ++ e) ((ps.zip av).foldl (fun t y => t.setIfInBounds y.1 y.2) tmps) := by
  intro ps
  induction ps with
  | nil => intro x av e tmps he _ _ _ _; simpa [parEnv] using he
  | cons p ps ih =>
    intro x av e tmps he hx hav hp hv
    cases x with
    | nil => simp at hx
    | cons y x =>
      cases av with
      | nil => simp at hav
      | cons c av =>
        have h1 : ER C G ((p, .p y) :: e) (tmps.setIfInBounds p c) :=
          ER.put (a := { tmps := tmps, defers := [] }) (d := p) he (hp p (by simp)).1 (hp p (by simp)).2 (.p (hv 0 y c (by simp) (by simp)))
        have := ih (e := (p, .p y) :: e) (tmps := tmps.setIfInBounds p c) h1 (by simpa using hx) (by simpa using hav) (fun q hq => by simpa using hp q (by simp [hq])) (fun k p c h1 h2 => hv (k + 1) p c (by simpa using h1) (by simpa using h2))
        simpa [parEnv] using this
theorem foldl_set_size : ∀ (l : List (Nat × Value)) (tmps : Array Value), (l.foldl (fun t y => t.setIfInBounds y.1 y.2) tmps).size = tmps.size := by
  intro l
  induction l with
  | nil => intro tmps; rfl
  | cons x l ih => intro tmps; simp [ih]
abbrev bare (F : Frz) : Gh := { F := F, loc := fun _ => none, cv := fun _ => undef }
/-- WHAT AN ITERATOR IS: called with a 'yield', it hands it the elements one after another, until 'yield' answers false; besides it only reads and makes memory. -/
def Seq (P : Program) (g : Nat) (caps : List PVal) (xs : List (List PVal)) : Prop :=
  calleeIs P g = true ∧ ∀ (l : Nat) (cv : Array Value) (J : Nat → Frz → World → Prop) (Jx : Frz → World → Prop) (F0 : Frz) (W0 : World),
    cv.size = caps.length → (∀ (i : Nat) (p : PVal) (c : Value), caps[i]? = some p → cv[i]? = some c → PV F0 p c) →
    (∀ i F W, J i F W → Good (Ctx.of (bare F) W) (bare F) W) → (∀ F W, Jx F W → Good (Ctx.of (bare F) W) (bare F) W) →
    (∀ i F W G2 W', J i F W → Good (Ctx.of (bare F) W) G2 W' → J i G2.F W') → (∀ F W G2 W', Jx F W → Good (Ctx.of (bare F) W) G2 W' → Jx G2.F W') →
    (∀ i F W x (av : Array Value), J i F W → xs[i]? = some x → av.size = x.length → (∀ (k : Nat) (p : PVal) (c : Value), x[k]? = some p → av[k]? = some c → PV F p c) →
      YieldAt Fence.wide 0 P l av W fun e W' => (e = .returned (.bool true) ∧ ∃ F', F.le F' ∧ J (i + 1) F' W') ∨ (e = .returned (.bool false) ∧ ∃ F', F.le F' ∧ Jx F' W')) →
    J 0 F0 W0 →
    Calls P g (#[.func (.yield l) #[] #[]] ++ cv) W0 fun e W' => (∃ v, e = .returned v) ∧ ((∃ F', J xs.length F' W') ∨ (∃ F', Jx F' W'))
theorem Good.bare {G : Gh} {w : World} (hg : Good C G w) : Good (Ctx.of (X.bare G.F) w) (X.bare G.F) w := hg.forCall
/-- A frame that waits, behind a call that made memory and no more. -/
theorem merge_bare {G G2 : Gh} {w w' : World} {m : Mem} (hm : MR G w m) (hg : Good C G w) (h : Good (Ctx.of (bare G.F) w) G2 w') :
    Step C G w w' m Kill.no.fn (G.merge [] G2) := by
  have hg2 : Good (Ctx.of G w) (bare G2.F) w' := ⟨h.fz, (fun _ _ _ _ _ _ h => by cases h), h.fm, (fun _ _ _ _ _ h => by cases h), (fun _ _ _ _ h => by cases h), (fun _ _ h => by cases h), h.size, h.keep, (fun _ _ h => by cases h),
    h.fz0, h.fm0, h.fzn, h.fmn, h.os, h.tape, h.output⟩
  have hst := merge_step (D := []) (m' := []) hm hg (G2 := bare G2.F) (fun pl a h => by simp [getAt, lk] at h) hg2 rfl
  have hoff : offMem [] m = m := by simp [offMem]
  rw [List.nil_append, hoff] at hst
  have he : G.merge [] (bare G2.F) = G.merge [] G2 := by
    simp [Gh.merge, inSites]
  rw [he] at hst
  exact ⟨hst.mr, hst.good, hst.le, fun pl _ L hL => hst.loc pl rfl L hL⟩
theorem Good.new {G : Gh} {w : World} {m : Mem} (hm : MR G w m) (hg : Good C G w) (o : Obj) : MR G (w.alloc o) m ∧ Good C G (w.alloc o) ∧ Free G w.heap.size := by
  have hold : ∀ b, b < w.heap.size → (w.alloc o).heap[b]? = w.heap[b]? := fun b hb => Below.heap_alloc w o b hb
  have hcell : ∀ b o' v, w.cell? ⟨b, o', none⟩ = some v → b < w.heap.size := by
    intro b o' v h
    unfold World.cell? at h
    split at h
    · rename_i hh; exact (Array.getElem?_eq_some_iff.1 hh).1
    · cases h
  have hsz : (w.alloc o).heap.size = w.heap.size + 1 := by simp
  refine ⟨fun q x hx => (hm q x hx).move (SameShape.refl _) (Frz.le_refl _) (fun L hL => ⟨hL, hold _ (hg.bnd q L hL)⟩) rfl (fun _ _ => rfl), ?_, ?_, ?_, ?_⟩
  · refine ⟨?_, hg.fzl, ?_, hg.fml, hg.inj, ?_, ?_, ?_, hg.own, hg.fz0, hg.fm0, hg.fzn, hg.fmn, hg.os, hg.tape, hg.output⟩
    · intro b o' v hv
      have h := hg.fz b o' v hv
      have hb := hcell b o' v h
      unfold World.cell? at h ⊢
      rw [hold b hb]
      exact h
    · intro r es hr
      obtain ⟨clock, h⟩ := hg.fm r es hr
      exact ⟨clock, by rw [hold r (Array.getElem?_eq_some_iff.1 h).1]; exact h⟩
    · intro pl L hL
      have := hg.bnd pl L hL
      omega
    · have := hg.size; omega
    · intro b hb hn
      rw [hold b (Nat.lt_of_lt_of_le hb hg.size)]
      exact hg.keep b hb hn
  · intro pl L hL e
    have := hg.bnd pl L hL
    omega
  · intro o'
    cases hc : G.F.cell w.heap.size o' with
    | none => rfl
    | some v => have := hcell _ _ _ (hg.fz _ _ _ hc); omega
  · cases hc : G.F.map w.heap.size with
    | none => rfl
    | some es =>
      obtain ⟨clock, h⟩ := hg.fm _ _ hc
      have := (Array.getElem?_eq_some_iff.1 h).1
      omega
end
end Go.Proofs.Ytnmnijgoggombaa.X
/- A range over a function: the rule. -/
namespace Go.Proofs.Ytnmnijgoggombaa.X
open Go.RowKit
abbrev Ex := Env → Mem → Option (XE × Env × Mem)
def seqE (exA exB : Ex) : Ex := fun e m =>
  match exA e m with
  | some (.normal, e1, m1) => exB e1 m1
  | _ => none
/-- Round after round. -/
def rnd (ex : Ex) (N : Nat) (ps : List Nat) (cn : Env → Mem → Env × Mem) : List (List PVal) → Ex
  | [], e, m => some (.normal, e, m)
  | x :: xs, e, m =>
    if x.length = ps.length then
      match ex (parEnv ps x ++ (visOf e ++ hide N e)) m with
      | some (.normal, e1, m1) => rnd ex N ps cn xs (cn (unhide N e1) m1).1 (cn (unhide N e1) m1).2
      | some (j, e1, m1) => some (j, unhide N e1, m1)
      | none => none
    else none
def jumpCode : XE → Option Code
  | .normal => none
  | .exit i => some (.exit i)
  | .ret => some .ret
section
variable {P : Program} {C : Ctx} {N : Nat}
theorem Good.ctx {C' : Ctx} {G : Gh} {w : World} (hg : Good C G w) (h0 : C'.w0 = C.w0) (h1 : C'.F0 = C.F0) (h2 : C'.mine = C.mine) : Good C' G w := by
  obtain ⟨a, b, c, d, e⟩ := C
  obtain ⟨a', b', c', d', e'⟩ := C'
  simp only at h0 h1 h2
  subst h0 h1 h2
  exact ⟨hg.fz, hg.fzl, hg.fm, hg.fml, hg.inj, hg.bnd, hg.size, hg.keep, hg.own, hg.fz0, hg.fm0, hg.fzn, hg.fmn, hg.os, hg.tape, hg.output⟩
theorem Marks.put {G : Gh} {w : World} {ds : List Deferred} (h : Marks C G w ds) {l : Nat} {r r' : Loop} (hl : w.heap[l]? = some (.loop r)) : Marks C G (w.putObj l (.loop r')) ds := by
  unfold Marks at h ⊢
  cases hro : C.ro with
  | none =>
    rw [hro] at h
    obtain ⟨Ds, e, nd, hD⟩ := h
    refine ⟨Ds, e, nd, fun D hd => ?_⟩
    obtain ⟨h1, h2, h3⟩ := hD D hd
    have hne : D ≠ l := by rintro rfl; rw [hl] at h1; cases h1
    exact ⟨by rw [putObj_heap hne]; exact h1, h2, h3⟩
  | some l0 =>
    rw [hro] at h
    obtain ⟨e, ⟨r0, h1⟩, h3⟩ := h
    refine ⟨e, ?_, h3⟩
    by_cases hne : l0 = l
    · subst hne
      exact ⟨r', World.putObj_heap_same (Array.getElem?_eq_some_iff.1 hl).1⟩
    · exact ⟨r0, by rw [putObj_heap hne]; exact h1⟩
theorem Rel.putLoop {G : Gh} {w : World} {a : Act} {e : Env} {m : Mem} (h : Rel C G w N a e m) {l : Nat} {r r' : Loop} (hl : w.heap[l]? = some (.loop r)) (hf : Free G l) (hb : C.w0.heap.size ≤ l) :
    Rel C G (w.putObj l (.loop r')) N a e m := by
  obtain ⟨h1, h2⟩ := putFree h.mr h.good hf (.inl hb) (.loop r')
  exact ⟨h1, h2, h.er, h.marks.put hl, h.size⟩
/-- Entering the statement. -/
theorem enter_loop {G : Gh} {w : World} {a : Act} {e : Env} {m : Mem} (hr : Rel C G w N a e m) (fn : FuncId) (qs : Array Tmp) (ca cb : Code) :
    ∃ (l : Nat) (mark : List Deferred) (w1 : World) (d : Nat), (Instr.enterLoop fn a.tmps qs ca cb C.ro).run P w = .ok (l, mark) w1 ∧
      w1.heap[l]? = some (.loop { state := .ready, pending := none, fn, tmps := a.tmps, params := qs, assign := ca, body := cb, defers := d }) ∧
      Free G l ∧ C.w0.heap.size ≤ l ∧ Rel C G w1 N { a with defers := mark ++ a.defers } e m := by
  have hmk := hr.marks
  unfold Marks at hmk
  cases hro : C.ro with
  | none =>
    rw [hro] at hmk
    obtain ⟨Ds, e1, nd, hD⟩ := hmk
    obtain ⟨m1, g1, f1⟩ := Good.new hr.mr hr.good (.deferred (some []))
    obtain ⟨m2, g2, f2⟩ := Good.new m1 g1 (.loop { state := .ready, pending := none, fn := fn, tmps := a.tmps, params := qs, assign := ca, body := cb, defers := w.heap.size })
    have hsz : (w.alloc (.deferred (some []))).heap.size = w.heap.size + 1 := by simp
    rw [hsz] at f2
    have hold : ∀ b, b < w.heap.size → ((w.alloc (.deferred (some []))).alloc (.loop { state := .ready, pending := none, fn := fn, tmps := a.tmps, params := qs, assign := ca, body := cb, defers := w.heap.size })).heap[b]? = w.heap[b]? := by
      intro b hb
      rw [Below.heap_alloc _ _ _ (by rw [hsz]; omega), Below.heap_alloc _ _ _ hb]
    refine ⟨w.heap.size + 1, _, _, w.heap.size, run_enterLoop_outer fn a.tmps qs ca cb, ?_, f2, Nat.le_succ_of_le hr.good.size, m2, g2, hr.er, ?_, hr.size⟩
    · have := World.alloc_heap_new (w.alloc (.deferred (some []))) (.loop { state := .ready, pending := none, fn := fn, tmps := a.tmps, params := qs, assign := ca, body := cb, defers := w.heap.size })
      rw [hsz] at this
      exact this
    · unfold Marks
      rw [hro]
      refine ⟨w.heap.size :: Ds, by simp [e1], List.nodup_cons.2 ⟨fun h => ?_, nd⟩, ?_⟩
      · have := (Array.getElem?_eq_some_iff.1 (hD _ h).1).1
        omega
      · intro D hd
        rcases List.mem_cons.1 hd with rfl | hd
        · refine ⟨?_, hr.good.size, f1⟩
          rw [Below.heap_alloc _ _ _ (by rw [hsz]; omega)]
          exact World.alloc_heap_new w _
        · obtain ⟨k1, k2, k3⟩ := hD D hd
          exact ⟨by rw [hold D (Array.getElem?_eq_some_iff.1 k1).1]; exact k1, k2, k3⟩
  | some l0 =>
    rw [hro] at hmk
    obtain ⟨e1, ⟨r0, k1⟩, k3⟩ := hmk
    obtain ⟨m1, g1, f1⟩ := Good.new hr.mr hr.good (.loop { state := .ready, pending := none, fn := fn, tmps := a.tmps, params := qs, assign := ca, body := cb, defers := r0.defers })
    refine ⟨w.heap.size, _, _, r0.defers, run_enterLoop_inner k1 fn a.tmps qs ca cb, World.alloc_heap_new w _, f1, hr.good.size, m1, g1, hr.er, ?_, hr.size⟩
    unfold Marks
    rw [hro]
    exact ⟨by simp [e1], ⟨r0, by rw [Below.heap_alloc _ _ _ (Array.getElem?_eq_some_iff.1 k1).1]; exact k1⟩, k3⟩
theorem foldl_pars (qs : Array Tmp) (av tmps : Array Value) : (qs.zip av).foldl (fun t (p, v) => t.setIfInBounds p v) tmps = (qs.toList.zip av.toList).foldl (fun t y => t.setIfInBounds y.1 y.2) tmps := by
  rw [← Array.foldl_toList, Array.toList_zip]
set_option maxHeartbeats 1000000 in
/-- A RANGE OVER A FUNCTION. -/
theorem xWp_rangeF {x : Arg} {ps live : List Nat} {ra rb : RCode} {g : Nat} {caps : List PVal} {xs : List (List PVal)} {exA exB : Ex} {cn : Env → Mem → Env × Mem} {e e' : Env} {m m' : Mem} {j : XE} {Q : XQ}
    (hN : N ≤ 999999) (hf : evA e x = some (.p (.fn g [] caps))) (hs : Seq P g caps xs)
    (hA : ∀ (C : Ctx) e m r, exA e m = some r → xWp P C N ra (fun x e m => (x, e, m) = r) e m) (hB : ∀ (C : Ctx) e m r, exB e m = some r → xWp P C N rb (fun x e m => (x, e, m) = r) e m)
    (hcn : ∀ e m, Tells e m (cn e m).1 (cn e m).2) (h : rnd (seqE exA exB) N ps cn xs e m = some (j, e', m')) (hk : Q j e' m') : xWp P C N (.rangeF x ps live ra rb) Q e m := by
  intro c hc G w a hr
  obtain ⟨gx, qs, ca, cb, rfl, h1, h2, h3, h4, h5⟩ := codeIs_rangeF hc
  have hvr := (arg_ok h1 hr.er hf).out
  generalize hcc : a.eval gx = cc at hvr
  cases hvr with
  | fn _ _ _ fv cv hsz0 hsz _ hcap =>
  have hfv : fv = #[] := by simpa using hsz0
  subst hfv
  refine wpIn_rangeFunc fun fn _ => ?_
  obtain ⟨l, mark, w1, d, hent, hl1, hf1, hb1, hr1⟩ := enter_loop (P := P) hr fn qs ca cb
  let lp : LoopState → Option Code → Loop := fun st pe => { state := st, pending := pe, fn := fn, tmps := a.tmps, params := qs, assign := ca, body := cb, defers := d }
  let a' : Act := { a with defers := mark ++ a.defers }
  let J : Nat → Frz → World → Prop := fun i F W => ∃ G' ei mi, G'.F = F ∧ Rel C G' W N a' ei mi ∧ W.heap[l]? = some (.loop (lp .ready none)) ∧ Free G' l ∧ rnd (seqE exA exB) N ps cn (xs.drop i) ei mi = some (j, e', m')
  let Jx : Frz → World → Prop := fun F W => ∃ G' cj, G'.F = F ∧ Rel C G' W N a' e' m' ∧ W.heap[l]? = some (.loop (lp .done (some cj))) ∧ Free G' l ∧ jumpCode j = some cj
  have stab : ∀ {G' : Gh} {W W' : World} {G2 : Gh} {ei : Env} {mi : Mem} {r : Loop}, Rel C G' W N a' ei mi → W.heap[l]? = some (.loop r) → Free G' l → Good (Ctx.of (bare G'.F) W) G2 W' →
      Rel C (G'.merge [] G2) W' N a' ei mi ∧ W'.heap[l]? = some (.loop r) ∧ Free (G'.merge [] G2) l := by
    intro G' W W' G2 ei mi r hrel hl hfree hg
    have hst := merge_bare (C := C.re G' W) hrel.mr hrel.good.re hg
    have hlt := (Array.getElem?_eq_some_iff.1 hl).1
    have hkp := Free.keep (C' := C.re G' W) ⟨rfl, rfl, rfl⟩ hst.good hlt hfree
    exact ⟨hrel.step (k := .no) hst, by rw [hkp.1]; exact hl, hkp.2⟩
  have hcall : Calls P g (#[.func (.yield l) #[] #[]] ++ cv) w1 (rangePost (fcF C) 0 P l (lift C N Q) a') := by
    refine Calls.mono (hs.2 l cv J Jx G.F w1 hsz hcap ?_ ?_ ?_ ?_ ?_ ?_) ?_
    · rintro i F W ⟨G', ei, mi, rfl, hrel, _⟩
      exact hrel.good.bare
    · rintro F W ⟨G', cj, rfl, hrel, _⟩
      exact hrel.good.bare
    · rintro i F W G2 W' ⟨G', ei, mi, rfl, hrel, hl, hfree, hrnd⟩ hg
      obtain ⟨s1, s2, s3⟩ := stab hrel hl hfree hg
      exact ⟨G'.merge [] G2, ei, mi, rfl, s1, s2, s3, hrnd⟩
    · rintro F W G2 W' ⟨G', cj, rfl, hrel, hl, hfree, hj⟩ hg
      obtain ⟨s1, s2, s3⟩ := stab hrel hl hfree hg
      exact ⟨G'.merge [] G2, cj, rfl, s1, s2, s3, hj⟩
    · -- a round
      rintro i F W y av ⟨G', ei, mi, rfl, hrel, hl, hfree, hrnd⟩ hy hav hpv
      have hdrop : xs.drop i = y :: xs.drop (i + 1) := by
        obtain ⟨hlt, rfl⟩ := List.getElem?_eq_some_iff.1 hy
        exact List.drop_eq_getElem_cons hlt
      rw [hdrop] at hrnd
      simp only [rnd] at hrnd
      split at hrnd
      · rename_i hlen
        have hqs : qs.size = ps.length := by rw [← h2]; simp
        have hyl := run_yield (P := P) (args := av) hl (by show av.size = qs.size; omega)
        rw [foldl_pars] at hyl
        refine ⟨fn, _, ca, cb, hyl, roundIn_of_wpIn trivial ?_⟩
        -- the frame of the round
        let C1 : Ctx := { C.re G' W with hid := a.tmps ++ C.hid, ro := some l }
        have hlt := (Array.getElem?_eq_some_iff.1 hl).1
        have hrel1 : Rel C1 G' W N { tmps := (qs.toList.zip av.toList).foldl (fun t y => t.setIfInBounds y.1 y.2) a.tmps, defers := [] } (parEnv ps y ++ (visOf ei ++ hide N ei)) mi := by
          refine ⟨hrel.mr, hrel.good.re.ctx rfl rfl rfl, ?_, ?_, ?_⟩
          · have he := ER.round (C' := C1) hrel.er hr.size rfl
            rw [h2]
            exact ER.pars he hlen (by simp [hav, hlen]) (fun p hp => ⟨by rw [hr.size]; exact (h3 p hp).1, (h3 p hp).2⟩) (fun k p c a b => hpv k p c a (by simpa using b))
          · exact ⟨rfl, ⟨_, hl⟩, hfree⟩
          · rw [foldl_set_size]; exact hr.size
        -- what 'seqE' did
        cases hxA : exA (parEnv ps y ++ (visOf ei ++ hide N ei)) mi with
        | none => simp [seqE, hxA] at hrnd
        | some rA =>
        obtain ⟨xA, eA, mA⟩ := rA
        have hxAn : xA = .normal := by
          cases xA with
          | normal => rfl
          | _ => simp [seqE, hxA] at hrnd
        subst hxAn
        have hseq : seqE exA exB (parEnv ps y ++ (visOf ei ++ hide N ei)) mi = exB eA mA := by simp [seqE, hxA]
        rw [hseq] at hrnd
        refine wpIn_mono (hA C1 _ _ _ hxA ca h4 G' W _ hrel1) ?_
        intro ex a1 w1' hlft
        cases ex with
        | normal =>
          obtain ⟨GA, eA', mA', hrA, heq⟩ := hlft
          cases heq
          have hkA := Free.keep (C' := C1) ⟨rfl, rfl, rfl⟩ hrA.good hlt hfree
          have hlA : w1'.heap[l]? = some (.loop (lp .ready none)) := by rw [hkA.1]; exact hl
          have hltA := (Array.getElem?_eq_some_iff.1 hlA).1
          have hgA : Good C GA w1' := hrel.good.unre (C' := C1) ⟨rfl, rfl, rfl⟩ hrA.good
          have hmkA : Marks C GA w1' a'.defers := hrel.marks.keep (C' := C1) ⟨rfl, rfl, rfl⟩ hrA.good
          refine ⟨_, run_beginRound hlA rfl, ?_⟩
          obtain ⟨w2, hw2⟩ : ∃ w2, w1'.putObj l (.loop { lp .ready none with state := .busy }) = w2 := ⟨_, rfl⟩
          rw [hw2]
          obtain ⟨p1, p2⟩ := putFree hrA.mr hgA hkA.2 (.inl hb1) (.loop { lp .ready none with state := .busy })
          rw [hw2] at p1 p2
          have hmk2 : Marks C GA w2 a'.defers := by rw [← hw2]; exact hmkA.put hlA
          have hl2 : w2.heap[l]? = some (.loop { lp .ready none with state := .busy }) := by rw [← hw2]; exact World.putObj_heap_same hltA
          have hlt2 := (Array.getElem?_eq_some_iff.1 hl2).1
          let C2 : Ctx := { C.re GA w2 with hid := a.tmps ++ C.hid, ro := some l }
          have hd0 : a1.defers = [] := hrA.marks.1
          have hrel2 : Rel C2 GA w2 N a1 eA mA := ⟨p1, p2.re.ctx rfl rfl rfl, hrA.er, ⟨hd0, ⟨_, hl2⟩, hkA.2⟩, hrA.size⟩
          cases hxB : exB eA mA with
          | none => rw [hxB] at hrnd; cases hrnd
          | some rB =>
          obtain ⟨xB, eB, mB⟩ := rB
          rw [hxB] at hrnd
          refine wpIn_mono (hB C2 _ _ _ hxB cb h5 GA w2 a1 hrel2) ?_
          intro ex2 a2 w3 hlft2
          have leA : G'.F.le GA.F := ⟨hrA.good.fz0, hrA.good.fm0⟩
          have after : ∀ {x2 : XE}, Holds C2 N (fun e m => (x2, e, m) = (xB, eB, mB)) a2 w3 → ∃ GB, x2 = xB ∧ Rel C GB w3 N a' (unhide N eB) mB ∧ G'.F.le GB.F ∧ Free GB l ∧ w3.heap[l]? = some (.loop { lp .ready none with state := .busy }) := by
            rintro x2 ⟨GB, eB', mB', hrB, heq⟩
            cases heq
            have hkB := Free.keep (C' := C2) ⟨rfl, rfl, rfl⟩ hrB.good hlt2 hkA.2
            refine ⟨GB, rfl, ⟨hrB.mr, p2.unre (C' := C2) ⟨rfl, rfl, rfl⟩ hrB.good, ?_, hmk2.keep (C' := C2) ⟨rfl, rfl, rfl⟩ hrB.good, hr.size⟩, ⟨fun b o v h => hrB.good.fz0 b o v (leA.cell b o v h), fun r es h => hrB.good.fm0 r es (leA.map r es h)⟩, hkB.2, by rw [hkB.1]; exact hl2⟩
            exact ER.unround (C := C) (C' := C2) hrB.er hr.size (by omega) rfl
          cases ex2 with
          | normal =>
            obtain ⟨GB, rfl, hrelB, leB, hfB, hl3⟩ := after hlft2
            have hlt3 := (Array.getElem?_eq_some_iff.1 hl3).1
            refine ⟨_, _, run_endRound none hl3, .inl ⟨rfl, ?_⟩⟩
            have hrel4 := hrelB.putLoop (r' := lp .ready none) hl3 hfB hb1
            obtain ⟨G5, hrel5, le5, free5⟩ := hrel4.tell' (hcn (unhide N eB) mB)
            refine ⟨G5.F, ⟨fun b o v h => le5.cell b o v (leB.cell b o v h), fun r es h => le5.map r es (leB.map r es h)⟩, G5, _, _, rfl, hrel5, World.putObj_heap_same hlt3, free5 l (by rw [World.putObj_size]; exact hlt3) hfB, hrnd⟩
          | exit id =>
            obtain ⟨GB, rfl, hrelB, leB, hfB, hl3⟩ := after hlft2
            have hlt3 := (Array.getElem?_eq_some_iff.1 hl3).1
            simp only [Option.some.injEq, Prod.mk.injEq] at hrnd
            obtain ⟨rfl, rfl, rfl⟩ := hrnd
            refine ⟨_, _, run_endRound (some (.exit id)) hl3, .inr ⟨rfl, GB.F, leB, GB, _, rfl, hrelB.putLoop (r' := lp .done (some (.exit id))) hl3 hfB hb1, World.putObj_heap_same hlt3, hfB, rfl⟩⟩
          | ret =>
            obtain ⟨GB, rfl, hrelB, leB, hfB, hl3⟩ := after hlft2
            have hlt3 := (Array.getElem?_eq_some_iff.1 hl3).1
            simp only [Option.some.injEq, Prod.mk.injEq] at hrnd
            obtain ⟨rfl, rfl, rfl⟩ := hrnd
            refine ⟨_, _, run_endRound (some .ret) hl3, .inr ⟨rfl, GB.F, leB, GB, _, rfl, hrelB.putLoop (r' := lp .done (some .ret)) hl3 hfB hb1, World.putObj_heap_same hlt3, hfB, rfl⟩⟩
          | goto t => exact hlft2.elim
          | panic ch => exact hlft2.elim
          | outgrown => exact hlft2.elim
        | exit id => obtain ⟨_, _, _, _, heq⟩ := hlft; cases heq
        | ret => obtain ⟨_, _, _, _, heq⟩ := hlft; cases heq
        | goto t => exact hlft.elim
        | panic ch => exact hlft.elim
        | outgrown => exact hlft.elim
      · cases hrnd
    · exact ⟨G, e, m, rfl, hr1, hl1, hf1, by rw [List.drop_zero]; exact h⟩
    · -- the iterator has come back
      rintro en W' ⟨⟨v, rfl⟩, hfin⟩
      rcases hfin with ⟨F', G', ei, mi, rfl, hrel, hl, hfree, hrnd⟩ | ⟨F', G', cj, rfl, hrel, hl, hfree, hj⟩
      · rw [List.drop_length] at hrnd
        simp only [rnd, Option.some.injEq, Prod.mk.injEq] at hrnd
        obtain ⟨rfl, rfl, rfl⟩ := hrnd
        exact ⟨_, _, run_endLoop hl (by simp [lp]), ⟨G', _, _, hrel.putLoop (r' := { lp .ready none with state := .exhausted }) hl hfree hb1, hk⟩⟩
      · refine ⟨_, _, run_endLoop hl (by simp [lp]), ?_⟩
        have hrel' := hrel.putLoop (r' := { lp .done (some cj) with state := .exhausted }) hl hfree hb1
        cases j with
        | normal => cases hj
        | ret => cases hj; exact wpIn_ret ⟨G', _, _, hrel', hk⟩
        | exit i => cases hj; exact wpIn_exit ⟨G', _, _, hrel', hk⟩
  have hres : (resolve a.eval (rangeCall gx l) 0).run P w1 = .ok { target := .fn (.func g) cv, args := #[.func (.yield l) #[] #[]] } w1 := by
    simp only [resolve, hcc]
    simp [go_sem]
  have hinv : (invoke (.fn (.func g) cv) #[.func (.yield l) #[] #[]]).run P w1 = .ok (.enter g (#[.func (.yield l) #[] #[]] ++ cv)) w1 := by
    simp [invoke, go_sem, run_callee hs.1]
  clear_value J Jx
  refine ⟨l, mark, w1, { target := .fn (.func g) cv, args := #[.func (.yield l) #[] #[]] }, w1, g, #[.func (.yield l) #[] #[]] ++ cv, w1, hent, hres, ?_, hinv, ?_, ?_⟩
  · exact fun _ _ => trivial
  · intro h; cases h
  · exact callsIn_fc hcall
end
end Go.Proofs.Ytnmnijgoggombaa.X
/- A function's result, written out. -/
namespace Go.Proofs.Ytnmnijgoggombaa.X
open Go.RowKit
mutual
/-- What a value leads to, written out. -/
def pk (m : Mem) : AVal → Option AVal
  | .p x => some (.p x)
  | .agg cs => match pkL m cs with
    | some l => some (mkAgg l)
    | none => none
  | .tup cs => match pkL m cs with
    | some l => some (mkTup l)
    | none => none
  | .rsl pl off len => match getAt m pl with
    | some (.own false z rows) => if off = 0 ∧ rows.length = len then some (.own false z rows) else none
    | _ => none
  | .rpt pl i j => match getAt m pl with
    | some (.own true z rows) => if i = 0 ∧ j = 0 then some (.own true z rows) else none
    | _ => none
  | .rmp pl => match getAt m pl with
    | some (.omap es) => some (.omap es)
    | _ => none
  | _ => none
def pkL (m : Mem) : List AVal → Option (List AVal)
  | [] => some []
  | a :: l => match pk m a with
    | some x => match pkL m l with
      | some xs => some (x :: xs)
      | none => none
    | none => none
end
mutual
def refsIn : AVal → List Place
  | .agg cs => refsInL cs
  | .tup cs => refsInL cs
  | .rsl pl _ _ => [pl]
  | .rpt pl _ _ => [pl]
  | .rmp pl => [pl]
  | _ => []
def refsInL : List AVal → List Place
  | [] => []
  | a :: l => refsIn a ++ refsInL l
end
def preB : List (Nat × Nat) → List (Nat × Nat) → Bool
  | [], _ => true
  | _ :: _, [] => false
  | x :: a, y :: b => x == y && preB a b
def apartP (p q : Place) : Bool := p.s != q.s || p.k != q.k || !(preB p.path q.path || preB q.path p.path)
def apartPs : List Place → Bool
  | [] => true
  | p :: ps => ps.all (apartP p) && apartPs ps
theorem preB_append {a b c d : List (Nat × Nat)} (h : a ++ c = b ++ d) : preB a b = true ∨ preB b a = true := by
  induction a generalizing b with
  | nil => exact .inl rfl
  | cons x a ih =>
    cases b with
    | nil => exact .inr rfl
    | cons y b =>
      simp only [List.cons_append, List.cons.injEq] at h
      obtain ⟨rfl, h⟩ := h
      simpa [preB] using ih h
theorem apartP_app {p q : Place} (h : apartP p q = true) (r s : List (Nat × Nat)) : p.app r ≠ q.app s := by
  intro e
  simp only [Place.app, Place.mk.injEq] at e
  obtain ⟨e1, e2, e3⟩ := e
  simp only [apartP, Bool.or_eq_true, bne_iff_ne, ne_eq, Bool.not_eq_true', Bool.or_eq_false_iff] at h
  rcases h with (h | h) | ⟨h1, h2⟩
  · exact h e1
  · exact h e2
  · rcases preB_append e3 with h | h
    · rw [h] at h1; cases h1
    · rw [h] at h2; cases h2
theorem apartPs_get : ∀ {ps : List Place}, apartPs ps = true → ∀ {i j : Nat} {p q : Place}, i < j → ps[i]? = some p → ps[j]? = some q → apartP p q = true := by
  intro ps
  induction ps with
  | nil => intro _ i j p q _ h; simp at h
  | cons x ps ih =>
    intro h i j p q hij hi hj
    simp only [apartPs, Bool.and_eq_true, List.all_eq_true] at h
    cases i with
    | zero =>
      simp at hi
      subst hi
      cases j with
      | zero => omega
      | succ j => exact h.1 q (List.mem_of_getElem? (by simpa using hj))
    | succ i =>
      cases j with
      | zero => omega
      | succ j => exact ih h.2 (i := i) (j := j) (by omega) (by simpa using hi) (by simpa using hj)
/-- The places' contents under their labels. -/
def memAt (m : Mem) (d : Nat) : Nat → List Place → Mem
  | _, [] => []
  | k, p :: ps => (match getAt m p with | some a => [(lbl d k, [a])] | none => []) ++ memAt m d (k + 1) ps
theorem lbl_inj {d k k' : Nat} (h : lbl d k = lbl d k') : k = k' := by unfold lbl at h; omega
theorem memAt_lk {m : Mem} {d : Nat} : ∀ {ps : List Place} {k s : Nat} {cs : List AVal}, lk (memAt m d k ps) s = some cs → ∃ i p a, ps[i]? = some p ∧ s = lbl d (k + i) ∧ getAt m p = some a ∧ cs = [a] := by
  intro ps
  induction ps with
  | nil => intro k s cs h; simp [memAt, lk] at h
  | cons p ps ih =>
    intro k s cs h
    simp only [memAt, lk_append] at h
    cases ha : getAt m p with
    | none =>
      simp [ha, lk] at h
      obtain ⟨i, q, a, h1, h2, h3⟩ := ih h
      exact ⟨i + 1, q, a, by simpa using h1, by rw [h2]; congr 1; omega, h3⟩
    | some a =>
      simp only [ha, lk] at h
      by_cases hs : s = lbl d k
      · simp [hs] at h
        exact ⟨0, p, a, by simp, by simpa using hs, ha, h.symm⟩
      · simp [hs] at h
        obtain ⟨i, q, a', h1, h2, h3⟩ := ih h
        exact ⟨i + 1, q, a', by simpa using h1, by rw [h2]; congr 1; omega, h3⟩
/-- The place that a label stands for. -/
def plAt (d : Nat) (ps : List Place) (q : Place) : Option Place :=
  if q.k = 0 then
    match (List.range ps.length).find? (fun i => lbl d i == q.s) with
    | some i => (ps[i]?).map (·.app q.path)
    | none => none
  else none
theorem plAt_at {d : Nat} {ps : List Place} {i : Nat} {p : Place} (h : ps[i]? = some p) (r : List (Nat × Nat)) : plAt d ps ⟨lbl d i, 0, r⟩ = some (p.app r) := by
  have hlt := (List.getElem?_eq_some_iff.1 h).1
  unfold plAt
  simp only [if_true]
  cases hf : (List.range ps.length).find? (fun j => lbl d j == lbl d i) with
  | none =>
    have := List.find?_eq_none.1 hf i (List.mem_range.2 hlt)
    simp at this
  | some j =>
    have := List.find?_some hf
    have hj := lbl_inj (beq_iff_eq.1 this)
    subst hj
    simp [h]
theorem plAt_some {d : Nat} {ps : List Place} {q r : Place} (h : plAt d ps q = some r) : ∃ i p, ps[i]? = some p ∧ q = ⟨lbl d i, 0, q.path⟩ ∧ r = p.app q.path := by
  obtain ⟨s, k, path⟩ := q
  unfold plAt at h
  split at h
  · rename_i hk
    simp only at hk
    subst hk
    split at h
    · rename_i i hi
      have hs := List.find?_some hi
      simp only [beq_iff_eq] at hs
      subst hs
      simp only [Option.map_eq_some_iff] at h
      obtain ⟨p, h1, rfl⟩ := h
      exact ⟨i, p, h1, rfl, rfl⟩
    · cases h
  · cases h
def Gh.pack (G : Gh) (d : Nat) (ps : List Place) : Gh :=
  { F := G.F
    loc := fun q => (plAt d ps q).bind G.loc
    cv := fun q => match plAt d ps q with | some p => G.cv p | none => undef }
theorem Gh.pack_at {G : Gh} {d : Nat} {ps : List Place} {i : Nat} {p : Place} (h : ps[i]? = some p) (r : List (Nat × Nat)) :
    (G.pack d ps).loc ⟨lbl d i, 0, r⟩ = G.loc (p.app r) ∧ (G.pack d ps).cv ⟨lbl d i, 0, r⟩ = G.cv (p.app r) := by
  simp [Gh.pack, plAt_at h r]
theorem Gh.pack_loc {G : Gh} {d : Nat} {ps : List Place} {q : Place} {L : Loc} (h : (G.pack d ps).loc q = some L) : ∃ i p, ps[i]? = some p ∧ q = ⟨lbl d i, 0, q.path⟩ ∧ G.loc (p.app q.path) = some L := by
  simp only [Gh.pack, Option.bind_eq_some_iff] at h
  obtain ⟨r, h1, h2⟩ := h
  obtain ⟨i, p, g1, g2, rfl⟩ := plAt_some h1
  exact ⟨i, p, g1, g2, h2⟩
section
variable {P : Program} {C : Ctx}
theorem pack_mr {G : Gh} {w : World} {m : Mem} (hm : MR G w m) (hg : Good C G w) {d : Nat} {ps : List Place} (ha : apartPs ps = true) : MR (G.pack d ps) w (memAt m d 0 ps) ∧ Good C (G.pack d ps) w := by
  refine ⟨?_, ?_⟩
  · intro q x hx
    obtain ⟨s, k, r⟩ := q
    simp only [getAt, Option.bind_eq_some_iff] at hx
    obtain ⟨cs, h1, a, h2, h3⟩ := hx
    obtain ⟨i, p, b, g1, g2, g3, g4⟩ := memAt_lk h1
    subst g4
    rw [Nat.zero_add] at g2
    have hk : k = 0 := by
      cases k with
      | zero => rfl
      | succ k => simp at h2
    subst hk
    simp at h2
    subst h2
    have hget : getAt m (p.app r) = some x := by rw [getAt_app, g3]; exact h3
    have hat := Gh.pack_at (G := G) (d := d) g1 r
    subst g2
    refine (hm _ x hget).move (SameShape.refl _) (Frz.le_refl _) (fun L hL => ⟨by rw [hat.1]; exact hL, rfl⟩) hat.2 ?_
    intro i' j'
    have := (Gh.pack_at (G := G) (d := d) g1 (r ++ [(i', j')])).2
    simpa [Place.ext, Place.app] using this
  · refine ⟨hg.fz, ?_, hg.fm, ?_, ?_, ?_, hg.size, hg.keep, ?_, hg.fz0, hg.fm0, hg.fzn, hg.fmn, hg.os, hg.tape, hg.output⟩
    · intro b o v hv q L hL
      obtain ⟨i, p, _, _, h3⟩ := Gh.pack_loc hL
      exact hg.fzl b o v hv _ L h3
    · intro r es hr q L hL
      obtain ⟨i, p, _, _, h3⟩ := Gh.pack_loc hL
      exact hg.fml r es hr _ L h3
    · intro q q' L L' h h' e
      obtain ⟨i, p, h1, h2, h3⟩ := Gh.pack_loc h
      obtain ⟨i', p', h1', h2', h3'⟩ := Gh.pack_loc h'
      have he := hg.inj _ _ L L' h3 h3' e
      have hi : i = i' := by
        rcases Nat.lt_trichotomy i i' with hlt | hlt | hlt
        · exact absurd he (apartP_app (apartPs_get ha hlt h1 h1') _ _)
        · exact hlt
        · exact absurd he.symm (apartP_app (apartPs_get ha hlt h1' h1) _ _)
      subst hi
      rw [h1] at h1'
      cases h1'
      have hr : q.path = q'.path := by simpa [Place.app] using he
      rw [h2, h2', hr]
    · intro q L hL
      obtain ⟨i, p, _, _, h3⟩ := Gh.pack_loc hL
      exact hg.bnd _ L h3
    · intro q L hL
      obtain ⟨i, p, _, _, h3⟩ := Gh.pack_loc hL
      exact hg.own _ L h3
theorem unpL_length (d : Nat) : ∀ (l : List AVal) (k : Nat), (unpL d l k).1.length = l.length := by
  intro l
  induction l with
  | nil => intro k; rfl
  | cons a l ih => intro k; simp [unpL, ih]
theorem mkAgg_unp (d : Nat) (l : List AVal) (k : Nat) : unp d (mkAgg l) k = (mkAgg (unpL d l k).1, (unpL d l k).2.1, (unpL d l k).2.2) := by
  unfold mkAgg
  cases hp : allP l with
  | none => rfl
  | some ps =>
    have := allP_spec hp
    subst this
    have key : ∀ (ps : List PVal) (k : Nat), unpL d (ps.map .p) k = (ps.map .p, [], k) := by
      intro ps
      induction ps with
      | nil => intro k; rfl
      | cons x ps ih => intro k; simp [unpL, unp, ih]
    rw [key]
    simp [unp, hp]
theorem mkTup_unp (d : Nat) (l : List AVal) (k : Nat) : unp d (mkTup l) k = (mkTup (unpL d l k).1, (unpL d l k).2.1, (unpL d l k).2.2) := by
  unfold mkTup
  cases hp : allP l with
  | none => rfl
  | some ps =>
    have := allP_spec hp
    subst this
    have key : ∀ (ps : List PVal) (k : Nat), unpL d (ps.map .p) k = (ps.map .p, [], k) := by
      intro ps
      induction ps with
      | nil => intro k; rfl
      | cons x ps ih => intro k; simp [unpL, unp, ih]
    rw [key]
    simp [unp, hp]
theorem memAt_append (m : Mem) (d : Nat) : ∀ (a b : List Place) (k : Nat), memAt m d k (a ++ b) = memAt m d k a ++ memAt m d (k + a.length) b := by
  intro a
  induction a with
  | nil => intro b k; rfl
  | cons x a ih => intro b k; simp [memAt, ih, Nat.add_assoc, Nat.add_comm 1]
theorem scalar_unp {d : Nat} {a : AVal} {k : Nat} (h : a.scalar = true) : (unp d a k).1.scalar = true := by
  cases a <;> first | (simp [AVal.scalar] at h; done) | exact h | rfl | skip
  rename_i ptr z rows
  cases ptr <;> rfl
theorem pk_scalar {m : Mem} {a t : AVal} (h : pk m a = some t) (ha : a.scalar = true) : t.scalar = true := by
  cases a <;> simp only [pk] at h
  · cases h; exact ha
  · simp [AVal.scalar] at ha
  · simp [AVal.scalar] at ha
  · cases h
  · cases h
  · split at h
    · split at h <;> cases h; rfl
    · cases h
  · split at h
    · split at h <;> cases h; rfl
    · cases h
  · split at h <;> cases h; rfl
  · cases h
  · cases h
  · cases h
  · cases h
  · cases h
  · cases h
theorem pk_ok {G : Gh} {m : Mem} {d : Nat} {ps : List Place} {v : AVal} {c : Value} (hv : VR G v c) :
    ∀ {t : AVal} {k : Nat}, pk m v = some t → (∀ i p, (refsIn v)[i]? = some p → ps[k + i]? = some p) →
      VR (G.pack d ps) (unp d t k).1 c ∧ (unp d t k).2.1 = memAt m d k (refsIn v) ∧ (unp d t k).2.2 = k + (refsIn v).length := by
  have lists : ∀ (cs : List AVal) (cv : List Value), cv.length = cs.length →
      (∀ (i : Nat) (a : AVal) (c : Value), cs[i]? = some a → cv[i]? = some c → ∀ {t : AVal} {k : Nat}, pk m a = some t → (∀ i p, (refsIn a)[i]? = some p → ps[k + i]? = some p) →
        VR (G.pack d ps) (unp d t k).1 c ∧ (unp d t k).2.1 = memAt m d k (refsIn a) ∧ (unp d t k).2.2 = k + (refsIn a).length) →
      ∀ {ts : List AVal} {k : Nat}, pkL m cs = some ts → (∀ i p, (refsInL cs)[i]? = some p → ps[k + i]? = some p) →
        (∀ (i : Nat) (a : AVal) (c : Value), (unpL d ts k).1[i]? = some a → cv[i]? = some c → VR (G.pack d ps) a c) ∧ (unpL d ts k).2.1 = memAt m d k (refsInL cs) ∧ (unpL d ts k).2.2 = k + (refsInL cs).length ∧ ts.length = cs.length ∧
        ((∀ a ∈ cs, a.scalar = true) → ∀ a ∈ (unpL d ts k).1, a.scalar = true) := by
    intro cs
    induction cs with
    | nil =>
      intro cv _ _ ts k h _
      simp only [pkL, Option.some.injEq] at h
      subst h
      exact ⟨fun i a c h => by simp [unpL] at h, rfl, rfl, rfl, fun _ => by simp [unpL]⟩
    | cons a cs ih =>
      intro cv hl hh ts k h hr
      cases cv with
      | nil => simp at hl
      | cons c0 cv =>
        simp only [pkL] at h
        split at h
        · rename_i x hx
          split at h
          · rename_i xs hxs
            cases h
            obtain ⟨a1, a2, a3⟩ := hh 0 a c0 (by simp) (by simp) hx (fun i p hi => hr i p (by simp only [refsInL]; rw [List.getElem?_append_left (List.getElem?_eq_some_iff.1 hi).1]; exact hi))
            obtain ⟨b1, b2, b3, b4, b5⟩ := ih cv (by simpa using hl) (fun i a c h1 h2 => hh (i + 1) a c (by simpa using h1) (by simpa using h2)) (k := k + (refsIn a).length) hxs (fun i p hi => by
              have := hr ((refsIn a).length + i) p (by simp only [refsInL]; rw [List.getElem?_append_right (by omega)]; simpa using hi)
              rw [← this]
              congr 1
              omega)
            refine ⟨?_, ?_, ?_, by simp [b4], ?_⟩
            · intro i u c' hu hc'
              simp only [unpL, a3] at hu
              cases i with
              | zero => simp at hu hc'; subst hu hc'; exact a1
              | succ i => exact b1 i u c' (by simpa using hu) (by simpa using hc')
            · simp only [unpL, a3, a2, b2, refsInL, memAt_append]
            · simp only [unpL, a3, b3, refsInL, List.length_append, Nat.add_assoc]
            · intro hs u hu
              simp only [unpL, a3, List.mem_cons] at hu
              rcases hu with rfl | hu
              · exact scalar_unp (pk_scalar hx (hs a (by simp)))
              · exact b5 (fun b hb => hs b (List.mem_cons_of_mem _ hb)) u hu
          · cases h
        · cases h
  induction hv with
  | unk c h => intro t k ht _; simp [pk] at ht
  | rit pl mp mb ad h h' => intro t k ht _; simp [pk] at ht
  | p h =>
    intro t k ht _
    simp only [pk, Option.some.injEq] at ht
    subst ht
    exact ⟨.p h, rfl, rfl⟩
  | agg cs cv hs hc _ ih =>
    intro t k ht hr
    simp only [pk] at ht
    split at ht
    · rename_i ts hts
      cases ht
      obtain ⟨b1, b2, b3, b4, b5⟩ := lists cs cv.toList (by simpa using hs) (fun i a c h1 h2 => ih i a c h1 (by simpa using h2)) hts hr
      rw [mkAgg_unp]
      exact ⟨VR.mkAgg (by rw [unpL_length, b4]; exact hs) (b5 hc) (fun i a c h1 h2 => b1 i a c h1 (by simpa using h2)), b2, b3⟩
    · cases ht
  | tup cs cv hs _ ih =>
    intro t k ht hr
    simp only [pk] at ht
    split at ht
    · rename_i ts hts
      cases ht
      obtain ⟨b1, b2, b3, b4, b5⟩ := lists cs cv.toList (by simpa using hs) (fun i a c h1 h2 => ih i a c h1 (by simpa using h2)) hts hr
      rw [mkTup_unp]
      exact ⟨VR.mkTup (by rw [unpL_length, b4]; exact hs) (fun i a c h1 h2 => b1 i a c h1 (by simpa using h2)), b2, b3⟩
    · cases ht
  | rsl pl off len ad q hh =>
    intro t k ht hr
    simp only [pk] at ht
    split at ht
    · rename_i z rows hg
      split at ht
      · rename_i hl
        cases ht
        obtain ⟨rfl, rfl⟩ := hl
        have hp := hr 0 pl (by simp [refsIn])
        have hat := (Gh.pack_at (G := G) (d := d) (ps := ps) (i := k) (p := pl) (by simpa using hp) []).1
        refine ⟨?_, by simp [unp, refsIn, memAt, hg], by simp [unp, refsIn]⟩
        simp only [unp, Bool.false_eq_true, if_false]
        refine .rsl _ _ _ _ _ fun b o cap z' hL => hh b o cap z' ?_
        rw [hat, Place.app_nil] at hL
        exact hL
      · cases ht
    · cases ht
  | rpt pl i j ad hh =>
    intro t k ht hr
    simp only [pk] at ht
    split at ht
    · rename_i z rows hg
      split at ht
      · rename_i hl
        cases ht
        obtain ⟨rfl, rfl⟩ := hl
        have hp := hr 0 pl (by simp [refsIn])
        have hat := (Gh.pack_at (G := G) (d := d) (ps := ps) (i := k) (p := pl) (by simpa using hp) []).1
        refine ⟨?_, by simp [unp, refsIn, memAt, hg], by simp [unp, refsIn]⟩
        simp only [unp, if_true]
        refine .rpt _ _ _ _ fun b o cap z' hL => hh b o cap z' ?_
        rw [hat, Place.app_nil] at hL
        exact hL
      · cases ht
    · cases ht
  | rmp pl r hh =>
    intro t k ht hr
    simp only [pk] at ht
    split at ht
    · rename_i es hg
      cases ht
      have hp := hr 0 pl (by simp [refsIn])
      have hat := (Gh.pack_at (G := G) (d := d) (ps := ps) (i := k) (p := pl) (by simpa using hp) []).1
      refine ⟨?_, by simp [unp, refsIn, memAt, hg], by simp [unp, refsIn]⟩
      simp only [unp]
      refine .rmp _ _ fun b o cap z' hL => hh b o cap z' ?_
      rw [hat, Place.app_nil] at hL
      exact hL
    · cases ht
/-- A result that is the beginning of a slice: what is behind it is left out. -/
def trunc (m : Mem) : AVal → Mem
  | .rsl pl off len => if off = 0 ∧ pl.path = [] then
      match getAt m pl with
      | some (.own false z rows) => setAt m pl (.own false z (rows.take len))
      | _ => m
    else m
  | _ => m
open Classical in
theorem trunc_ok {G : Gh} {w : World} {m : Mem} (hm : MR G w m) (hg : Good C G w) (v : AVal) {c : Value} (hv : VR G v c) : ∃ G', MR G' w (trunc m v) ∧ Good C G' w ∧ VR G' v c := by
  have triv : ∃ G', MR G' w m ∧ Good C G' w ∧ VR G' v c := ⟨G, hm, hg, hv⟩
  cases v with
  | rsl pl off len =>
    simp only [trunc]
    split
    · rename_i hc
      split
      · rename_i z rows hget
        obtain ⟨s, k, path⟩ := pl
        obtain ⟨_, rfl⟩ := hc
        obtain ⟨b, o, cap, cs, ty, h1, h2, h3, h4, h5, h6, h7, h8⟩ := hm _ _ hget
        let pl : Place := ⟨s, k, []⟩
        let G' : Gh := { G with cv := fun q => if q = pl then .slice (some ⟨b, o, none⟩) (rows.take len).length cap else G.cv q }
        have hcv : ∀ q, q ≠ pl → G'.cv q = G.cv q := fun q hq => by simp [G', hq]
        have hext : ∀ (q : Place) i j, q.ext i j ≠ pl := fun q i j e => by
          have := congrArg Place.path e
          simp [Place.ext, pl] at this
        refine ⟨G', ?_, ⟨hg.fz, hg.fzl, hg.fm, hg.fml, hg.inj, hg.bnd, hg.size, hg.keep, hg.own, hg.fz0, hg.fm0, hg.fzn, hg.fmn, hg.os, hg.tape, hg.output⟩, VR.mono' (G := G) (G' := G') (Frz.le_refl G.F) (fun _ _ h => h) hv⟩
        have hsub : ∀ i j a, cellAt (rows.take len) i j = some a → cellAt rows i j = some a := by
          intro i j a ha
          obtain ⟨row, g1, g2⟩ := cellAt_some.1 ha
          rw [List.getElem?_take] at g1
          split at g1
          · exact cellAt_some.2 ⟨row, g1, g2⟩
          · cases g1
        intro q x hx
        by_cases hu : pl.under q
        · obtain ⟨r, rfl⟩ := hu
          rw [getAt_set_under hget] at hx
          cases r with
          | nil =>
            simp only [sub, Option.some.injEq] at hx
            subst hx
            refine ⟨b, o, cap, cs, ty, ?_, ?_, h3, h4, ?_, h6, ?_, ?_⟩
            · rw [Place.app_nil]; exact h1
            · rw [Place.app_nil]; simp [G']
            · simp; omega
            · intro row hr; exact h7 row (List.mem_of_mem_take hr)
            · intro i j a ha
              rw [Place.app_nil, hcv _ (hext _ _ _)]
              exact h8 i j a (hsub i j a ha)
          | cons ij r =>
            obtain ⟨i, j⟩ := ij
            have hne : ∀ q : Place, (pl.app ((i, j) :: r)) ≠ pl := fun _ e => by
              have := congrArg Place.path e
              simp [Place.app, pl] at this
            have hx0 : getAt m (pl.app ((i, j) :: r)) = some x := by
              rw [getAt_app, hget]
              simp only [sub, Option.bind_some] at hx ⊢
              cases hca : cellAt (rows.take len) i j with
              | none => simp [hca] at hx
              | some a =>
                rw [hsub i j a hca]
                simpa [hca] using hx
            exact (hm _ _ hx0).move (SameShape.refl _) (Frz.le_refl _) (fun L hL => ⟨hL, rfl⟩) (hcv _ (hne pl)) (fun i' j' => hcv _ (hext _ _ _))
        · have hne : q ≠ pl := fun e => hu (e ▸ Place.under_refl pl)
          have hq2 : ¬ q.under pl := fun ⟨r, hr⟩ => by
            have := congrArg Place.path hr
            simp only [Place.app, pl] at this
            have hn := List.append_eq_nil_iff.1 this.symm
            refine hne ?_
            rw [hr, hn.2, Place.app_nil]
          rw [getAt_set_indep _ hu hq2] at hx
          exact (hm q x hx).move (SameShape.refl _) (Frz.le_refl _) (fun L hL => ⟨hL, rfl⟩) (hcv q hne) (fun i' j' => hcv _ (hext _ _ _))
      · exact triv
    · exact triv
  | _ => exact triv
/-- From a body's end to the function's result. -/
theorem ret_of_spec {f : Nat} {ps : List PVal} {t : AVal} (hc : calleeIs P f = true) (h : Spec P f (ps.map .p) [] [] fun v _ m' => pk (trunc m' v) v = some t ∧ apartPs (refsIn v) = true) : Ret P f ps t := by
  refine ⟨hc, fun d C G w cv h1 h2 h3 h4 => ?_⟩
  refine Calls.mono (h C G w cv h1 h2 h3 h4) ?_
  intro en w' he
  cases en with
  | returned c =>
    obtain ⟨G0, v, h', m', a1, a2, a3, a4, a5, a6⟩ := he
    obtain ⟨G', a2, a3, a1⟩ := trunc_ok a2 a3 v a1
    obtain ⟨b1, b2⟩ := pack_mr (d := d) a2 a3 a6
    obtain ⟨c1, c2, c3⟩ := pk_ok (d := d) (ps := refsIn v) a1 (k := 0) a5 (fun i p hi => by rw [Nat.zero_add]; exact hi)
    exact ⟨G'.pack d (refsIn v), _, [], _, c1, by rw [c2]; exact b1, b2, fun t v h => by simp [lk] at h, rfl, rfl⟩
  | _ => exact he
end
end Go.Proofs.Ytnmnijgoggombaa.X
/- Memory that is lent to a call: the callee has it under labels of its own, and gives it back. -/
namespace Go.Proofs.Ytnmnijgoggombaa.X
open Go.RowKit
theorem apartPs_ne {ps : List Place} (ha : apartPs ps = true) {i j : Nat} {p q : Place} (hp : ps[i]? = some p) (hq : ps[j]? = some q) {r s : List (Nat × Nat)} (e : p.app r = q.app s) : i = j ∧ r = s := by
  have hi : i = j := by
    rcases Nat.lt_trichotomy i j with h | h | h
    · exact absurd e (apartP_app (apartPs_get ha h hp hq) _ _)
    · exact h
    · exact absurd e.symm (apartP_app (apartPs_get ha h hq hp) _ _)
  subst hi
  rw [hp] at hq
  cases hq
  exact ⟨rfl, Place.app_inj e⟩
/-- The contents, put at their places. -/
def putAll : Mem → List Place → List AVal → Mem
  | m, p :: ps, b :: bs => putAll (setAt m p b) ps bs
  | m, _, _ => m
/-- What lies at a place after that. -/
theorem putAll_get : ∀ {ps : List Place} {bs : List AVal} {m : Mem} {q : Place} {x : AVal}, apartPs ps = true → bs.length = ps.length → (∀ b ∈ bs, b.scalar = true) → (∀ p ∈ ps, ∃ a, getAt m p = some a) →
    getAt (putAll m ps bs) q = some x →
    (∃ (i : Nat) (p : Place) (b : AVal) (r : List (Nat × Nat)), ps[i]? = some p ∧ bs[i]? = some b ∧ q = p.app r ∧ sub r b = some x) ∨
    ((∀ (i : Nat) (p : Place) (r : List (Nat × Nat)), ps[i]? = some p → q ≠ p.app r) ∧ ∃ y, getAt m q = some y ∧ SameShape y x) := by
  intro ps
  induction ps with
  | nil => intro bs m q x _ _ _ _ h; exact .inr ⟨fun i p r h => by simp at h, x, h, .refl _⟩
  | cons p ps ih =>
    intro bs m q x ha hl hs hm h
    cases bs with
    | nil => simp at hl
    | cons b bs =>
      simp only [apartPs, Bool.and_eq_true, List.all_eq_true] at ha
      simp only [putAll] at h
      obtain ⟨a, hpa⟩ := hm p (by simp)
      have hm' : ∀ p' ∈ ps, ∃ a, getAt (setAt m p b) p' = some a := by
        intro p' hp'
        obtain ⟨a', ha'⟩ := hm p' (by simp [hp'])
        refine ⟨a', ?_⟩
        rw [getAt_set_indep b ?_ ?_]
        · exact ha'
        · rintro ⟨r, hr⟩
          exact apartP_app (ha.1 p' hp') r [] (by rw [Place.app_nil]; exact hr.symm)
        · rintro ⟨r, hr⟩
          exact apartP_app (ha.1 p' hp') [] r (by rw [Place.app_nil]; exact hr)
      rcases ih ha.2 (by simpa using hl) (fun b' hb => hs b' (by simp [hb])) hm' h with ⟨i, p', b', r, h1, h2, h3, h4⟩ | ⟨h1, y, h2, h3⟩
      · exact .inl ⟨i + 1, p', b', r, by simpa using h1, by simpa using h2, h3, h4⟩
      · by_cases hu : p.under q
        · obtain ⟨r, rfl⟩ := hu
          rw [getAt_set_under hpa] at h2
          left
          refine ⟨0, p, b, r, by simp, by simp, rfl, ?_⟩
          -- nothing is put below it later
          have : getAt (putAll (setAt m p b) ps bs) (p.app r) = getAt (setAt m p b) (p.app r) := by
            clear ih h h2 h3 hm'
            have key : ∀ (ps' : List Place) (bs' : List AVal) (m' : Mem), (∀ p' ∈ ps', apartP p p' = true) → getAt (putAll m' ps' bs') (p.app r) = getAt m' (p.app r) := by
              intro ps'
              induction ps' with
              | nil => intro bs' m' _; rfl
              | cons p' ps' ih' =>
                intro bs' m' hp'
                cases bs' with
                | nil => rfl
                | cons b' bs' =>
                  simp only [putAll]
                  rw [ih' bs' _ (fun x hx => hp' x (by simp [hx]))]
                  refine getAt_set_indep b' ?_ ?_
                  · rintro ⟨s, hs⟩
                    exact apartP_app (hp' p' (by simp)) r s hs
                  · rintro ⟨s, hs⟩
                    rw [Place.app_app] at hs
                    exact apartP_app (hp' p' (by simp)) (r ++ s) [] (by rw [Place.app_nil]; exact hs.symm)
            exact key ps bs _ ha.1
          rw [this, getAt_set_under hpa] at h
          exact h
        · right
          refine ⟨?_, ?_⟩
          · intro i p' r hp'
            cases i with
            | zero => simp at hp'; subst hp'; exact fun e => hu ⟨r, e⟩
            | succ i => exact h1 i p' r (by simpa using hp')
          · obtain ⟨y', hy', hsh⟩ := getAt_set_else (hs b (by simp)) hpa hu h2
            exact ⟨y', hy', hsh.trans h3⟩
open Classical in
/-- The ghosts after a call to which the places 'ps' were lent (under the labels 'la'), and that gave memory under the labels 'D'. -/
noncomputable def Gh.lent (D : List Nat) (ps : List Place) (la : Nat → Nat) (G G2 : Gh) : Gh :=
  { F := G2.F
    loc := fun q => if inSites D q = true then G2.loc q else if h : ∃ x : Nat × List (Nat × Nat), ∃ p : Place, ps[x.1]? = some p ∧ q = p.app x.2 then G2.loc ⟨la h.choose.1, 0, h.choose.2⟩ else G.loc q
    cv := fun q => if inSites D q = true then G2.cv q else if h : ∃ x : Nat × List (Nat × Nat), ∃ p : Place, ps[x.1]? = some p ∧ q = p.app x.2 then G2.cv ⟨la h.choose.1, 0, h.choose.2⟩ else G.cv q }
section
variable {D : List Nat} {ps : List Place} {la : Nat → Nat} {G G2 : Gh}
theorem lent_D {q : Place} (h : inSites D q = true) : (Gh.lent D ps la G G2).loc q = G2.loc q ∧ (Gh.lent D ps la G G2).cv q = G2.cv q := by
  simp [Gh.lent, h]
theorem lent_at (ha : apartPs ps = true) {i : Nat} {p : Place} (hp : ps[i]? = some p) (hD : D.contains p.s = false) (r : List (Nat × Nat)) :
    (Gh.lent D ps la G G2).loc (p.app r) = G2.loc ⟨la i, 0, r⟩ ∧ (Gh.lent D ps la G G2).cv (p.app r) = G2.cv ⟨la i, 0, r⟩ := by
  have h0 : inSites D (p.app r) = false := hD
  have hex : ∃ x : Nat × List (Nat × Nat), ∃ p' : Place, ps[x.1]? = some p' ∧ p.app r = p'.app x.2 := ⟨(i, r), p, hp, rfl⟩
  obtain ⟨p', h1, h2⟩ := hex.choose_spec
  obtain ⟨e1, e2⟩ := apartPs_ne ha hp h1 h2
  simp only [Gh.lent, h0, Bool.false_eq_true, if_false]
  rw [dif_pos hex, dif_pos hex, ← e1, ← e2]
  exact ⟨rfl, rfl⟩
theorem lent_else {q : Place} (h : inSites D q = false) (hn : ∀ (i : Nat) (p : Place) (r : List (Nat × Nat)), ps[i]? = some p → q ≠ p.app r) : (Gh.lent D ps la G G2).loc q = G.loc q ∧ (Gh.lent D ps la G G2).cv q = G.cv q := by
  have hex : ¬ ∃ x : Nat × List (Nat × Nat), ∃ p' : Place, ps[x.1]? = some p' ∧ q = p'.app x.2 := fun ⟨x, p, h1, h2⟩ => hn _ _ _ h1 h2
  simp only [Gh.lent, h, Bool.false_eq_true, if_false]
  rw [dif_neg hex, dif_neg hex]
  exact ⟨rfl, rfl⟩
theorem lent_cases (q : Place) : inSites D q = true ∨ (inSites D q = false ∧ ∃ (i : Nat) (p : Place) (r : List (Nat × Nat)), ps[i]? = some p ∧ q = p.app r) ∨ (inSites D q = false ∧ ∀ (i : Nat) (p : Place) (r : List (Nat × Nat)), ps[i]? = some p → q ≠ p.app r) := by
  cases h : inSites D q with
  | true => exact .inl rfl
  | false =>
    by_cases hex : ∃ (i : Nat) (p : Place) (r : List (Nat × Nat)), ps[i]? = some p ∧ q = p.app r
    · exact .inr (.inl ⟨rfl, hex⟩)
    · exact .inr (.inr ⟨rfl, fun i p r h1 h2 => hex ⟨i, p, r, h1, h2⟩⟩)
end
/-- Where the callee begins: what is lent is its own. -/
def Ctx.lent (G : Gh) (w : World) (ps : List Place) : Ctx :=
  { w0 := w, F0 := G.F, mine := fun b => ∃ (i : Nat) (p : Place) (r : List (Nat × Nat)) (L : Loc), ps[i]? = some p ∧ G.loc (p.app r) = some L ∧ L.b = b, hid := (ps.map G.cv).toArray }
section
variable {C : Ctx} {G G2 : Gh} {w w' : World} {m mD : Mem} {D : List Nat} {ps : List Place} {bs : List AVal} {la : Nat → Nat}
theorem lend_ok (hm : MR G w m) (hg : Good C G w) (ha : apartPs ps = true) (hl : bs.length = ps.length) (hs : ∀ b ∈ bs, b.scalar = true) (hps : ∀ p ∈ ps, (∃ a, getAt m p = some a) ∧ D.contains p.s = false)
    (hg' : Good (Ctx.lent G w ps) G2 w') (hla : ∀ i j, la i = la j → i = j) (hlD : ∀ i, i < ps.length → D.contains (la i) = false)
    (hmD : ∀ q x, getAt mD q = some x → inSites D q = true ∧ HR G2 w' q x)
    (hbs : ∀ (i : Nat) (b : AVal) (r : List (Nat × Nat)) (x : AVal), bs[i]? = some b → sub r b = some x → HR G2 w' ⟨la i, 0, r⟩ x)
    (hcv : ∀ (i : Nat) (p : Place), ps[i]? = some p → G2.cv ⟨la i, 0, []⟩ = G.cv p) :
    MR (Gh.lent D ps la G G2) w' (mD ++ offMem D (putAll m ps bs)) ∧ Good C (Gh.lent D ps la G G2) w' ∧ G.F.le G2.F := by
  have hle : G.F.le G2.F := ⟨hg'.fz0, hg'.fm0⟩
  have hsz : w.heap.size ≤ w'.heap.size := hg'.size
  have hpD : ∀ (i : Nat) (p : Place), ps[i]? = some p → D.contains p.s = false := fun i p h => (hps p (List.mem_of_getElem? h)).2
  have hold : ∀ b, b < w.heap.size → (¬ ∃ (i : Nat) (p : Place) (r : List (Nat × Nat)) (L : Loc), ps[i]? = some p ∧ G.loc (p.app r) = some L ∧ L.b = b) → w'.heap[b]? = w.heap[b]? := fun b hb h => hg'.keep b hb h
  -- where a block of the new ghosts comes from
  have hl : ∀ q L, (Gh.lent D ps la G G2).loc q = some L →
      (∃ q2, G2.loc q2 = some L ∧ (inSites D q = true ∧ q2 = q ∨ inSites D q = false ∧ ∃ (i : Nat) (p : Place) (r : List (Nat × Nat)), ps[i]? = some p ∧ q = p.app r ∧ q2 = ⟨la i, 0, r⟩)) ∨
      (inSites D q = false ∧ (∀ (i : Nat) (p : Place) (r : List (Nat × Nat)), ps[i]? = some p → q ≠ p.app r) ∧ G.loc q = some L ∧ L.b < w.heap.size ∧ ¬ ∃ (i : Nat) (p : Place) (r : List (Nat × Nat)) (L' : Loc), ps[i]? = some p ∧ G.loc (p.app r) = some L' ∧ L'.b = L.b) := by
    intro q L h
    rcases lent_cases (D := D) (ps := ps) q with hq | ⟨hq, i, p, r, hp, rfl⟩ | ⟨hq, hn⟩
    · rw [(lent_D hq).1] at h
      exact .inl ⟨q, h, .inl ⟨hq, rfl⟩⟩
    · rw [(lent_at ha hp (hpD i p hp) r).1] at h
      exact .inl ⟨_, h, .inr ⟨hq, i, p, r, hp, rfl, rfl⟩⟩
    · rw [(lent_else hq hn).1] at h
      refine .inr ⟨hq, hn, h, hg.bnd q L h, ?_⟩
      rintro ⟨i, p, r, L', h1, h2, h3⟩
      exact hn i p r h1 (hg.inj _ _ _ _ h h2 h3.symm)
  have hnew : ∀ q L, G2.loc q = some L → w.heap.size ≤ L.b ∨ ∃ (i : Nat) (p : Place) (r : List (Nat × Nat)) (L' : Loc), ps[i]? = some p ∧ G.loc (p.app r) = some L' ∧ L'.b = L.b := fun q L h => hg'.own q L h
  refine ⟨?_, ?_, hle⟩
  · intro q x hx
    have hx' : (getAt mD q = some x) ∨ (inSites D q = false ∧ getAt (putAll m ps bs) q = some x) := by
      simp only [getAt, Option.bind_eq_some_iff] at hx
      obtain ⟨cs, h1, h2⟩ := hx
      rw [lk_append] at h1
      cases hk : lk mD q.s with
      | some cs' =>
        rw [hk] at h1
        cases h1
        exact .inl (by simp only [getAt, hk, Option.bind_some]; rw [Option.bind_eq_some_iff]; exact h2)
      | none =>
        rw [hk] at h1
        obtain ⟨h5, h6⟩ := offMem_lk h1
        exact .inr ⟨h5, by simp only [getAt, h6, Option.bind_some]; rw [Option.bind_eq_some_iff]; exact h2⟩
    rcases hx' with hx' | ⟨hq, hx'⟩
    · obtain ⟨h1, h2⟩ := hmD q x hx'
      refine h2.move (SameShape.refl _) (Frz.le_refl _) (fun L hL => ⟨by rw [(lent_D h1).1]; exact hL, rfl⟩) (lent_D h1).2 (fun i j => ?_)
      have : inSites D (q.ext i j) = true := h1
      exact (lent_D this).2
    · rcases putAll_get ha ‹_› hs (fun p hp => (hps p hp).1) hx' with ⟨i, p, b, r, h1, h2, rfl, h4⟩ | ⟨hn, y, hy, hsh⟩
      · refine (hbs i b r x h2 h4).move (SameShape.refl _) (Frz.le_refl _) (fun L hL => ⟨by rw [(lent_at ha h1 (hpD i p h1) r).1]; exact hL, rfl⟩) (lent_at ha h1 (hpD i p h1) r).2 ?_
        intro i' j'
        rw [Place.ext_eq, Place.app_app]
        rw [(lent_at ha h1 (hpD i p h1) _).2]
        rfl
      · refine (hm q y hy).move hsh hle (fun L hL => ⟨by rw [(lent_else hq hn).1]; exact hL, hold _ (hg.bnd q L hL) ?_⟩) (lent_else hq hn).2 ?_
        · rintro ⟨i, p, r, L', h1, h2, h3⟩
          exact hn i p r h1 (hg.inj _ _ _ _ hL h2 h3.symm)
        · intro i j
          have hqe : inSites D (q.ext i j) = false := hq
          rcases lent_cases (D := D) (ps := ps) (q.ext i j) with h1 | ⟨_, i', p, r, hp, he⟩ | ⟨h1, h2⟩
          · rw [hqe] at h1; cases h1
          · have : r = [] := by
              rcases List.eq_nil_or_concat r with h | ⟨r', ⟨i2, j2⟩, h⟩
              · exact h
              · exfalso
                subst h
                refine hn i' p r' hp ?_
                have e : q.ext i j = (p.app r').ext i2 j2 := by rw [he, Place.ext_eq (p.app r'), Place.app_app]; simp
                exact (Place.ext_inj e).1
            subst this
            rw [he, (lent_at ha hp (hpD i' p hp) []).2, hcv i' p hp, Place.app_nil]
          · exact (lent_else h1 h2).2
  · refine ⟨hg'.fz, ?_, hg'.fm, ?_, ?_, ?_, Nat.le_trans hg.size hsz, ?_, ?_, ?_, ?_, ?_, ?_, hg'.os.trans hg.os, hg'.tape.trans hg.tape, hg'.output.trans hg.output⟩
    · intro b o v hv q L hL e
      rcases hl q L hL with ⟨q2, h, _⟩ | ⟨_, _, h, hb, hno⟩
      · exact hg'.fzl b o v hv q2 L h e
      · rcases hg'.fzn b o v hv with h1 | h1 | h1
        · exact hg.fzl b o v h1 q L h e
        · have : w.heap.size ≤ b := h1
          omega
        · rw [e] at hno; exact hno h1
    · intro r es hr q L hL e
      rcases hl q L hL with ⟨q2, h, _⟩ | ⟨_, _, h, hb, hno⟩
      · exact hg'.fml r es hr q2 L h e
      · rcases hg'.fmn r es hr with h1 | h1 | h1
        · exact hg.fml r es h1 q L h e
        · have : w.heap.size ≤ r := h1
          omega
        · rw [e] at hno; exact hno h1
    · intro q q' L L' h h' e
      rcases hl q L h with ⟨q2, g1, g2⟩ | ⟨g0, gn, g1, gb, gm⟩ <;> rcases hl q' L' h' with ⟨q2', g1', g2'⟩ | ⟨g0', gn', g1', gb', gm'⟩
      · have he := hg'.inj _ _ _ _ g1 g1' e
        rcases g2 with ⟨a1, rfl⟩ | ⟨a1, i, p, r, a2, rfl, rfl⟩ <;> rcases g2' with ⟨b1, rfl⟩ | ⟨b1, i', p', r', b2, rfl, rfl⟩
        · exact he
        · exfalso
          have := hlD i' (List.getElem?_eq_some_iff.1 b2).1
          subst he
          simp only [inSites] at a1
          rw [this] at a1; cases a1
        · exfalso
          have := hlD i (List.getElem?_eq_some_iff.1 a2).1
          subst he
          simp only [inSites] at b1
          rw [this] at b1; cases b1
        · simp only [Place.mk.injEq, true_and] at he
          have hi := hla _ _ he.1
          subst hi
          rw [a2] at b2
          cases b2
          rw [he.2]
      · rcases hnew q2 L g1 with h1 | h1
        · omega
        · rw [e] at h1; exact absurd h1 gm'
      · rcases hnew q2' L' g1' with h1 | h1
        · omega
        · rw [← e] at h1; exact absurd h1 gm
      · exact hg.inj q q' L L' g1 g1' e
    · intro q L h
      rcases hl q L h with ⟨q2, g1, _⟩ | ⟨_, _, _, gb, _⟩
      · exact hg'.bnd q2 L g1
      · omega
    · intro b hb hmine
      have hb' := Nat.lt_of_lt_of_le hb hg.size
      rw [hold b hb' ?_]
      · exact hg.keep b hb hmine
      · rintro ⟨i, p, r, L, h1, h2, rfl⟩
        rcases hg.own _ L h2 with h3 | h3
        · omega
        · exact hmine h3
    · intro q L h
      rcases hl q L h with ⟨q2, g1, _⟩ | ⟨_, _, g, gb, _⟩
      · rcases hnew q2 L g1 with h1 | ⟨i, p, r, L', h1, h2, h3⟩
        · exact .inl (Nat.le_trans hg.size h1)
        · rw [← h3]; exact hg.own _ L' h2
      · exact hg.own q L g
    · exact fun b o v hv => hg'.fz0 b o v (hg.fz0 b o v hv)
    · exact fun r es hr => hg'.fm0 r es (hg.fm0 r es hr)
    · intro b o v hv
      rcases hg'.fzn b o v hv with h1 | h1 | ⟨i, p, r, L', h1, h2, rfl⟩
      · exact hg.fzn b o v h1
      · exact .inr (.inl (Nat.le_trans hg.size h1))
      · rcases hg.own _ L' h2 with h3 | h3
        · exact .inr (.inl h3)
        · exact .inr (.inr h3)
    · intro b es hv
      rcases hg'.fmn b es hv with h1 | h1 | ⟨i, p, r, L', h1, h2, rfl⟩
      · exact hg.fmn b es h1
      · exact .inr (.inl (Nat.le_trans hg.size h1))
      · rcases hg.own _ L' h2 with h3 | h3
        · exact .inr (.inl h3)
        · exact .inr (.inr h3)
end
end Go.Proofs.Ytnmnijgoggombaa.X
/- A function's result where memory is lent to it, written out; the call's step. -/
namespace Go.Proofs.Ytnmnijgoggombaa.X
open Go.RowKit
/-- Which of the places a place lies under, and the rest of the way. -/
def argOf : Nat → List Place → Place → Option (Nat × List (Nat × Nat))
  | _, [], _ => none
  | i, p :: ps, q => if p.s = q.s ∧ p.k = q.k ∧ preB p.path q.path = true then some (i, q.path.drop p.path.length) else argOf (i + 1) ps q
theorem preB_app : ∀ {a b : List (Nat × Nat)}, preB a b = true → b = a ++ b.drop a.length := by
  intro a
  induction a with
  | nil => intro b _; rfl
  | cons x a ih =>
    intro b h
    cases b with
    | nil => cases h
    | cons y b =>
      simp only [preB, Bool.and_eq_true, beq_iff_eq] at h
      obtain ⟨rfl, h⟩ := h
      simp only [List.length_cons, List.drop_succ_cons, List.cons_append]
      rw [← ih h]
theorem argOf_ok : ∀ {ps : List Place} {i j : Nat} {q : Place} {r : List (Nat × Nat)}, argOf i ps q = some (j, r) → i ≤ j ∧ ∃ p, ps[j - i]? = some p ∧ q = p.app r := by
  intro ps
  induction ps with
  | nil => intro i j q r h; cases h
  | cons p ps ih =>
    intro i j q r h
    simp only [argOf] at h
    split at h
    · rename_i hc
      cases h
      obtain ⟨h1, h2, h3⟩ := hc
      refine ⟨Nat.le_refl _, p, by simp, ?_⟩
      cases q
      cases p
      simp only [Place.app, Place.mk.injEq] at *
      exact ⟨h1.symm, h2.symm, preB_app h3⟩
    · obtain ⟨h1, p', h2, h3⟩ := ih h
      refine ⟨by omega, p', ?_, h3⟩
      have : j - i = (j - (i + 1)) + 1 := by omega
      rw [this]
      simpa using h2
mutual
/-- What a value leads to, written out; what leads into 'as' stays a reference (the index stands for the site). -/
def pkA (m : Mem) (avs : List Place) : AVal → Option AVal
  | .p x => some (.p x)
  | .agg cs => match pkAL m avs cs with
    | some l => some (mkAgg l)
    | none => none
  | .tup cs => match pkAL m avs cs with
    | some l => some (mkTup l)
    | none => none
  | .rsl pl off len => match argOf 0 avs pl with
    | some (i, r) => some (.rsl ⟨i, 0, r⟩ off len)
    | none => match getAt m pl with
      | some (.own false z rows) => if off = 0 ∧ rows.length = len then some (.own false z rows) else none
      | _ => none
  | .rpt pl i j => match argOf 0 avs pl with
    | some (a, r) => some (.rpt ⟨a, 0, r⟩ i j)
    | none => match getAt m pl with
      | some (.own true z rows) => if i = 0 ∧ j = 0 then some (.own true z rows) else none
      | _ => none
  | .rmp pl => match argOf 0 avs pl with
    | some (i, r) => some (.rmp ⟨i, 0, r⟩)
    | none => match getAt m pl with
      | some (.omap es) => some (.omap es)
      | _ => none
  | _ => none
def pkAL (m : Mem) (avs : List Place) : List AVal → Option (List AVal)
  | [] => some []
  | a :: l => match pkA m avs a with
    | some x => match pkAL m avs l with
      | some xs => some (x :: xs)
      | none => none
    | none => none
end
mutual
def refsA (avs : List Place) : AVal → List Place
  | .agg cs => refsAL avs cs
  | .tup cs => refsAL avs cs
  | .rsl pl _ _ => if (argOf 0 avs pl).isSome = true then [] else [pl]
  | .rpt pl _ _ => if (argOf 0 avs pl).isSome = true then [] else [pl]
  | .rmp pl => if (argOf 0 avs pl).isSome = true then [] else [pl]
  | _ => []
def refsAL (avs : List Place) : List AVal → List Place
  | [] => []
  | a :: l => refsA avs a ++ refsAL avs l
end
mutual
/-- Written-out values under labels; the arguments' under 'f'. -/
def unpA (f : Place → Option Place) (d : Nat) : AVal → Nat → AVal × Mem × Nat
  | .own ptr z rows, k => ((if ptr = true then .rpt ⟨lbl d k, 0, []⟩ 0 0 else .rsl ⟨lbl d k, 0, []⟩ 0 rows.length), [(lbl d k, [.own ptr z rows])], k + 1)
  | .omap es, k => (.rmp ⟨lbl d k, 0, []⟩, [(lbl d k, [.omap es])], k + 1)
  | .agg cs, k => (mkAgg (unpAL f d cs k).1, (unpAL f d cs k).2.1, (unpAL f d cs k).2.2)
  | .tup cs, k => (mkTup (unpAL f d cs k).1, (unpAL f d cs k).2.1, (unpAL f d cs k).2.2)
  | .rsl pl off len, k => ((match f pl with | some q => .rsl q off len | none => .dead), [], k)
  | .rpt pl i j, k => ((match f pl with | some q => .rpt q i j | none => .dead), [], k)
  | .rmp pl, k => ((match f pl with | some q => .rmp q | none => .dead), [], k)
  | v, k => (v, [], k)
def unpAL (f : Place → Option Place) (d : Nat) : List AVal → Nat → List AVal × Mem × Nat
  | [], k => ([], [], k)
  | a :: l, k => ((unpA f d a k).1 :: (unpAL f d l (unpA f d a k).2.2).1, (unpA f d a k).2.1 ++ (unpAL f d l (unpA f d a k).2.2).2.1, (unpAL f d l (unpA f d a k).2.2).2.2)
end
theorem unpAL_length (f : Place → Option Place) (d : Nat) : ∀ (l : List AVal) (k : Nat), (unpAL f d l k).1.length = l.length := by
  intro l
  induction l with
  | nil => intro k; rfl
  | cons a l ih => intro k; simp [unpAL, ih]
theorem unpAL_p (f : Place → Option Place) (d : Nat) : ∀ (ps : List PVal) (k : Nat), unpAL f d (ps.map .p) k = (ps.map .p, [], k) := by
  intro ps
  induction ps with
  | nil => intro k; rfl
  | cons x ps ih => intro k; simp [unpAL, unpA, ih]
theorem mkAgg_unpA (f : Place → Option Place) (d : Nat) (l : List AVal) (k : Nat) : unpA f d (mkAgg l) k = (mkAgg (unpAL f d l k).1, (unpAL f d l k).2.1, (unpAL f d l k).2.2) := by
  unfold mkAgg
  cases hp : allP l with
  | none => rfl
  | some ps =>
    have := allP_spec hp
    subst this
    rw [unpAL_p]
    simp [unpA, hp]
theorem mkTup_unpA (f : Place → Option Place) (d : Nat) (l : List AVal) (k : Nat) : unpA f d (mkTup l) k = (mkTup (unpAL f d l k).1, (unpAL f d l k).2.1, (unpAL f d l k).2.2) := by
  unfold mkTup
  cases hp : allP l with
  | none => rfl
  | some ps =>
    have := allP_spec hp
    subst this
    rw [unpAL_p]
    simp [unpA, hp]
theorem scalar_unpA {f : Place → Option Place} {d : Nat} {a : AVal} {k : Nat} (h : a.scalar = true) : (unpA f d a k).1.scalar = true := by
  cases a <;> first | (simp [AVal.scalar] at h; done) | exact h | rfl | skip
  · rename_i ptr z rows
    cases ptr <;> rfl
  all_goals (simp only [unpA]; split <;> rfl)
theorem pkA_scalar {m : Mem} {avs : List Place} {a t : AVal} (h : pkA m avs a = some t) (ha : a.scalar = true) : t.scalar = true := by
  cases a <;> simp only [pkA] at h
  · cases h; exact ha
  · simp [AVal.scalar] at ha
  · simp [AVal.scalar] at ha
  · cases h
  · cases h
  · split at h
    · cases h; rfl
    · split at h
      · split at h <;> cases h; rfl
      · cases h
  · split at h
    · cases h; rfl
    · split at h
      · split at h <;> cases h; rfl
      · cases h
  · split at h
    · cases h; rfl
    · split at h <;> cases h; rfl
  all_goals cases h
/-- The label of an argument's place. -/
def labA (d : Nat) (pl : Place) : Option Place := some ⟨lbl d pl.s, 0, pl.path⟩
theorem pkA_ok {G : Gh} {m : Mem} {d : Nat} {avs ps : List Place} (has : ∀ (i : Nat) (p : Place), avs[i]? = some p → ps[i]? = some p) {v : AVal} {c : Value} (hv : VR G v c) :
    ∀ {t : AVal} {k : Nat}, pkA m avs v = some t → (∀ (i : Nat) (p : Place), (refsA avs v)[i]? = some p → ps[k + i]? = some p) →
      VR (G.pack d ps) (unpA (labA d) d t k).1 c ∧ (unpA (labA d) d t k).2.1 = memAt m d k (refsA avs v) ∧ (unpA (labA d) d t k).2.2 = k + (refsA avs v).length := by
  have lists : ∀ (cs : List AVal) (cv : List Value), cv.length = cs.length →
      (∀ (i : Nat) (a : AVal) (c : Value), cs[i]? = some a → cv[i]? = some c → ∀ {t : AVal} {k : Nat}, pkA m avs a = some t → (∀ (i : Nat) (p : Place), (refsA avs a)[i]? = some p → ps[k + i]? = some p) →
        VR (G.pack d ps) (unpA (labA d) d t k).1 c ∧ (unpA (labA d) d t k).2.1 = memAt m d k (refsA avs a) ∧ (unpA (labA d) d t k).2.2 = k + (refsA avs a).length) →
      ∀ {ts : List AVal} {k : Nat}, pkAL m avs cs = some ts → (∀ (i : Nat) (p : Place), (refsAL avs cs)[i]? = some p → ps[k + i]? = some p) →
        (∀ (i : Nat) (a : AVal) (c : Value), (unpAL (labA d) d ts k).1[i]? = some a → cv[i]? = some c → VR (G.pack d ps) a c) ∧ (unpAL (labA d) d ts k).2.1 = memAt m d k (refsAL avs cs) ∧ (unpAL (labA d) d ts k).2.2 = k + (refsAL avs cs).length ∧ ts.length = cs.length ∧
        ((∀ a ∈ cs, a.scalar = true) → ∀ a ∈ (unpAL (labA d) d ts k).1, a.scalar = true) := by
    intro cs
    induction cs with
    | nil =>
      intro cv _ _ ts k h _
      simp only [pkAL, Option.some.injEq] at h
      subst h
      exact ⟨fun i a c h => by simp [unpAL] at h, rfl, rfl, rfl, fun _ => by simp [unpAL]⟩
    | cons a cs ih =>
      intro cv hl hh ts k h hr
      cases cv with
      | nil => simp at hl
      | cons c0 cv =>
        simp only [pkAL] at h
        split at h
        · rename_i x hx
          split at h
          · rename_i xs hxs
            cases h
            obtain ⟨a1, a2, a3⟩ := hh 0 a c0 (by simp) (by simp) hx (fun i p hi => hr i p (by simp only [refsAL]; rw [List.getElem?_append_left (List.getElem?_eq_some_iff.1 hi).1]; exact hi))
            obtain ⟨b1, b2, b3, b4, b5⟩ := ih cv (by simpa using hl) (fun i a c h1 h2 => hh (i + 1) a c (by simpa using h1) (by simpa using h2)) (k := k + (refsA avs a).length) hxs (fun i p hi => by
              have := hr ((refsA avs a).length + i) p (by simp only [refsAL]; rw [List.getElem?_append_right (by omega)]; simpa using hi)
              rw [← this]
              congr 1
              omega)
            refine ⟨?_, ?_, ?_, by simp [b4], ?_⟩
            · intro i u c' hu hc'
              simp only [unpAL, a3] at hu
              cases i with
              | zero => simp at hu hc'; subst hu hc'; exact a1
              | succ i => exact b1 i u c' (by simpa using hu) (by simpa using hc')
            · simp only [unpAL, a3, a2, b2, refsAL, memAt_append]
            · simp only [unpAL, a3, b3, refsAL, List.length_append, Nat.add_assoc]
            · intro hs u hu
              simp only [unpAL, a3, List.mem_cons] at hu
              rcases hu with rfl | hu
              · exact scalar_unpA (pkA_scalar hx (hs a (by simp)))
              · exact b5 (fun b hb => hs b (List.mem_cons_of_mem _ hb)) u hu
          · cases h
        · cases h
  have hargs : ∀ {pl : Place} {i : Nat} {r : List (Nat × Nat)}, argOf 0 avs pl = some (i, r) → (G.pack d ps).loc ⟨lbl d i, 0, r⟩ = G.loc pl := by
    intro pl i r h
    obtain ⟨_, p, h1, rfl⟩ := argOf_ok h
    exact (Gh.pack_at (G := G) (d := d) (has i p (by simpa using h1)) r).1
  induction hv with
  | unk c h => intro t k ht _; simp [pkA] at ht
  | rit pl mp mb ad h h' => intro t k ht _; simp [pkA] at ht
  | p h =>
    intro t k ht _
    simp only [pkA, Option.some.injEq] at ht
    subst ht
    exact ⟨.p h, rfl, rfl⟩
  | agg cs cv hs hc _ ih =>
    intro t k ht hr
    simp only [pkA] at ht
    split at ht
    · rename_i ts hts
      cases ht
      obtain ⟨b1, b2, b3, b4, b5⟩ := lists cs cv.toList (by simpa using hs) (fun i a c h1 h2 => ih i a c h1 (by simpa using h2)) hts hr
      rw [mkAgg_unpA]
      exact ⟨VR.mkAgg (by rw [unpAL_length, b4]; exact hs) (b5 hc) (fun i a c h1 h2 => b1 i a c h1 (by simpa using h2)), b2, b3⟩
    · cases ht
  | tup cs cv hs _ ih =>
    intro t k ht hr
    simp only [pkA] at ht
    split at ht
    · rename_i ts hts
      cases ht
      obtain ⟨b1, b2, b3, b4, b5⟩ := lists cs cv.toList (by simpa using hs) (fun i a c h1 h2 => ih i a c h1 (by simpa using h2)) hts hr
      rw [mkTup_unpA]
      exact ⟨VR.mkTup (by rw [unpAL_length, b4]; exact hs) (fun i a c h1 h2 => b1 i a c h1 (by simpa using h2)), b2, b3⟩
    · cases ht
  | rsl pl off len ad q hh =>
    intro t k ht hr
    simp only [pkA] at ht
    split at ht
    · rename_i i r hi
      cases ht
      refine ⟨?_, by simp [unpA, refsA, hi, memAt], by simp [unpA, refsA, hi]⟩
      simp only [unpA, labA]
      exact .rsl _ _ _ _ _ (by rw [hargs hi]; exact hh)
    · rename_i hi
      split at ht
      · rename_i z rows hg
        split at ht
        · rename_i hl
          cases ht
          obtain ⟨rfl, rfl⟩ := hl
          have hp := hr 0 pl (by simp [refsA, hi])
          have hat := (Gh.pack_at (G := G) (d := d) (ps := ps) (i := k) (p := pl) (by simpa using hp) []).1
          refine ⟨?_, by simp [unpA, refsA, hi, memAt, hg], by simp [unpA, refsA, hi]⟩
          simp only [unpA, Bool.false_eq_true, if_false]
          refine .rsl _ _ _ _ _ fun b o cap z' hL => hh b o cap z' ?_
          rw [hat, Place.app_nil] at hL
          exact hL
        · cases ht
      · cases ht
  | rpt pl i j ad hh =>
    intro t k ht hr
    simp only [pkA] at ht
    split at ht
    · rename_i i' r hi
      cases ht
      refine ⟨?_, by simp [unpA, refsA, hi, memAt], by simp [unpA, refsA, hi]⟩
      simp only [unpA, labA]
      exact .rpt _ _ _ _ (by rw [hargs hi]; exact hh)
    · rename_i hi
      split at ht
      · rename_i z rows hg
        split at ht
        · rename_i hl
          cases ht
          obtain ⟨rfl, rfl⟩ := hl
          have hp := hr 0 pl (by simp [refsA, hi])
          have hat := (Gh.pack_at (G := G) (d := d) (ps := ps) (i := k) (p := pl) (by simpa using hp) []).1
          refine ⟨?_, by simp [unpA, refsA, hi, memAt, hg], by simp [unpA, refsA, hi]⟩
          simp only [unpA, if_true]
          refine .rpt _ _ _ _ fun b o cap z' hL => hh b o cap z' ?_
          rw [hat, Place.app_nil] at hL
          exact hL
        · cases ht
      · cases ht
  | rmp pl r hh =>
    intro t k ht hr
    simp only [pkA] at ht
    split at ht
    · rename_i i' r' hi
      cases ht
      refine ⟨?_, by simp [unpA, refsA, hi, memAt], by simp [unpA, refsA, hi]⟩
      simp only [unpA, labA]
      exact .rmp _ _ (by rw [hargs hi]; exact hh)
    · rename_i hi
      split at ht
      · rename_i es hg
        cases ht
        have hp := hr 0 pl (by simp [refsA, hi])
        have hat := (Gh.pack_at (G := G) (d := d) (ps := ps) (i := k) (p := pl) (by simpa using hp) []).1
        refine ⟨?_, by simp [unpA, refsA, hi, memAt, hg], by simp [unpA, refsA, hi]⟩
        simp only [unpA]
        refine .rmp _ _ fun b o cap z' hL => hh b o cap z' ?_
        rw [hat, Place.app_nil] at hL
        exact hL
      · cases ht
theorem VR.ofAgg {G : Gh} {l : List AVal} {c : Value} (h : VR G (X.mkAgg l) c) : ∃ cv : Array Value, c = .agg cv ∧ cv.size = l.length ∧ (∀ a ∈ l, a.scalar = true) ∧ ∀ (i : Nat) (a : AVal) (v : Value), l[i]? = some a → cv[i]? = some v → VR G a v := by
  unfold X.mkAgg at h
  cases hp : allP l with
  | none => rw [hp] at h; cases h with | agg _ cv hs hc h => exact ⟨cv, rfl, hs, hc, h⟩
  | some ps =>
    rw [hp] at h
    have := allP_spec hp
    subst this
    cases h with
    | p h =>
      cases h with
      | agg _ cv hs hc h =>
        refine ⟨cv, rfl, by simpa using hs, ?_, ?_⟩
        · intro a ha
          obtain ⟨p, hp, rfl⟩ := List.mem_map.1 ha
          exact hc p hp
        · intro i a v ha hv
          rw [List.getElem?_map] at ha
          simp only [Option.map_eq_some_iff] at ha
          obtain ⟨p, hp, rfl⟩ := ha
          exact .p (h i p v hp hv)
theorem VR.ofTup {G : Gh} {l : List AVal} {c : Value} (h : VR G (X.mkTup l) c) : ∃ cv : Array Value, c = .tuple cv ∧ cv.size = l.length ∧ ∀ (i : Nat) (a : AVal) (v : Value), l[i]? = some a → cv[i]? = some v → VR G a v := by
  unfold X.mkTup at h
  cases hp : allP l with
  | none => rw [hp] at h; cases h with | tup _ cv hs h => exact ⟨cv, rfl, hs, h⟩
  | some ps =>
    rw [hp] at h
    have := allP_spec hp
    subst this
    cases h with
    | p h =>
      cases h with
      | tup _ cv hs h =>
        refine ⟨cv, rfl, by simpa using hs, ?_⟩
        · intro i a v ha hv
          rw [List.getElem?_map] at ha
          simp only [Option.map_eq_some_iff] at ha
          obtain ⟨p, hp, rfl⟩ := ha
          exact .p (h i p v hp hv)
mutual
/-- Only the arguments' places are referred to. -/
def okA (n : Nat) : AVal → Bool
  | .agg cs => okAL n cs
  | .tup cs => okAL n cs
  | .rsl pl _ _ => Nat.blt pl.s n
  | .rpt pl _ _ => Nat.blt pl.s n
  | .rmp pl => Nat.blt pl.s n
  | .rit _ _ _ => false
  | _ => true
def okAL (n : Nat) : List AVal → Bool
  | [] => true
  | a :: l => okA n a && okAL n l
end
mutual
theorem unpA_snd (f g : Place → Option Place) (d : Nat) : (t : AVal) → ∀ k, (unpA f d t k).2 = (unpA g d t k).2
  | .agg cs => fun k => by simp only [unpA, unpAL_snd f g d cs k]
  | .tup cs => fun k => by simp only [unpA, unpAL_snd f g d cs k]
  | .p _ | .own _ _ _ | .omap _ | .rsl _ _ _ | .rpt _ _ _ | .rmp _ | .dead | .unk | .siter _ _ | .smap _ | .miter _ _ _ | .rit _ _ _ => fun k => rfl
theorem unpAL_snd (f g : Place → Option Place) (d : Nat) : (l : List AVal) → ∀ k, (unpAL f d l k).2 = (unpAL g d l k).2
  | [] => fun k => rfl
  | a :: l => fun k => by simp only [unpAL, unpA_snd f g d a k, unpAL_snd f g d l]
end
mutual
theorem unpA_le (f : Place → Option Place) (d : Nat) : (t : AVal) → ∀ k, k ≤ (unpA f d t k).2.2
  | .agg cs => fun k => by simp only [unpA]; exact unpAL_le f d cs k
  | .tup cs => fun k => by simp only [unpA]; exact unpAL_le f d cs k
  | .own _ _ _ | .omap _ => fun k => by simp [unpA]
  | .p _ | .rsl _ _ _ | .rpt _ _ _ | .rmp _ | .dead | .unk | .siter _ _ | .smap _ | .miter _ _ _ | .rit _ _ _ => fun k => Nat.le_refl _
theorem unpAL_le (f : Place → Option Place) (d : Nat) : (l : List AVal) → ∀ k, k ≤ (unpAL f d l k).2.2
  | [] => fun k => Nat.le_refl _
  | a :: l => fun k => by simp only [unpAL]; exact Nat.le_trans (unpA_le f d a k) (unpAL_le f d l _)
end
mutual
theorem unpA_scalar (f g : Place → Option Place) (d : Nat) : (t : AVal) → ∀ k, (unpA f d t k).1.scalar = (unpA g d t k).1.scalar
  | .agg cs => fun k => by
      have : ∀ l : List AVal, (mkAgg l).scalar = false := fun l => by unfold mkAgg; split <;> rfl
      simp only [unpA, this]
  | .tup cs => fun k => by
      have : ∀ l : List AVal, (mkTup l).scalar = false := fun l => by unfold mkTup; split <;> rfl
      simp only [unpA, this]
  | .rsl _ _ _ => fun k => by simp only [unpA]; split <;> split <;> rfl
  | .rpt _ _ _ => fun k => by simp only [unpA]; split <;> split <;> rfl
  | .rmp _ => fun k => by simp only [unpA]; split <;> split <;> rfl
  | .own ptr _ _ => fun k => rfl
  | .omap _ => fun k => rfl
  | .p _ | .dead | .unk | .siter _ _ | .smap _ | .miter _ _ _ | .rit _ _ _ => fun k => rfl
end
/-- The caller's places for the arguments. -/
def toPs' (ps : List Place) (pl : Place) : Option Place := (ps[pl.s]?).map (·.app pl.path)
section
variable {G2 G3 : Gh} {d n : Nat} {ps : List Place}
mutual
/-- A value of the callee's, at the caller's places. -/
theorem unpA_move (hF : G2.F.le G3.F) (hps : ps.length = n) (ha : ∀ (i : Nat) (p : Place) (r : List (Nat × Nat)), ps[i]? = some p → G3.loc (p.app r) = G2.loc ⟨lbl d i, 0, r⟩) :
    (t : AVal) → ∀ (k : Nat) (c : Value), okA n t = true → (∀ j, k ≤ j → j < (unpA (labA d) d t k).2.2 → G3.loc ⟨lbl d j, 0, []⟩ = G2.loc ⟨lbl d j, 0, []⟩) →
      VR G2 (unpA (labA d) d t k).1 c → VR G3 (unpA (toPs' ps) d t k).1 c
  | .p x => fun k c _ _ h => by
      cases h with
      | p h => exact .p (PV.mono hF h)
  | .agg cs => fun k c hk hD h => by
      simp only [unpA] at h hD ⊢
      obtain ⟨cv, rfl, h1, h2, h3⟩ := VR.ofAgg h
      have key := unpAL_move hF hps ha cs k cv.toList hk hD (by simpa [unpAL_length] using h1) (fun i a v x y => h3 i a v x (by simpa using y))
      refine VR.mkAgg (by simpa [unpAL_length] using h1) ?_ (fun i a v x y => key.1 i a v x (by simpa using y))
      exact key.2 h2
  | .tup cs => fun k c hk hD h => by
      simp only [unpA] at h hD ⊢
      obtain ⟨cv, rfl, h1, h3⟩ := VR.ofTup h
      have key := unpAL_move hF hps ha cs k cv.toList hk hD (by simpa [unpAL_length] using h1) (fun i a v x y => h3 i a v x (by simpa using y))
      exact VR.mkTup (by simpa [unpAL_length] using h1) (fun i a v x y => key.1 i a v x (by simpa using y))
  | .own ptr z rows => fun k c _ hD h => by
      have h0 := hD k (Nat.le_refl _) (by simp [unpA])
      cases ptr with
      | false => simp only [unpA, Bool.false_eq_true, if_false] at h ⊢; cases h with | rsl _ _ _ ad q hh => exact .rsl _ _ _ _ _ (by rw [h0]; exact hh)
      | true => simp only [unpA, if_true] at h ⊢; cases h with | rpt _ _ _ ad hh => exact .rpt _ _ _ _ (by rw [h0]; exact hh)
  | .omap es => fun k c _ hD h => by
      have h0 := hD k (Nat.le_refl _) (by simp [unpA])
      simp only [unpA] at h ⊢
      cases h with | rmp _ r hh => exact .rmp _ _ (by rw [h0]; exact hh)
  | .rsl pl off len => fun k c hk _ h => by
      simp only [okA] at hk
      have hlt : pl.s < ps.length := by have := Nat.le_of_ble_eq_true hk; omega
      have hp : ps[pl.s]? = some ps[pl.s] := List.getElem?_eq_getElem hlt
      simp only [unpA, labA, toPs', hp, Option.map_some] at h ⊢
      cases h with | rsl _ _ _ ad q hh => exact .rsl _ _ _ _ _ (by rw [ha _ _ _ hp]; exact hh)
  | .rpt pl i j => fun k c hk _ h => by
      simp only [okA] at hk
      have hlt : pl.s < ps.length := by have := Nat.le_of_ble_eq_true hk; omega
      have hp : ps[pl.s]? = some ps[pl.s] := List.getElem?_eq_getElem hlt
      simp only [unpA, labA, toPs', hp, Option.map_some] at h ⊢
      cases h with | rpt _ _ _ ad hh => exact .rpt _ _ _ _ (by rw [ha _ _ _ hp]; exact hh)
  | .rmp pl => fun k c hk _ h => by
      simp only [okA] at hk
      have hlt : pl.s < ps.length := by have := Nat.le_of_ble_eq_true hk; omega
      have hp : ps[pl.s]? = some ps[pl.s] := List.getElem?_eq_getElem hlt
      simp only [unpA, labA, toPs', hp, Option.map_some] at h ⊢
      cases h with | rmp _ r hh => exact .rmp _ _ (by rw [ha _ _ _ hp]; exact hh)
  | .unk => fun k c _ _ h => by cases h with | unk _ h => exact .unk _ h
  | .dead => fun k c _ _ h => by cases h
  | .siter _ _ => fun k c _ _ h => by cases h
  | .smap _ => fun k c _ _ h => by cases h
  | .miter _ _ _ => fun k c _ _ h => by cases h
  | .rit _ _ _ => fun k c hk _ _ => by simp [okA] at hk
theorem unpAL_move (hF : G2.F.le G3.F) (hps : ps.length = n) (ha : ∀ (i : Nat) (p : Place) (r : List (Nat × Nat)), ps[i]? = some p → G3.loc (p.app r) = G2.loc ⟨lbl d i, 0, r⟩) :
    (l : List AVal) → ∀ (k : Nat) (cv : List Value), okAL n l = true → (∀ j, k ≤ j → j < (unpAL (labA d) d l k).2.2 → G3.loc ⟨lbl d j, 0, []⟩ = G2.loc ⟨lbl d j, 0, []⟩) →
      cv.length = l.length → (∀ (i : Nat) (a : AVal) (v : Value), (unpAL (labA d) d l k).1[i]? = some a → cv[i]? = some v → VR G2 a v) →
      (∀ (i : Nat) (a : AVal) (v : Value), (unpAL (toPs' ps) d l k).1[i]? = some a → cv[i]? = some v → VR G3 a v) ∧
      ((∀ a ∈ (unpAL (labA d) d l k).1, a.scalar = true) → ∀ a ∈ (unpAL (toPs' ps) d l k).1, a.scalar = true)
  | [] => fun k cv _ _ _ _ => ⟨fun i a v h => by simp [unpAL] at h, fun _ a h => by simp [unpAL] at h⟩
  | a :: l => fun k cv hk hD hl h => by
      cases cv with
      | nil => simp at hl
      | cons c cv =>
        simp only [okAL, Bool.and_eq_true] at hk
        have e2 : (unpA (toPs' ps) d a k).2.2 = (unpA (labA d) d a k).2.2 := by rw [unpA_snd _ (labA d)]
        simp only [unpAL] at h hD ⊢
        have hle := unpAL_le (labA d) d l (unpA (labA d) d a k).2.2
        have hle0 := unpA_le (labA d) d a k
        have h1 := unpA_move hF hps ha a k c hk.1 (fun j x y => hD j x (by omega)) (h 0 _ c (by simp) (by simp))
        have h2 := unpAL_move hF hps ha l (unpA (labA d) d a k).2.2 cv hk.2 (fun j x y => hD j (by omega) y) (by simpa using hl) (fun i a v x y => h (i + 1) a v (by simpa using x) (by simpa using y))
        rw [e2]
        refine ⟨?_, ?_⟩
        · intro i u v hu hv
          cases i with
          | zero => simp at hu hv; subst hu hv; exact h1
          | succ i => exact h2.1 i u v (by simpa using hu) (by simpa using hv)
        · intro hs u hu
          simp only [List.mem_cons] at hu
          rcases hu with rfl | hu
          · rw [unpA_scalar _ (labA d)]; exact hs _ (by simp)
          · exact h2.2 (fun b hb => hs b (by simp [hb])) u hu
end
end
end Go.Proofs.Ytnmnijgoggombaa.X
/- The contract of a function to which memory is lent; the call. -/
namespace Go.Proofs.Ytnmnijgoggombaa.X
open Go.RowKit
def idxMem (d : Nat) : Nat → List AVal → Mem
  | _, [] => []
  | k, b :: bs => (lbl d k, [b]) :: idxMem d (k + 1) bs
/-- The ways to what is lent, as slots of a frame that waits. -/
def hidM (d : Nat) : Nat → List AVal → Env
  | _, [] => []
  | i, b :: bs => (match refOf ⟨lbl d i, 0, []⟩ b with | some x => [(1000000 + i, x)] | none => []) ++ hidM d (i + 1) bs
def conts : Mem → List AVal
  | [] => []
  | x :: m => x.2.headD .dead :: conts m
/-- The labels of what is lent, in the callee. -/
abbrev lA : Nat := 800000
/-- A function's RESULT where memory is lent to it: what comes back ('t'), and what is lent then ('bs'). -/
def RetI (P : Program) (f : Nat) (avs : List AVal) (t : AVal) (bs : List AVal) : Prop :=
  calleeIs P f = true ∧ ∀ d, Spec P f (unpL lA avs 0).1 (hidM lA 0 (conts (unpL lA avs 0).2.1)) (unpL lA avs 0).2.1 fun v h' m' =>
    v = (unpA (labA d) d t bs.length).1 ∧ h' = hidM d 0 bs ∧ m' = idxMem d 0 bs ++ (unpA (labA d) d t bs.length).2.1
/-- The same kind of thing, and of the same size. -/
def likeB : AVal → AVal → Bool
  | .own false z rows, .own false z' rows' => z == z' && rows.length == rows'.length
  | .own true z rows, .own true z' rows' => z == z' && rows.length == 1 && rows'.length == 1
  | .omap _, .omap _ => true
  | _, _ => false
def likeBs : List AVal → List AVal → Bool
  | [], [] => true
  | a :: avs, b :: bs => likeB a b && likeBs avs bs
  | _, _ => false
theorem likeBs_get : ∀ {avs bs : List AVal}, likeBs avs bs = true → avs.length = bs.length ∧ ∀ (i : Nat) (a b : AVal), avs[i]? = some a → bs[i]? = some b → likeB a b = true := by
  intro avs
  induction avs with
  | nil => intro bs h; cases bs with
    | nil => exact ⟨rfl, fun i a b h => by simp at h⟩
    | cons => cases h
  | cons a avs ih =>
    intro bs h
    cases bs with
    | nil => cases h
    | cons b bs =>
      simp only [likeBs, Bool.and_eq_true] at h
      obtain ⟨h1, h2⟩ := ih h.2
      refine ⟨by simp [h1], ?_⟩
      intro i x y hx hy
      cases i with
      | zero => simp at hx hy; subst hx hy; exact h.1
      | succ i => exact h2 i x y (by simpa using hx) (by simpa using hy)
theorem likeB_own {a b : AVal} (h : likeB a b = true) : a.scalar = true ∧ a.isP = false ∧ b.scalar = true ∧ b.isP = false ∧ ∀ pl, (∃ x, refOf pl a = some x) ∧ ∃ y, refOf pl b = some y := by
  unfold likeB at h
  split at h <;> first | (cases h; done) | exact ⟨rfl, rfl, rfl, rfl, fun pl => ⟨⟨_, rfl⟩, _, rfl⟩⟩
/-- What is given back lies where it lay. -/
theorem likeB_loc {G G2 : Gh} {w w' : World} {p q : Place} {a b : AVal} (h : likeB a b = true) (ha : HR G w p a) (hb : HR G2 w' q b) (hcv : G2.cv q = G.cv p) : G2.loc q = G.loc p := by
  unfold likeB at h
  split at h
  · rename_i z rows z' rows'
    simp only [Bool.and_eq_true, beq_iff_eq] at h
    obtain ⟨b1, o1, c1, cs1, ty1, h1, h2, _⟩ := ha
    obtain ⟨b2, o2, c2, cs2, ty2, k1, k2, _⟩ := hb
    simp only [Bool.false_eq_true, if_false] at h2 k2
    rw [h2, k2] at hcv
    simp at hcv
    obtain ⟨⟨rfl, rfl⟩, hlen, rfl⟩ := hcv
    rw [h1, k1, h.1]
  · rename_i z rows z' rows'
    simp only [Bool.and_eq_true, beq_iff_eq] at h
    obtain ⟨b1, o1, c1, cs1, ty1, h1, h2, _, _, h5, h6, _⟩ := ha
    obtain ⟨b2, o2, c2, cs2, ty2, k1, k2, _, _, k5, k6, _⟩ := hb
    simp only [if_true] at h2 k2
    rw [h2, k2] at hcv
    simp at hcv
    obtain ⟨rfl, rfl⟩ := hcv
    simp only [capMax] at h6 k6
    have e1 : c1 = 1 := by omega
    have e2 : c2 = 1 := by omega
    rw [h1, k1, h.1.1, e1, e2]
  · obtain ⟨r, ev, cl, h1, h2, _⟩ := ha
    obtain ⟨r', ev', cl', k1, k2, _⟩ := hb
    rw [h2, k2] at hcv
    cases hcv
    rw [h1, k1]
  · cases h
def labels (d n : Nat) : Nat → List Nat
  | 0 => []
  | k + 1 => lbl d n :: labels d (n + 1) k
theorem labels_mem {d : Nat} : ∀ {k n x : Nat}, (labels d n k).contains x = true ↔ ∃ j, n ≤ j ∧ j < n + k ∧ x = lbl d j := by
  intro k
  induction k with
  | zero => intro n x; simp [labels]; omega
  | succ k ih =>
    intro n x
    simp only [labels, List.contains_cons, Bool.or_eq_true, beq_iff_eq, ih]
    constructor
    · rintro (rfl | ⟨j, h1, h2, rfl⟩)
      · exact ⟨n, Nat.le_refl _, by omega, rfl⟩
      · exact ⟨j, by omega, by omega, rfl⟩
    · rintro ⟨j, h1, h2, rfl⟩
      by_cases hj : j = n
      · exact .inl (by rw [hj])
      · exact .inr ⟨j, by omega, by omega, rfl⟩
def allGet (m : Mem) : List Place → Option (List AVal)
  | [] => some []
  | p :: ps => match getAt m p with
    | some a => match allGet m ps with
      | some avs => some (a :: avs)
      | none => none
    | none => none
theorem allGet_ok {m : Mem} : ∀ {ps : List Place} {avs : List AVal}, allGet m ps = some avs → avs.length = ps.length ∧ (∀ (i : Nat) (p : Place), ps[i]? = some p → ∃ a, avs[i]? = some a ∧ getAt m p = some a) ∧
    ∀ d k, memAt m d k ps = idxMem d k avs := by
  intro ps
  induction ps with
  | nil => intro avs h; cases h; exact ⟨rfl, fun i p h => by simp at h, fun _ _ => rfl⟩
  | cons p ps ih =>
    intro avs h
    simp only [allGet] at h
    split at h
    · rename_i a ha
      split at h
      · rename_i as' has
        cases h
        obtain ⟨h1, h2, h3⟩ := ih has
        refine ⟨by simp [h1], ?_, fun d k => by simp [memAt, idxMem, ha, h3]⟩
        intro i q hq
        cases i with
        | zero => simp at hq; subst hq; exact ⟨a, by simp, ha⟩
        | succ i => simpa using h2 i q (by simpa using hq)
      · cases h
    · cases h
/-- What a call that borrows does to the state. -/
def aLend (ι : List AVal → Option (AVal × List AVal)) (vs : List AVal) (d : Nat) (m : Mem) : Option Out :=
  match pkL m vs with
  | some avs => match ι avs, allGet m (refsInL vs) with
    | some (t, bs), some as0 =>
      if apartPs (refsInL vs) = true ∧ likeBs as0 bs = true ∧ okA bs.length t = true ∧
          ((refsInL vs).all fun p => !((labels d bs.length ((unpA (labA d) d t bs.length).2.2 - bs.length)).contains p.s)) = true then
        some ((unpA (toPs' (refsInL vs)) d t bs.length).1,
          (unpA (labA d) d t bs.length).2.1 ++ offMem (labels d bs.length ((unpA (labA d) d t bs.length).2.2 - bs.length)) (putAll m (refsInL vs) bs),
          .lent (labels d bs.length ((unpA (labA d) d t bs.length).2.2 - bs.length)) (refsInL vs))
      else none
    | _, _ => none
  | none => none
theorem conts_idx (d : Nat) : ∀ (bs : List AVal) (k : Nat), conts (idxMem d k bs) = bs := by
  intro bs
  induction bs with
  | nil => intro k; rfl
  | cons b bs ih => intro k; simp [idxMem, conts, ih]
theorem idxMem_lk {d : Nat} : ∀ {bs : List AVal} {k i : Nat} {b : AVal}, bs[i]? = some b → ∀ rest, lk (idxMem d k bs ++ rest) (lbl d (k + i)) = some [b] := by
  intro bs
  induction bs with
  | nil => intro k i b h; simp at h
  | cons a bs ih =>
    intro k i b h rest
    cases i with
    | zero => simp at h; subst h; simp [idxMem, lk]
    | succ i =>
      simp only [idxMem, List.cons_append, lk]
      rw [if_neg (fun e => by have := lbl_inj e; omega)]
      have := ih (k := k + 1) (i := i) (b := b) (by simpa using h) rest
      rw [← this]
      congr 2
      omega
theorem idxMem_else {d : Nat} : ∀ {bs : List AVal} {k s : Nat}, (∀ i, i < bs.length → s ≠ lbl d (k + i)) → ∀ rest, lk (idxMem d k bs ++ rest) s = lk rest s := by
  intro bs
  induction bs with
  | nil => intro k s _ rest; rfl
  | cons a bs ih =>
    intro k s h rest
    simp only [idxMem, List.cons_append, lk]
    rw [if_neg (fun e => h 0 (by simp) (by simpa using e))]
    exact ih (fun i hi => by have := h (i + 1) (by simpa using hi); rwa [show k + 1 + i = k + (i + 1) by omega]) rest
mutual
theorem unpA_mem (f : Place → Option Place) (d : Nat) : (t : AVal) → ∀ k s cs, lk (unpA f d t k).2.1 s = some cs → ∃ j, k ≤ j ∧ j < (unpA f d t k).2.2 ∧ s = lbl d j
  | .agg cs => fun k s x h => by simp only [unpA] at h ⊢; exact unpAL_mem f d cs k s x h
  | .tup cs => fun k s x h => by simp only [unpA] at h ⊢; exact unpAL_mem f d cs k s x h
  | .own _ _ _ => fun k s x h => by
      simp only [unpA, lk] at h ⊢
      split at h
      · rename_i hs; exact ⟨k, Nat.le_refl _, by omega, hs⟩
      · cases h
  | .omap _ => fun k s x h => by
      simp only [unpA, lk] at h ⊢
      split at h
      · rename_i hs; exact ⟨k, Nat.le_refl _, by omega, hs⟩
      · cases h
  | .p _ | .rsl _ _ _ | .rpt _ _ _ | .rmp _ | .dead | .unk | .siter _ _ | .smap _ | .miter _ _ _ | .rit _ _ _ => fun k s x h => by simp [unpA, lk] at h
theorem unpAL_mem (f : Place → Option Place) (d : Nat) : (l : List AVal) → ∀ k s cs, lk (unpAL f d l k).2.1 s = some cs → ∃ j, k ≤ j ∧ j < (unpAL f d l k).2.2 ∧ s = lbl d j
  | [] => fun k s x h => by simp [unpAL, lk] at h
  | a :: l => fun k s x h => by
      simp only [unpAL, lk_append] at h ⊢
      cases hk : lk (unpA f d a k).2.1 s with
      | some y =>
        obtain ⟨j, h1, h2, h3⟩ := unpA_mem f d a k s y hk
        exact ⟨j, h1, Nat.lt_of_lt_of_le h2 (unpAL_le f d l _), h3⟩
      | none =>
        rw [hk] at h
        obtain ⟨j, h1, h2, h3⟩ := unpAL_mem f d l _ s x h
        exact ⟨j, Nat.le_trans (unpA_le f d a k) h1, h2, h3⟩
end
theorem hidM_lk {d : Nat} : ∀ {bs : List AVal} {i t : Nat} {v : AVal}, lk (hidM d i bs) t = some v → ∃ j b, bs[j]? = some b ∧ t = 1000000 + (i + j) ∧ refOf ⟨lbl d (i + j), 0, []⟩ b = some v := by
  intro bs
  induction bs with
  | nil => intro i t v h; simp [hidM, lk] at h
  | cons b bs ih =>
    intro i t v h
    simp only [hidM, lk_append] at h
    cases hr : refOf ⟨lbl d i, 0, []⟩ b with
    | none =>
      rw [hr] at h
      simp only [lk, Option.none_or] at h
      obtain ⟨j, b', h1, h2, h3⟩ := ih h
      exact ⟨j + 1, b', by simpa using h1, by omega, by rwa [show i + (j + 1) = i + 1 + j by omega]⟩
    | some x =>
      rw [hr] at h
      simp only [lk] at h
      by_cases ht : t = 1000000 + i
      · simp [ht] at h
        subst h
        exact ⟨0, b, by simp, by omega, hr⟩
      · simp [ht] at h
        obtain ⟨j, b', h1, h2, h3⟩ := ih h
        exact ⟨j + 1, b', by simpa using h1, by omega, by rwa [show i + (j + 1) = i + 1 + j by omega]⟩
theorem hidM_at {d : Nat} : ∀ {bs : List AVal} {i j : Nat} {b v : AVal}, bs[j]? = some b → refOf ⟨lbl d (i + j), 0, []⟩ b = some v → lk (hidM d i bs) (1000000 + (i + j)) = some v := by
  intro bs
  induction bs with
  | nil => intro i j b v h; simp at h
  | cons a bs ih =>
    intro i j b v h hr
    simp only [hidM, lk_append]
    cases j with
    | zero =>
      simp at h
      subst h
      rw [Nat.add_zero] at hr ⊢
      simp [hr, lk]
    | succ j =>
      have h2 : lk (hidM d (i + 1) bs) (1000000 + (i + (j + 1))) = some v := by
        have := ih (i := i + 1) (j := j) (b := b) (v := v) (by simpa using h) (by rwa [show i + 1 + j = i + (j + 1) by omega])
        rwa [show i + 1 + j = i + (j + 1) by omega] at this
      cases hr2 : refOf ⟨lbl d i, 0, []⟩ a with
      | none => simpa [lk] using h2
      | some x =>
        simp only [lk]
        rw [if_neg (by omega)]
        simpa using h2
section
variable {P : Program} {C : Ctx}
/-- The callee's beginning. -/
theorem lent_begin {G : Gh} {w : World} {m : Mem} (hm : MR G w m) (hg : Good C G w) {d : Nat} {ps : List Place} (ha : apartPs ps = true) :
    MR (G.pack d ps) w (memAt m d 0 ps) ∧ Good (Ctx.lent G w ps) (G.pack d ps) w := by
  obtain ⟨h1, h2⟩ := pack_mr hm hg (d := d) ha
  refine ⟨h1, h2.fz, h2.fzl, h2.fm, h2.fml, h2.inj, h2.bnd, Nat.le_refl _, fun _ _ _ => rfl, ?_, fun _ _ _ h => h, fun _ _ h => h, fun _ _ _ h => .inl h, fun _ _ h => .inl h, rfl, rfl, rfl⟩
  intro q L hL
  obtain ⟨i, p, g1, g2, g3⟩ := Gh.pack_loc hL
  exact .inr ⟨i, p, _, L, g1, g3, rfl⟩
theorem aLend_step {f : Nat} {vs : List AVal} {d : Nat} {m : Mem} {out : Out} {ι : List AVal → Option (AVal × List AVal)} (hι : ∀ avs t bs, ι avs = some (t, bs) → RetI P f avs t bs) (h : aLend ι vs d m = some out)
    {G : Gh} {w : World} (hm : MR G w m) (hg : Good C G w) {cv : Array Value} (ha : ArgsR G vs cv) :
    Calls P f cv w fun ending w' => match ending with
      | .returned c => ∃ G', VR G' out.1 c ∧ Step C G w w' out.2.1 out.2.2.fn G'
      | _ => False := by
  unfold aLend at h
  split at h
  · rename_i avs has
    split at h
    · rename_i t bs as0 ht has0
      split at h
      · rename_i hc
        obtain ⟨hap, hlike, hok, hD⟩ := hc
        cases h
        generalize hps : refsInL vs = ps at *
        obtain ⟨hl0, hget, hidx⟩ := allGet_ok has0
        obtain ⟨hl1, hlk⟩ := likeBs_get hlike
        have hn : ps.length = bs.length := by omega
        have hctx := lent_begin (d := lA) hm hg hap
        -- the arguments
        have hvt : VR G (.tup vs) (.tuple cv) := .tup vs cv ha.1 ha.2
        have hpkt : pk m (.tup vs) = some (mkTup avs) := by simp [pk, has]
        obtain ⟨p1, p2, _⟩ := pk_ok (d := lA) (ps := ps) hvt (k := 0) hpkt (fun i p hi => by simp only [refsIn, hps] at hi; rw [Nat.zero_add]; exact hi)
        rw [mkTup_unp] at p1 p2
        simp only [refsIn, hps] at p2
        obtain ⟨cv', e1, e2, e3⟩ := VR.ofTup p1
        cases e1
        have hmem : (unpL lA avs 0).2.1 = idxMem lA 0 as0 := by rw [p2, hidx]
        obtain ⟨hcal, hspec⟩ := hι avs t bs ht
        refine Calls.mono (hspec d (Ctx.lent G w ps) (G.pack lA ps) w cv (by rw [p2]; exact hctx.1) hctx.2 ⟨e2, e3⟩ ?_) ?_
        · intro s v hs
          rw [hmem, conts_idx] at hs
          obtain ⟨j, b, h1, h2, h3⟩ := hidM_lk hs
          rw [Nat.zero_add] at h2 h3
          have hjl : j < ps.length := by have := (List.getElem?_eq_some_iff.1 h1).1; omega
          have hp : ps[j]? = some ps[j] := List.getElem?_eq_getElem hjl
          obtain ⟨a, ha1, ha2⟩ := hget j _ hp
          rw [h1] at ha1
          cases ha1
          have hat := Gh.pack_at (G := G) (d := lA) hp []
          refine ⟨G.cv ps[j], ?_, ?_⟩
          · subst h2
            simp only [slotOf]
            rw [if_neg (by omega)]
            simp only [Ctx.lent, Nat.add_sub_cancel_left, List.getElem?_toArray, List.getElem?_map, hp, Option.map_some]
          · have := hctx.1 ⟨lbl lA j, 0, []⟩ b (by
              rw [hidx]
              have := idxMem_lk (d := lA) (k := 0) h1 []
              rw [List.append_nil, Nat.zero_add] at this
              simp [getAt, this, sub])
            have := refOf_cv this h3
            rwa [hat.2, Place.app_nil] at this
        · intro en w' he
          cases en with
          | returned c =>
            obtain ⟨G2, v, h', m', r1, r2, r3, r4, rfl, rfl, rfl⟩ := he
            generalize hDd : labels d bs.length ((unpA (labA d) d t bs.length).2.2 - bs.length) = D at *
            have hDm : ∀ x, D.contains x = true ↔ ∃ j, bs.length ≤ j ∧ j < (unpA (labA d) d t bs.length).2.2 ∧ x = lbl d j := by
              intro x
              rw [← hDd, labels_mem]
              have := unpA_le (labA d) d t bs.length
              constructor
              · rintro ⟨j, a, b, c⟩; exact ⟨j, a, by omega, c⟩
              · rintro ⟨j, a, b, c⟩; exact ⟨j, a, by omega, c⟩
            have hlD : ∀ i, i < ps.length → D.contains (lbl d i) = false := by
              intro i hi
              cases hx : D.contains (lbl d i) with
              | false => rfl
              | true =>
                obtain ⟨j, a, b, c⟩ := (hDm _).1 hx
                have := lbl_inj c
                omega
            have hps0 : ∀ p ∈ ps, (∃ a, getAt m p = some a) ∧ D.contains p.s = false := by
              intro p hp
              obtain ⟨i, hi⟩ := List.mem_iff_getElem?.1 hp
              obtain ⟨a, _, h2⟩ := hget i p hi
              refine ⟨⟨a, h2⟩, ?_⟩
              have := List.all_eq_true.1 hD p hp
              simpa using this
            have hbsc : ∀ b ∈ bs, b.scalar = true := by
              intro b hb
              obtain ⟨i, hi⟩ := List.mem_iff_getElem?.1 hb
              have hil := (List.getElem?_eq_some_iff.1 hi).1
              have : as0[i]? = some as0[i] := List.getElem?_eq_getElem (by omega)
              exact (likeB_own (hlk i _ b this hi)).2.2.1
            have hbs : ∀ (i : Nat) (b : AVal) (r : List (Nat × Nat)) (x : AVal), bs[i]? = some b → sub r b = some x → HR G2 w' ⟨lbl d i, 0, r⟩ x := by
              intro i b r x hb hx
              refine r2 _ _ ?_
              have := idxMem_lk (d := d) (k := 0) hb (unpA (labA d) d t bs.length).2.1
              rw [Nat.zero_add] at this
              simp [getAt, this, hx]
            have hcv : ∀ (i : Nat) (p : Place), ps[i]? = some p → G2.cv ⟨lbl d i, 0, []⟩ = G.cv p := by
              intro i p hp
              have hil := (List.getElem?_eq_some_iff.1 hp).1
              have hb : bs[i]? = some bs[i] := List.getElem?_eq_getElem (by omega)
              obtain ⟨a, ha1, ha2⟩ := hget i p hp
              have hlab := likeB_own (hlk i a _ ha1 hb)
              obtain ⟨_, y, hy⟩ := hlab.2.2.2.2 ⟨lbl d i, 0, []⟩
              have := hidM_at (d := d) (i := 0) hb (by rw [Nat.zero_add]; exact hy)
              rw [Nat.zero_add] at this
              obtain ⟨c', hc1, hc2⟩ := r4 _ _ this
              have hc3 : c' = G.cv p := by
                simp only [slotOf] at hc1
                rw [if_neg (by omega)] at hc1
                simp only [Ctx.lent, Nat.add_sub_cancel_left, List.getElem?_toArray, List.getElem?_map, hp, Option.map_some, Option.some.injEq] at hc1
                exact hc1.symm
              rw [← hc3]
              exact (refOf_unique (hbs i _ [] _ hb rfl) hy hlab.2.2.2.1 hc2).symm
            have hmain := lend_ok (D := D) (ps := ps) (bs := bs) (la := lbl d) (mD := (unpA (labA d) d t bs.length).2.1) hm hg hap hn.symm hbsc hps0 r3 (fun i j e => lbl_inj e) hlD ?_ hbs hcv
            · refine ⟨Gh.lent D ps (lbl d) G G2, ?_, hmain.1, hmain.2.1, hmain.2.2, ?_⟩
              · refine unpA_move (G2 := G2) (G3 := Gh.lent D ps (lbl d) G G2) (Frz.le_refl G2.F) hn ?_ t bs.length c hok ?_ r1
                · intro i p r hp
                  exact (lent_at hap hp (hps0 p (List.mem_of_getElem? hp)).2 r).1
                · intro j h1 h2
                  have : inSites D ⟨lbl d j, 0, []⟩ = true := (hDm _).2 ⟨j, h1, h2, rfl⟩
                  exact (lent_D this).1
              · intro q hq L hL
                simp only [Kill.fn, Bool.or_eq_false_iff] at hq
                rcases lent_cases (D := D) (ps := ps) q with h1 | ⟨h1, i, p, r, h2, rfl⟩ | ⟨h1, h2⟩
                · rw [h1] at hq; cases hq.1
                · have hr : r = [] := by
                    cases r with
                    | nil => rfl
                    | cons x r =>
                      have := List.any_eq_false.1 hq.2 p (List.mem_of_getElem? h2)
                      simp [Place.app] at this
                  subst hr
                  rw [(lent_at hap h2 (hps0 p (List.mem_of_getElem? h2)).2 []).1] at hL
                  rw [Place.app_nil]
                  obtain ⟨a, ha1, ha2⟩ := hget i p h2
                  have hil := (List.getElem?_eq_some_iff.1 h2).1
                  have hb : bs[i]? = some bs[i] := List.getElem?_eq_getElem (by omega)
                  rw [← likeB_loc (hlk i a _ ha1 hb) (hm p a ha2) (hbs i _ [] _ hb rfl) (hcv i p h2)]
                  exact hL
                · rw [(lent_else h1 h2).1] at hL
                  exact hL
            · intro q x hx
              have hq : inSites D q = true := by
                simp only [getAt, Option.bind_eq_some_iff] at hx
                obtain ⟨cs, h1, _⟩ := hx
                obtain ⟨j, a, b, c⟩ := unpA_mem _ _ _ _ _ _ h1
                exact (hDm _).2 ⟨j, a, b, c⟩
              refine ⟨hq, r2 q x ?_⟩
              obtain ⟨j, a, b, c⟩ := (hDm _).1 hq
              rw [← hx]
              simp only [getAt]
              rw [idxMem_else]
              intro i hi e
              rw [c, Nat.zero_add] at e
              have := lbl_inj e
              omega
          | _ => exact he.elim
      · cases h
    · cases h
  · cases h
end
end Go.Proofs.Ytnmnijgoggombaa.X
/- The resolved code is carried out over abstract states; what it comes to holds of the program. -/
namespace Go.Proofs.Ytnmnijgoggombaa.X
open Go.RowKit
abbrev Sig := Nat → List PVal → Option AVal
abbrev SigI := Nat → List AVal → Option (AVal × List AVal)
abbrev SeqSig := Nat → List PVal → Option (List (List PVal))
mutual
/-- A place that a value leads to. -/
def refPl : AVal → Option Place
  | .rsl pl _ _ => some pl
  | .rpt pl _ _ => some pl
  | .rmp pl => some pl
  | .agg cs => refPls cs
  | .tup cs => refPls cs
  | _ => none
def refPls : List AVal → Option Place
  | [] => none
  | a :: l => match refPl a with
    | some pl => some pl
    | none => refPls l
end
/-- What is owned at a place is told to be read only. -/
def frz1 (pl : Place) (e : Env) (m : Mem) : Option (Env × Mem) :=
  match getAt m pl with
  | some a => if a.isOwn = true then
      match toP a with
      | some x => some (e.map (fun y => (y.1, frzV pl x y.2)), setAt m pl (.p x))
      | none => none
    else none
  | none => none
def frzArg : Nat → Arg → Env → Mem → Option (Env × Mem)
  | 0, _, _, _ => none
  | n + 1, x, e, m => match evA e x with
    | some v => match refPl v with
      | none => some (e, m)
      | some pl => match frz1 pl e m with
        | some s => frzArg n x s.1 s.2
        | none => none
    | none => none
def frzArgs : List Arg → Env → Mem → Option (Env × Mem)
  | [], e, m => some (e, m)
  | x :: xs, e, m => match frzArg 9 x e m with
    | some s => frzArgs xs s.1 s.2
    | none => none
/-- The named slots alone. -/
def keepE (e : Env) : List Nat → Env
  | [] => []
  | t :: ts => match lk e t with
    | some v => (t, v) :: keepE e ts
    | none => keepE e ts
/-- Slots' memory is told to be read only; or (behind a mark) all slots but the named ones are forgotten. -/
def tellF : List Nat → Env → Mem → Option (Env × Mem)
  | [], e, m => some (e, m)
  | t :: ts, e, m => if t = 999999999 then some (keepE e ts, m) else frzArgs ((t :: ts).map .s) e m
def notIn (l : List Nat) : Nat → List Arg → List Arg
  | _, [] => []
  | i, x :: xs => if l.contains i = true then notIn l (i + 1) xs else x :: notIn l (i + 1) xs
/-- What an item hands on must be read only. -/
def frzOf : RItem → List Arg
  | .op (.fn _ fst caps) => fst ++ caps
  | .op (.mapset _ _ k v) => [k, v]
  | .op (.mentry _ _ _ k) => [k]
  | .op (.fslice _ _ _ parts) => parts.map (·.2)
  | .op (.mestore _ _ v) => [v]
  | .op _ => []
  | .call _ args => args
  | .callv x args => x :: args
  | .calli _ args l => notIn l 0 args
def itemS (σ : Sig) (ι : SigI) (it : RItem) (d : Nat) (e : Env) (m : Mem) : Option Out :=
  match it with
  | .calli f args _ => match evAs e args with
    | some vs => aLend (ι f) vs d m
    | none => none
  | it => itemOut σ it d e m
/-- One operation of a region in the text's order. -/
def stepS (σ : Sig) (ι : SigI) (r : RO) (e : Env) (m : Mem) : Option (Env × Mem) :=
  let go : Option (Env × Mem) :=
    match frzArgs (frzOf r.it) e m with
    | some s => match itemS σ ι r.it (r.dst.getD 0) s.1 s.2 with
      | some out => some (upd r.dst out s.1, out.2.1)
      | none => none
    | none => none
  match r.guard with
  | none => go
  | some (s, want) => match lk e s with
    | some v => match gb v with
      | some y => if y = some want then go else some (skipped r.dst e, m)
      | none => none
    | none => none
def runS (σ : Sig) (ι : SigI) : List RO → Env → Mem → Option (Env × Mem)
  | [], e, m => some (e, m)
  | r :: rs, e, m => match stepS σ ι r e m with
    | some s => runS σ ι rs s.1 s.2
    | none => none
/-- New labels for the sites, by the slots that lead to them first. -/
def addS (t : Nat) : Nat → List Nat → List (Nat × Nat) → List (Nat × Nat)
  | _, [], r => r
  | j, s :: ss, r => if (lk r s).isSome = true then addS t j ss r else addS t (j + 1) ss (r ++ [(s, 1000000000000 * (t + 1) + j)])
def canR : List Nat → Env → List (Nat × Nat) → List (Nat × Nat)
  | [], _, r => r
  | t :: ts, e, r => match lk e t with
    | some v => canR ts e (addS t 0 (sitesV v) r)
    | none => canR ts e r
def keepR (r : List (Nat × Nat)) (e : Env) : List Nat → Env
  | [] => []
  | t :: ts => match lk e t with
    | some v => match renV r v with
      | some u => (t, u) :: keepR r e ts
      | none => keepR r e ts
    | none => keepR r e ts
def hidKeys : Env → List Nat
  | [] => []
  | x :: e => if Nat.ble x.1 999999 = true then hidKeys e else x.1 :: hidKeys e
/-- The state at a loop's head: the live slots, the sites under their own labels. -/
def canon (live : List Nat) (e : Env) (m : Mem) : Env × Mem :=
  if renOK (canR (live ++ hidKeys e) e []) = true then (keepR (canR (live ++ hidKeys e) e []) e (live ++ hidKeys e), renMem (canR (live ++ hidKeys e) e []) m) else (e, m)
/-- How loops are carried out. -/
abbrev LoopF := Ex → Ex
def itN : Nat → LoopF
  | 0, _, _, _ => none
  | n + 1, b, e, m => match b e m with
    | some (.normal, e1, m1) => itN n b e1 m1
    | r => r
structure Ora where
  τ : SeqSig
  L : LoopF
  ρ : Sig → Nat → Ex
def LoopOK (L : LoopF) : Prop := ∀ b e m r, L b e m = some r → ∃ n, itN n b e m = some r
def exec (σ : Sig) (ι : SigI) (O : Ora) (N : Nat) : RCode → Ex
  | .skip, e, m => some (.normal, e, m)
  | .ops l, e, m => match runS σ ι l e m with
    | some s => some (.normal, s.1, s.2)
    | none => none
  | .draw B l, e, m => match runD σ l e m with
    | some s => if indepFrom B [] 0 s.1 = true then some (.normal, s.2.1, s.2.2) else none
    | none => none
  | .seq a b, e, m => match exec σ ι O N a e m with
    | some (.normal, e1, m1) => exec σ ι O N b e1 m1
    | r => r
  | .cond c a b, e, m => match evA e c with
    | some (.p (.bool t)) => if t = true then exec σ ι O N a e m else exec σ ι O N b e m
    | _ => none
  | .block i b, e, m => match exec σ ι O N b e m with
    | some (.exit j, e1, m1) => if j = i then some (.normal, e1, m1) else some (.exit j, e1, m1)
    | r => r
  | .loop live b, e, m => O.L (fun e m => match exec σ ι O N b e m with
    | some (.normal, e1, m1) => some (.normal, (canon live e1 m1).1, (canon live e1 m1).2)
    | r => r) (canon live e m).1 (canon live e m).2
  | .scope b, e, m => exec σ ι O N b e m
  | .exit i, e, m => some (.exit i, e, m)
  | .ret, e, m => some (.ret, e, m)
  | .rangeF x ps live ra rb, e, m => match evA (canon live e m).1 x with
    | some (.p (.fn g [] caps)) => match O.τ g caps with
      | some xs => rnd (seqE (exec σ ι O N ra) (exec σ ι O N rb)) N ps (canon live) xs (canon live e m).1 (canon live e m).2
      | none => none
    | _ => none
  | .dead, _, _ => none
  | .hand i _, e, m => O.ρ σ i e m
  | .frz ts b, e, m => match tellF ts e m with
    | some s => exec σ ι O N b s.1 s.2
    | none => none
section
variable {P : Program} {C : Ctx} {N : Nat} {σ : Sig} {ι : SigI} {O : Ora}
theorem frz1_tells {pl : Place} {e : Env} {m : Mem} {s : Env × Mem} (h : frz1 pl e m = some s) : Tells e m s.1 s.2 := by
  unfold frz1 at h
  split at h
  · rename_i a ha
    split at h
    · rename_i ho
      split at h
      · rename_i x hx
        cases h
        exact tells_freeze pl ha hx ho
      · cases h
    · cases h
  · cases h
theorem frzArg_tells : ∀ {n : Nat} {x : Arg} {e : Env} {m : Mem} {s : Env × Mem}, frzArg n x e m = some s → Tells e m s.1 s.2 := by
  intro n
  induction n with
  | zero => intro x e m s h; cases h
  | succ n ih =>
    intro x e m s h
    simp only [frzArg] at h
    split at h
    · split at h
      · cases h; exact .refl
      · split at h
        · rename_i s1 h1
          exact (frz1_tells h1).trans (ih h)
        · cases h
    · cases h
theorem frzArgs_tells : ∀ {xs : List Arg} {e : Env} {m : Mem} {s : Env × Mem}, frzArgs xs e m = some s → Tells e m s.1 s.2 := by
  intro xs
  induction xs with
  | nil => intro e m s h; cases h; exact .refl
  | cons x xs ih =>
    intro e m s h
    simp only [frzArgs] at h
    split at h
    · rename_i s1 h1
      exact (frzArg_tells h1).trans (ih h)
    · cases h
theorem keepE_lk {e : Env} {t : Nat} {v : AVal} : ∀ {ts : List Nat}, lk (keepE e ts) t = some v → lk e t = some v := by
  intro ts
  induction ts with
  | nil => intro h; simp [keepE, lk] at h
  | cons a ts ih =>
    intro h
    simp only [keepE] at h
    split at h
    · rename_i u hu
      simp only [lk] at h
      split at h
      · rename_i ht; cases h; subst ht; exact hu
      · exact ih h
    · exact ih h
theorem tellF_tells {ts : List Nat} {e : Env} {m : Mem} {s : Env × Mem} (h : tellF ts e m = some s) : Tells e m s.1 s.2 := by
  cases ts with
  | nil => cases h; exact .refl
  | cons t ts =>
    simp only [tellF] at h
    split at h
    · cases h
      intro C G w tmps h1 h2 h3
      exact ⟨G, h1, h2, fun t v hv => h3 t v (keepE_lk hv)⟩
    · exact frzArgs_tells h
/-- The callees that borrow: their results are what 'ι' says. -/
def SigIOK (P : Program) (ι : SigI) : Prop := ∀ f avs t bs, ι f avs = some (t, bs) → RetI P f avs t bs
/-- A CALL that borrows. -/
theorem xItem_calli {d : Option Nat} {f s : Nat} {args : List Arg} {l : List Nat} {vs : List AVal} {out : Out} {K : Env → Mem → Prop} {e : Env} {m : Mem}
    (hι : SigIOK P ι) (hv : evAs e args = some vs) (ho : aLend (ι f) vs s m = some out) (hk : K (upd d out e) out.2.1) :
    xItem P C N d (.calli f args l) K e m := by
  intro o hd hi G w a hr next Q hn
  obtain ⟨dst, op, type, pos, after, guard⟩ := o
  simp only [itemIs] at hi
  split at hi
  · rename_i f' xs tys
    simp only [Bool.and_eq_true, beq_iff_eq] at hi
    obtain ⟨⟨rfl, hx⟩, hc⟩ := hi
    refine ⟨fun _ _ => wide_fn, ?_⟩
    rw [Oper.semAt_eq _ _ _ (fun c h => by cases h)]
    have hrun : (execOp a.eval { dst := dst, op := .call { callee := .value (.func f), args := xs, argTypes := tys }, type := type, pos := pos, after := after, guard := guard }).run P w = .ok (.enter f (#[] ++ xs.map a.eval ++ #[])) w := run_callee hc _ w
    rw [hrun]
    refine ⟨(fun h => by cases h), callsIn_fc ?_⟩
    obtain ⟨h1, h2⟩ := args_ok hr.er hx hv
    have ha : ArgsR G vs (#[] ++ xs.map a.eval ++ #[]) := ⟨by simpa using h1, fun i v c hi hc => h2 i v c hi (by simpa [← Array.toList_map] using hc)⟩
    refine Calls.mono (aLend_step (C := C.re G w) (hι f) ho hr.mr hr.good.re ha) ?_
    intro en w' he
    cases en with
    | returned c =>
      obtain ⟨G', h3, h4⟩ := he
      refine hn _ _ ⟨G', _, _, ?_, hk⟩
      have := (hr.step h4).put hd h3
      cases d <;> exact this
    | _ => exact he.elim
  · cases hi
theorem xItem_itemS (hσ : SigOK P σ) (hι : SigIOK P ι) {it : RItem} {d : Option Nat} {s : Nat} {e : Env} {m : Mem} {out : Out} {K : Env → Mem → Prop} (h : itemS σ ι it s e m = some out) (hk : K (upd d out e) out.2.1) :
    xItem P C N d it K e m := by
  cases it with
  | calli f args l =>
    simp only [itemS] at h
    split at h
    · rename_i vs hvs
      exact xItem_calli hι hvs h hk
    · cases h
  | op o => exact xItem_out hσ h hk
  | call f args => exact xItem_out hσ h hk
  | callv x args => exact xItem_out hσ h hk
theorem runS_ok (hσ : SigOK P σ) (hι : SigIOK P ι) : ∀ {l : List RO} {e : Env} {m : Mem} {s : Env × Mem} {K : Env → Mem → Prop}, runS σ ι l e m = some s → K s.1 s.2 → xOps P C N l K e m := by
  intro l
  induction l with
  | nil => intro e m s K h hk; cases h; exact xOps_nil hk
  | cons r rs ih =>
    intro e m s K h hk
    simp only [runS] at h
    split at h
    · rename_i s1 h1
      have hrest : xOps P C N rs K s1.1 s1.2 := ih h hk
      have go : (match frzArgs (frzOf r.it) e m with
        | some s => match itemS σ ι r.it (r.dst.getD 0) s.1 s.2 with
          | some out => some (upd r.dst out s.1, out.2.1)
          | none => none
        | none => none) = some s1 → xOps P C N (⟨r.dst, r.it, none⟩ :: rs) K e m := by
        intro h
        split at h
        · rename_i s2 h2
          split at h
          · rename_i out ho
            cases h
            exact xOps_tell (frzArgs_tells h2) (xOps_cons (xItem_itemS hσ hι ho hrest))
          · cases h
        · cases h
      obtain ⟨d, it, g⟩ := r
      simp only [stepS] at h1 go
      cases g with
      | none => exact go h1
      | some sw =>
        obtain ⟨t, want⟩ := sw
        simp only at h1
        split at h1
        · rename_i v hb
          split at h1
          · rename_i y hy
            split at h1
            · rename_i hbw
              exact xOps_guard hb hy (fun _ => go h1) (fun h' => absurd hbw h')
            · rename_i hbw
              cases h1
              exact xOps_guard hb hy (fun h' => absurd h' hbw) (fun _ => hrest)
          · cases h1
        · cases h1
    · cases h
theorem keepR_lk {r : List (Nat × Nat)} {e : Env} {t : Nat} {v : AVal} : ∀ {ts : List Nat}, lk (keepR r e ts) t = some v → ∃ u, lk e t = some u ∧ renV r u = some v := by
  intro ts
  induction ts with
  | nil => intro h; simp [keepR, lk] at h
  | cons a ts ih =>
    intro h
    simp only [keepR] at h
    split at h
    · rename_i u hu
      split at h
      · rename_i u' hu'
        simp only [lk] at h
        split at h
        · rename_i ht; cases h; subst ht; exact ⟨u, hu, hu'⟩
        · exact ih h
      · exact ih h
    · exact ih h
theorem canon_tells (live : List Nat) (e : Env) (m : Mem) : Tells e m (canon live e m).1 (canon live e m).2 := by
  unfold canon
  split
  · rename_i hr
    intro C G w tmps h1 h2 h3
    refine ⟨G.ren _, h1.ren hr, h2.ren hr, ?_⟩
    intro t v hv
    obtain ⟨u, hu, hur⟩ := keepR_lk hv
    obtain ⟨c, hc, hvr⟩ := h3 t u hu
    exact ⟨c, hc, hvr.ren hr hur⟩
  · exact .refl
/-- What hands prove holds. -/
def HandsOK (P : Program) (N : Nat) (σ : Sig) (O : Ora) : RCode → Prop
  | .hand i b => ∀ (C : Ctx) (e : Env) (m : Mem) (r : XE × Env × Mem), O.ρ σ i e m = some r → xWp P C N b (fun x e m => (x, e, m) = r) e m
  | .seq a b => HandsOK P N σ O a ∧ HandsOK P N σ O b
  | .cond _ a b => HandsOK P N σ O a ∧ HandsOK P N σ O b
  | .block _ b => HandsOK P N σ O b
  | .loop _ b => HandsOK P N σ O b
  | .scope b => HandsOK P N σ O b
  | .frz _ b => HandsOK P N σ O b
  | .rangeF _ _ _ a b => HandsOK P N σ O a ∧ HandsOK P N σ O b
  | _ => True
def noHands : RCode → Bool
  | .hand _ _ => false
  | .seq a b => noHands a && noHands b
  | .cond _ a b => noHands a && noHands b
  | .block _ b => noHands b
  | .loop _ b => noHands b
  | .scope b => noHands b
  | .frz _ b => noHands b
  | .rangeF _ _ _ a b => noHands a && noHands b
  | _ => true
theorem noHands_ok {P : Program} {N : Nat} {σ : Sig} {O : Ora} : ∀ {rc : RCode}, noHands rc = true → HandsOK P N σ O rc := by
  intro rc
  induction rc with
  | hand i b _ => intro h; cases h
  | seq a b iha ihb => intro h; simp only [noHands, Bool.and_eq_true] at h; exact ⟨iha h.1, ihb h.2⟩
  | cond c a b iha ihb => intro h; simp only [noHands, Bool.and_eq_true] at h; exact ⟨iha h.1, ihb h.2⟩
  | rangeF x ps l a b iha ihb => intro h; simp only [noHands, Bool.and_eq_true] at h; exact ⟨iha h.1, ihb h.2⟩
  | block i b ih => intro h; exact ih h
  | loop l b ih => intro h; exact ih h
  | scope b ih => intro h; exact ih h
  | frz t b ih => intro h; exact ih h
  | _ => intro _; trivial
def OraOK (P : Program) (O : Ora) : Prop := (∀ g caps xs, O.τ g caps = some xs → Seq P g caps xs) ∧ LoopOK O.L
/-- WHAT IS CARRIED OUT HOLDS OF THE PROGRAM. -/
theorem exec_ok (hσ : SigOK P σ) (hι : SigIOK P ι) (hO : OraOK P O) (hN : N ≤ 999999) :
    ∀ (rc : RCode), HandsOK P N σ O rc → ∀ (C : Ctx) (e : Env) (m : Mem) (r : XE × Env × Mem), exec σ ι O N rc e m = some r → xWp P C N rc (fun x e m => (x, e, m) = r) e m := by
  intro rc
  induction rc with
  | skip => intro _ C e m r h; simp only [exec, Option.some.injEq] at h; exact xWp_skip h
  | ops l =>
    intro _ C e m r h
    simp only [exec] at h
    split at h
    · rename_i s hs
      cases h
      exact xWp_ops (runS_ok hσ hι hs rfl)
    · cases h
  | draw B l =>
    intro _ C e m r h
    simp only [exec] at h
    split at h
    · rename_i s hs
      split at h
      · rename_i hi
        cases h
        exact xWp_draw hσ hs hi rfl
      · cases h
    · cases h
  | seq a b iha ihb =>
    intro ⟨ha, hb⟩ C e m r h
    simp only [exec] at h
    refine xWp_seq ?_
    split at h
    · rename_i e1 m1 h1
      refine xWp_mono ?_ (iha ha C e m _ h1)
      rintro x e' m' ⟨⟩
      exact ihb hb C _ _ _ h
    · rename_i hn
      refine xWp_mono ?_ (iha ha C e m _ h)
      intro x e' m' hx
      cases x with
      | normal => subst hx; exact absurd h (hn _ _)
      | _ => exact hx
  | cond c a b iha ihb =>
    intro ⟨ha, hb⟩ C e m r h
    simp only [exec] at h
    split at h
    · rename_i t ht
      refine xWp_cond ht ?_
      cases t
      · exact ihb hb C e m r (by simpa using h)
      · exact iha ha C e m r (by simpa using h)
    · cases h
  | block i b ih =>
    intro hh C e m r h
    simp only [exec] at h
    refine xWp_block ?_
    split at h
    · rename_i j e1 m1 h1
      refine xWp_mono ?_ (ih hh C e m _ h1)
      rintro x e' m' ⟨⟩
      simp only [XQ.inBlock]
      split at h
      · rename_i hji; rw [if_pos hji]; cases h; rfl
      · rename_i hji; rw [if_neg hji]; cases h; rfl
    · rename_i hn
      refine xWp_mono ?_ (ih hh C e m _ h)
      intro x e' m' hx
      cases x with
      | exit j => subst hx; exact absurd h (hn _ _ _)
      | _ => exact hx
  | loop live b ih =>
    intro hh C e m r h
    simp only [exec] at h
    obtain ⟨n, hn⟩ := hO.2 _ _ _ _ h
    refine xWp_loop (S := Nat × Env × Mem) (fun s => s.2.1) (fun s => s.2.2) (fun s => itN s.1 (fun e m => match exec σ ι O N b e m with
      | some (.normal, e1, m1) => some (.normal, (canon live e1 m1).1, (canon live e1 m1).2)
      | r => r) s.2.1 s.2.2 = some r) (fun s => s.1) (n, (canon live e m).1, (canon live e m).2) (canon_tells live e m) hn ?_
    rintro ⟨k, e1, m1⟩ hI
    simp only at hI ⊢
    cases k with
    | zero => cases hI
    | succ k =>
      simp only [itN] at hI
      cases hx : exec σ ι O N b e1 m1 with
      | none => simp [hx] at hI
      | some r1 =>
        obtain ⟨x1, e2, m2⟩ := r1
        rw [hx] at hI
        refine xWp_mono ?_ (ih hh C _ _ _ hx)
        rintro x e' m' ⟨⟩
        cases x1 with
        | normal => exact ⟨(k, (canon live e2 m2).1, (canon live e2 m2).2), canon_tells live e2 m2, hI, Nat.lt_succ_self _⟩
        | exit i => simp only [Option.some.injEq] at hI; exact hI
        | ret => simp only [Option.some.injEq] at hI; exact hI
  | scope b ih => intro hh C e m r h; exact xWp_scope (ih hh C e m r h)
  | hand i b _ => intro hh C e m r h; exact xWp_hand (hh C e m r h)
  | exit i => intro _ C e m r h; simp only [exec, Option.some.injEq] at h; exact xWp_exit h
  | ret => intro _ C e m r h; simp only [exec, Option.some.injEq] at h; exact xWp_ret h
  | rangeF x ps live ra rb iha ihb =>
    intro ⟨ha, hb⟩ C e m r h
    simp only [exec] at h
    split at h
    · rename_i g caps hf
      split at h
      · rename_i xs hxs
        obtain ⟨j, e', m'⟩ := r
        exact xWp_tell (canon_tells live e m) (xWp_rangeF hN hf (hO.1 g caps xs hxs) (iha ha) (ihb hb) (canon_tells live) h rfl)
      · cases h
    · cases h
  | dead => intro _ C e m r h; cases h
  | frz ts b ih =>
    intro hh C e m r h
    simp only [exec] at h
    split at h
    · rename_i s hs
      exact xWp_tell (tellF_tells hs) (xWp_frz (ih hh C _ _ _ h))
    · cases h
end
end Go.Proofs.Ytnmnijgoggombaa.X
/- Functions carried out; the table of all functions. -/
namespace Go.Proofs.Ytnmnijgoggombaa.X
open Go.RowKit
section
variable {P : Program} {C : Ctx}
/-- A function, carried out. -/
def callF (σ : Sig) (ι : SigI) (O : Ora) (N : Nat) (ts : List RV) (rc : RCode) (ps : List PVal) : Option AVal :=
  if ps.length ≤ N then
    match exec σ ι O N rc (entry 0 (ps.map .p)) [] with
    | some (x, e, m) => match x with
      | .exit _ => none
      | _ => match resVal e m ts with
        | some v => if apartPs (refsIn v) = true then pk (trunc m v) v else none
        | none => none
    | none => none
  else none
theorem fnIs_N {f N : Nat} {ts : List RV} {rc : RCode} (hf : fnIs P f N ts rc = true) : N ≤ 999999 := by
  unfold fnIs at hf
  split at hf
  · split at hf
    · simp only [Bool.and_eq_true, beq_iff_eq] at hf
      exact Nat.le_of_ble_eq_true hf.1.1.2
    · cases hf
  · cases hf
theorem callF_ok {σ : Sig} {ι : SigI} {O : Ora} (hσ : SigOK P σ) (hι : SigIOK P ι) (hO : OraOK P O) {f N : Nat} {ts : List RV} {rc : RCode} (hf : fnIs P f N ts rc = true) (hc : calleeIs P f = true) (hh : HandsOK P N σ O rc)
    {ps : List PVal} {t : AVal} (h : callF σ ι O N ts rc ps = some t) : Ret P f ps t := by
  unfold callF at h
  split at h
  · rename_i hl
    split at h
    · rename_i x e m hx
      refine ret_of_spec hc (spec_of_body hf (by simpa using hl) fun C => ?_)
      rw [List.append_nil]
      refine xWp_mono ?_ (exec_ok hσ hι hO (fnIs_N hf) rc hh C _ _ _ hx)
      rintro x' e' m' ⟨⟩
      have key : (match resVal e m ts with
        | some v => if apartPs (refsIn v) = true then pk (trunc m v) v else none
        | none => none) = some t → ∃ v, resVal e m ts = some v ∧ pk (trunc m v) v = some t ∧ apartPs (refsIn v) = true := by
        intro h
        split at h
        · rename_i v hv
          split at h
          · rename_i ha
            exact ⟨v, hv, h, ha⟩
          · cases h
        · cases h
      cases x with
      | exit i => cases h
      | normal => exact key h
      | ret => exact key h
    · cases h
  · cases h
/-- What a way that waits leads to. -/
def back1 (m : Mem) : AVal → Option (Place × AVal)
  | .rsl pl off len => match getAt m pl with
    | some (.own false z rows) => if off = 0 ∧ rows.length = len then some (pl, .own false z rows) else none
    | _ => none
  | .rpt pl i j => match getAt m pl with
    | some (.own true z rows) => if i = 0 ∧ j = 0 then some (pl, .own true z rows) else none
    | _ => none
  | .rmp pl => match getAt m pl with
    | some (.omap es) => some (pl, .omap es)
    | _ => none
  | _ => none
theorem back1_ok {m : Mem} {x : AVal} {pl : Place} {b : AVal} (h : back1 m x = some (pl, b)) : getAt m pl = some b ∧ refOf pl b = some x := by
  unfold back1 at h
  split at h
  · split at h
    · split at h
      · rename_i hc; cases h; obtain ⟨rfl, rfl⟩ := hc; exact ⟨by assumption, rfl⟩
      · cases h
    · cases h
  · split at h
    · split at h
      · rename_i hc; cases h; obtain ⟨rfl, rfl⟩ := hc; exact ⟨by assumption, rfl⟩
      · cases h
    · cases h
  · split at h
    · cases h; exact ⟨by assumption, rfl⟩
    · cases h
  · cases h
def backs (e : Env) (m : Mem) : Nat → Nat → Option (List Place × List AVal)
  | _, 0 => some ([], [])
  | i, n + 1 => match lk e (1000000 + i) with
    | some x => match back1 m x with
      | some (pl, b) => match backs e m (i + 1) n with
        | some (ps, bs) => some (pl :: ps, b :: bs)
        | none => none
      | none => none
    | none => none
theorem backs_ok {e : Env} {m : Mem} : ∀ {n i : Nat} {ps : List Place} {bs : List AVal}, backs e m i n = some (ps, bs) → ps.length = bs.length ∧
    (∀ d k, memAt m d k ps = idxMem d k bs) ∧
    ∀ (j : Nat) (b : AVal), bs[j]? = some b → ∃ p x, ps[j]? = some p ∧ getAt m p = some b ∧ lk e (1000000 + (i + j)) = some x ∧ refOf p b = some x := by
  intro n
  induction n with
  | zero => intro i ps bs h; cases h; exact ⟨rfl, fun _ _ => rfl, fun j b h => by simp at h⟩
  | succ n ih =>
    intro i ps bs h
    simp only [backs] at h
    split at h
    · rename_i x hx
      split at h
      · rename_i pl b hb
        split at h
        · rename_i ps' bs' hr
          cases h
          obtain ⟨h1, h2⟩ := back1_ok hb
          obtain ⟨g1, g2, g3⟩ := ih hr
          refine ⟨by simp [g1], fun d k => by simp [memAt, idxMem, h1, g2], ?_⟩
          intro j b' hj
          cases j with
          | zero => simp at hj; subst hj; exact ⟨pl, x, by simp, h1, hx, h2⟩
          | succ j =>
            obtain ⟨p, y, k1, k2, k3, k4⟩ := g3 j b' (by simpa using hj)
            exact ⟨p, y, by simpa using k1, k2, by rwa [show i + (j + 1) = i + 1 + j by omega], k4⟩
        · cases h
      · cases h
    · cases h
/-- A function to which memory is lent, carried out. -/
def callI (σ : Sig) (ι : SigI) (O : Ora) (N : Nat) (ts : List RV) (rc : RCode) (avs : List AVal) : Option (AVal × List AVal) :=
  if avs.length ≤ N then
    match exec σ ι O N rc (entry 0 (unpL lA avs 0).1 ++ hidM lA 0 (conts (unpL lA avs 0).2.1)) (unpL lA avs 0).2.1 with
    | some (x, e, m) => match x with
      | .exit _ => none
      | _ => match resVal e m ts with
        | some v => match backs (hidOf e) m 0 (conts (unpL lA avs 0).2.1).length with
          | some (ps, bs) => if apartPs (ps ++ refsA ps v) = true then
              match pkA m ps v with
              | some t => some (t, bs)
              | none => none
            else none
          | none => none
        | none => none
    | none => none
  else none
theorem callI_ok {σ : Sig} {ι : SigI} {O : Ora} (hσ : SigOK P σ) (hι : SigIOK P ι) (hO : OraOK P O) {f N : Nat} {ts : List RV} {rc : RCode} (hf : fnIs P f N ts rc = true) (hc : calleeIs P f = true) (hh : HandsOK P N σ O rc)
    {avs : List AVal} {t : AVal} {bs : List AVal} (h : callI σ ι O N ts rc avs = some (t, bs)) : RetI P f avs t bs := by
  unfold callI at h
  split at h
  · rename_i hl
    split at h
    · rename_i x e m hx
      refine ⟨hc, fun d C G w cv h1 h2 h3 h4 => ?_⟩
      have hsp : Spec P f (unpL lA avs 0).1 (hidM lA 0 (conts (unpL lA avs 0).2.1)) (unpL lA avs 0).2.1 fun v h' m' => ∃ ps, backs h' m' 0 (conts (unpL lA avs 0).2.1).length = some (ps, bs) ∧ apartPs (ps ++ refsA ps v) = true ∧ pkA m' ps v = some t := by
        refine spec_of_body hf (by rw [unpL_length]; exact hl) fun C => ?_
        refine xWp_mono ?_ (exec_ok hσ hι hO (fnIs_N hf) rc hh C _ _ _ hx)
        rintro x' e' m' ⟨⟩
        have key : (match resVal e m ts with
          | some v => match backs (hidOf e) m 0 (conts (unpL lA avs 0).2.1).length with
            | some (ps, bs) => if apartPs (ps ++ refsA ps v) = true then
                match pkA m ps v with
                | some t => some (t, bs)
                | none => none
              else none
            | none => none
          | none => none) = some (t, bs) → ∃ v, resVal e m ts = some v ∧ ∃ ps, backs (hidOf e) m 0 (conts (unpL lA avs 0).2.1).length = some (ps, bs) ∧ apartPs (ps ++ refsA ps v) = true ∧ pkA m ps v = some t := by
          intro h
          split at h
          · rename_i v hv
            split at h
            · rename_i ps bs' hb
              split at h
              · rename_i ha
                split at h
                · rename_i t' ht
                  cases h
                  exact ⟨v, hv, ps, hb, ha, ht⟩
                · cases h
              · cases h
            · cases h
          · cases h
        cases x with
        | exit i => cases h
        | normal => exact key h
        | ret => exact key h
      refine Calls.mono (hsp C G w cv h1 h2 h3 h4) ?_
      intro en w' he
      cases en with
      | returned c =>
        obtain ⟨G', v, h', m', a1, a2, a3, a4, ps, a5, a6, a7⟩ := he
        obtain ⟨b1, b2, b3⟩ := backs_ok a5
        obtain ⟨p1, p2⟩ := pack_mr (d := d) a2 a3 a6
        obtain ⟨c1, c2, c3⟩ := pkA_ok (d := d) (avs := ps) (ps := ps ++ refsA ps v) (fun i p hi => by rw [List.getElem?_append_left (List.getElem?_eq_some_iff.1 hi).1]; exact hi) a1 (k := bs.length) a7 (fun i p hi => by
          rw [List.getElem?_append_right (by omega), ← b1]; simpa using hi)
        refine ⟨G'.pack d (ps ++ refsA ps v), _, hidM d 0 bs, _, c1, ?_, p2, ?_, rfl, rfl, rfl⟩
        · rw [c2, ← b2 d 0]
          rw [memAt_append, Nat.zero_add, b1] at p1
          exact p1
        · intro s u hs
          obtain ⟨j, b, g1, g2, g3⟩ := hidM_lk hs
          obtain ⟨p, x', k1, k2, k3, k4⟩ := b3 j b g1
          obtain ⟨c', q1, q2⟩ := a4 _ _ k3
          subst g2
          refine ⟨c', q1, ?_⟩
          have hat := (Gh.pack_at (G := G') (d := d) (ps := ps ++ refsA ps v) (i := j) (p := p) (by rw [List.getElem?_append_left (List.getElem?_eq_some_iff.1 k1).1]; exact k1) []).1
          rw [Place.app_nil] at hat
          rw [Nat.zero_add] at g3
          cases b with
          | p z => simp [refOf] at k4 g3; subst k4; rw [← g3]; cases q2 with | p h => exact .p h
          | own ptr z rows =>
            cases ptr with
            | false =>
              simp [refOf] at k4 g3
              subst k4; rw [← g3]
              cases q2 with | rsl _ _ _ ad q hh => exact .rsl _ _ _ _ _ (by rw [hat]; exact hh)
            | true =>
              simp [refOf] at k4 g3
              subst k4; rw [← g3]
              cases q2 with | rpt _ _ _ ad hh => exact .rpt _ _ _ _ (by rw [hat]; exact hh)
          | omap es =>
            simp [refOf] at k4 g3
            subst k4; rw [← g3]
            cases q2 with | rmp _ r hh => exact .rmp _ _ (by rw [hat]; exact hh)
          | _ => simp [refOf] at k4
      | _ => exact he
    · cases h
  · cases h
/-- A string's bytes. -/
def bs (l : List UInt8) : ByteArray := ⟨l.toArray⟩
structure Fn where
  N : Nat
  ts : List RV
  rc : RCode
mutual
/-- THE PROGRAM, carried out: 'k': how deep calls may lie; 'H', 'HI': what hands prove. -/
def S (T : Nat → Option Fn) (H : Sig) (HI : SigI) (O : Ora) : Nat → Sig
  | 0, _, _ => none
  | k + 1, f, ps => match H f ps with
    | some t => some t
    | none => match T f with
      | some i => callF (S T H HI O k) (SI T H HI O k) O i.N i.ts i.rc ps
      | none => none
def SI (T : Nat → Option Fn) (H : Sig) (HI : SigI) (O : Ora) : Nat → SigI
  | 0, _, _ => none
  | k + 1, f, avs => match HI f avs with
    | some t => some t
    | none => match T f with
      | some i => callI (S T H HI O k) (SI T H HI O k) O i.N i.ts i.rc avs
      | none => none
end
theorem S_ok {T : Nat → Option Fn} {H : Sig} {HI : SigI} {O : Ora} (hT : ∀ f i, T f = some i → fnIs P f i.N i.ts i.rc = true ∧ calleeIs P f = true) (hH : SigOK P H) (hHI : SigIOK P HI) (hO : OraOK P O) (hHs : ∀ f i, T f = some i → ∀ σ, SigOK P σ → HandsOK P i.N σ O i.rc) :
    ∀ k, SigOK P (S T H HI O k) ∧ SigIOK P (SI T H HI O k) := by
  intro k
  induction k with
  | zero => exact ⟨fun f ps t h => by simp [S] at h, fun f avs t bs h => by simp [SI] at h⟩
  | succ k ih =>
    refine ⟨?_, ?_⟩
    · intro f ps t h
      simp only [S] at h
      split at h
      · rename_i t' ht
        cases h
        exact hH f ps _ ht
      · split at h
        · rename_i i hi
          obtain ⟨h1, h2⟩ := hT f i hi
          exact callF_ok ih.1 ih.2 hO h1 h2 (hHs f i hi _ ih.1) h
        · cases h
    · intro f avs t bs h
      simp only [SI] at h
      split at h
      · rename_i t' ht
        cases h
        exact hHI f avs _ _ ht
      · split at h
        · rename_i i hi
          obtain ⟨h1, h2⟩ := hT f i hi
          exact callI_ok ih.1 ih.2 hO h1 h2 (hHs f i hi _ ih.1) h
        · cases h
end
end Go.Proofs.Ytnmnijgoggombaa.X
/- Ranges over maps: the rules. -/
namespace Go.Proofs.Ytnmnijgoggombaa.X
open Go.RowKit
section
variable {P : Program} {C : Ctx} {N : Nat} {e : Env} {m : Mem}
/-- An item that comes to one of some outcomes, whatever the world. -/
theorem xItem_any {d : Option Nat} {r : ROp} {K : Env → Mem → Prop} (hop : ∀ o : Oper, opIs P o.op r = true → ∀ c, o.op ≠ .defer c) (h : ∀ (o : Oper), opIs P o.op r = true → ∀ C' G w (a : Act), MR G w m → Good C' G w → ER C' G e a.tmps →
    ∃ out, OpOK C' G w ((execOp a.eval o).run P w) out ∧ K (upd d out e) out.2.1) : xItem P C N d (.op r) K e m := by
  intro o hd ho G w a hr next Q hn
  obtain ⟨out, ⟨n, c, w', G', h1, h2, h3, h4⟩, hk⟩ := h o ho (C.re G w) G w a hr.mr hr.good.re hr.er
  have hput : Rel C G' w' N (a.put o.dst c) (upd d out e) out.2.1 := by
    have := (hr.step h4).put hd h3
    cases d <;> exact this
  refine ⟨fun _ _ => wide_fn, ?_⟩
  rw [Oper.semAt_eq _ _ _ (hop o ho), h1]
  rcases h2 with rfl | ⟨rfl, rfl⟩
  · exact hn _ _ ⟨G', _, _, hput, hk⟩
  · exact hn _ _ ⟨G', _, _, hput, hk⟩
theorem callIs_no {c : Call} {r : ROp} (hr : (∃ x, r = .mrg x) ∨ (∃ x, r = .mnx x) ∨ ∃ x, r = .ment x) (h : callIs P c r = true) : False := by
  rcases hr with ⟨x, rfl⟩ | ⟨x, rfl⟩ | ⟨x, rfl⟩ <;> (unfold callIs at h; split at h <;> first | (cases h; done) | (rename_i hc; cases hc))
/-- RANGE over a map that is owned. -/
theorem xItem_mrg {d : Nat} {x : Arg} {mp : Place} {es : List (PVal × PVal)} {K : Env → Mem → Prop} (hx : evA e x = some (.rmp mp)) (hm : getAt m mp = some (.omap es))
    (hd : mp.s ≠ d) (hk : ∀ mb, K (upd (some d) ((.rit ⟨d, 0, []⟩ mp mb, (d, [.miter mb es.length []]) :: m, .site d) : Out) e) ((d, [.miter mb es.length []]) :: m)) :
    xItem P C N (some d) (.op (.mrg x)) K e m := by
  refine xItem_any (fun o ho c hc => by rw [hc] at ho; simp [opIs] at ho) ?_
  intro o ho C' G w a hmr hg he
  obtain ⟨dst, op, type, pos, after, guard⟩ := o
  simp only [opIs] at ho
  split at ho <;> try (cases ho; done)
  all_goals try (exact (callIs_no (by simp) ho).elim)
  all_goals try (rename_i hcontra; cases hcontra; done)
  rename_i t xo a' heq
  cases heq
  simp only [Bool.and_eq_true] at ho
  obtain ⟨ho0, ho1⟩ := ho
  obtain ⟨dd, hs1, hs2⟩ := under_spec ho0
  split at hs2
  · obtain ⟨r, ev, clock, g1, g2, g3, g4, g5, g6⟩ := hmr mp _ hm
    have hvr := arg_ok ho1 he hx
    generalize hcc : a.eval xo = cc at hvr
    cases hvr with
    | rmp _ rr hh =>
      have hrr := hh _ _ _ _ g1
      subst hrr
      obtain ⟨G', h1, h2⟩ := newObj_ok (C := C') hmr hg d (.mapIter (some rr) clock #[] clock) (.miter rr es.length []) (.pointer (some ⟨w.heap.size, 0, none⟩))
        (fun G' _ a b => ⟨w.heap.size, a, b, by
          show (w.heap.push _)[w.heap.size]? = _
          rw [Array.getElem?_push_size, g6, g4]⟩) (fun a p => rfl)
      refine ⟨(.rit ⟨d, 0, []⟩ mp rr, (d, [.miter rr es.length []]) :: m, .site d), ?_, hk rr⟩
      refine OpOK.v ⟨.pointer (some ⟨w.heap.size, 0, none⟩), w.alloc (.mapIter (some rr) clock #[] clock), G', ?_, .rit _ _ _ _ (fun b o cap z hL => ?_) (fun b o cap z hL => ?_), h1⟩
      · simp [hcc, Instr.range, run_underlying hs1, Sem.run_bind, getObj, Sem.run, g3, Result.andThen]
      · rw [h2] at hL; cases hL; rfl
      · have := h1.loc mp (by simp [Kill.fn, hd]) _ hL
        rw [g1] at this
        cases this
        rfl
  · cases hs2
/-- The births of an owned map's entries are their places. -/
theorem omap_born {G : Gh} {w : World} {mp : Place} {es : List (PVal × PVal)} (h : HR G w mp (.omap es)) : ∃ r ev, G.loc mp = some ⟨r, 0, 0, 0⟩ ∧ w.heap[r]? = some (.map ev es.length) ∧ ev.size = es.length ∧
    (∀ (i : Nat) (v : MapEntry), ev[i]? = some v → ∃ k x, es[i]? = some (k, x) ∧ PV G.F k v.key ∧ PV G.F x v.val ∧ v.born = i) := by
  obtain ⟨r, ev, clock, g1, g2, g3, g4, g5, g6⟩ := h
  subst g6
  rw [g4] at g3
  refine ⟨r, ev, g1, g3, g4, ?_⟩
  intro i v hv
  have hi := (Array.getElem?_eq_some_iff.1 hv).1
  have he : es[i]? = some es[i] := List.getElem?_eq_getElem (by omega)
  obtain ⟨h1, h2, h3⟩ := g5 i _ v he hv
  exact ⟨_, _, he, h1, h2, h3⟩
/-- NEXT of a range over a map: one of the entries that have not come yet, whichever. -/
theorem xItem_mnx {d : Option Nat} {x : Arg} {pl mp : Place} {mb n : Nat} {dn : List Nat} {es : List (PVal × PVal)} {K : Env → Mem → Prop} (hx : evA e x = some (.rit pl mp mb)) (hi : getAt m pl = some (.miter mb n dn))
    (hm : getAt m mp = some (.omap es)) (hn : es.length = n)
    (hk : ∀ i k v, es[i]? = some (k, v) → i ∉ dn → K (upd d ((.p (.tup [.bool true, k, v]), setAt m pl (.miter mb n (dn ++ [i])), .no) : Out) e) (setAt m pl (.miter mb n (dn ++ [i]))))
    (he : (∀ i, i < n → i ∈ dn) → K (upd d ((.p (.tup [.bool false]), m, .no) : Out) e) m) :
    xItem P C N d (.op (.mnx x)) K e m := by
  refine xItem_any (fun o ho c hc => by rw [hc] at ho; simp [opIs] at ho) ?_
  intro o ho C' G w a hmr hg hee
  obtain ⟨dst, op, type, pos, after, guard⟩ := o
  simp only [opIs] at ho
  split at ho <;> try (cases ho; done)
  all_goals try (exact (callIs_no (by simp) ho).elim)
  all_goals try (rename_i hcontra; cases hcontra; done)
  rename_i xo a' heq
  cases heq
  obtain ⟨r, ev, g1, g3, g4, g5⟩ := omap_born (hmr mp _ hm)
  obtain ⟨ri, q1, q2, q3⟩ := hmr pl _ hi
  have hvr := arg_ok ho hee hx
  generalize hcc : a.eval xo = cc at hvr
  cases hvr with
  | rit _ _ _ ad hh hh' =>
    have h1 := hh _ _ _ _ q1
    have h2 := hh' _ _ _ _ g1
    subst h1 h2
    have hri := (Array.getElem?_eq_some_iff.1 q3).1
    have hold : ∀ x ∈ ev.toList, x.born < n := by
      intro y hy
      obtain ⟨i, hi'⟩ := List.mem_iff_getElem?.1 hy
      obtain ⟨k, v, e1, _, _, e2⟩ := g5 i y (by simpa using hi')
      have := (List.getElem?_eq_some_iff.1 e1).1
      omega
    have hrun := run_next_at (P := P) w type ri mb n n dn.toArray ev es.length q3 g3 hold (Nat.le_refl _)
    rcases hrun with ⟨hz, hrun⟩ | ⟨en, hen, w1, hw1, hrun⟩
    · refine ⟨(.p (.tup [.bool false]), m, .no), OpOK.v ⟨_, w, G, by rw [hcc]; exact hrun, .p (.tup _ _ rfl ?_), Step.refl hmr hg⟩, he ?_⟩
      · intro i p v h1 h2
        match i with
        | 0 => simp at h1 h2; subst h1 h2; exact .bool _
        | i + 1 => simp at h1
      · intro i hin
        have hlt : i < ev.size := by omega
        obtain ⟨k, v, e1, _, _, e2⟩ := g5 i ev[i] (Array.getElem?_eq_getElem hlt)
        unfold leftOf at hz
        have hnone : ev[i] ∉ ev.filter fun e => !dn.toArray.contains e.born := by
          intro hmem
          have := Array.size_pos_of_mem hmem
          omega
        simp only [Array.mem_filter, Array.getElem_mem, true_and, e2] at hnone
        simpa using hnone
    · obtain ⟨hmem, hnot⟩ : en ∈ ev ∧ ¬ (dn.toArray.contains en.born = true) := by
        have : en ∈ leftOf ev dn.toArray := by simpa using hen
        unfold leftOf at this
        simpa using this
      obtain ⟨i, hi1, hi2⟩ := Array.mem_iff_getElem.1 hmem
      obtain ⟨k, v, e1, pk, pv, e2⟩ := g5 i en (by rw [← hi2]; exact Array.getElem?_eq_getElem hi1)
      have hheap : w1.heap = w.heap := by rcases hw1 with rfl | rfl <;> rfl
      have hsb : ∀ k, k ≠ ri → (ChangeMaps.setBlock w1 ri (.mapIter (some mb) n (dn.toArray.push en.born) es.length)).heap[k]? = w.heap[k]? := by
        intro k hk
        simp [ChangeMaps.setBlock, hheap, Array.getElem?_setIfInBounds, Ne.symm hk]
      have hst : Step C' G w (ChangeMaps.setBlock w1 ri (.mapIter (some mb) n (dn.toArray.push en.born) es.length)) (setAt m pl (.miter mb n (dn ++ [i]))) Kill.no.fn G := by
        refine objWrite_ok hmr hg hi rfl (fun a p => rfl) q1 ⟨ri, q1, q2, ?_⟩ hri hsb (by simp [ChangeMaps.setBlock, hheap]) (by rcases hw1 with rfl | rfl <;> rfl) (by rcases hw1 with rfl | rfl <;> rfl) (by rcases hw1 with rfl | rfl <;> rfl)
        simp [ChangeMaps.setBlock, hheap, Array.getElem?_setIfInBounds, hri, e2, hn]
      refine ⟨(.p (.tup [.bool true, k, v]), setAt m pl (.miter mb n (dn ++ [i])), .no), OpOK.v ⟨_, _, G, by rw [hcc]; exact hrun, .p (.tup _ _ rfl ?_), hst⟩, hk i k v e1 (by rw [← e2]; simpa using hnot)⟩
      intro j p u h1 h2
      match j with
      | 0 => simp at h1 h2; subst h1 h2; exact .bool _
      | 1 => simp at h1 h2; subst h1 h2; exact pk
      | 2 => simp at h1 h2; subst h1 h2; exact pv
      | j + 3 => simp at h1
/-- The entry that a range over a map is at. -/
theorem xItem_ment {d : Option Nat} {x : Arg} {pl mp : Place} {mb n i : Nat} {dn : List Nat} {es : List (PVal × PVal)} {k v : PVal} {K : Env → Mem → Prop} (hx : evA e x = some (.rit pl mp mb)) (hi : getAt m pl = some (.miter mb n (dn ++ [i])))
    (hm : getAt m mp = some (.omap es)) (hn : es.length = n) (hkv : es[i]? = some (k, v))
    (hk : K (upd d ((.p (.tup [k, v]), m, .no) : Out) e) m) :
    xItem P C N d (.op (.ment x)) K e m := by
  refine xItem_any (fun o ho c hc => by rw [hc] at ho; simp [opIs] at ho) ?_
  intro o ho C' G w a hmr hg hee
  obtain ⟨dst, op, type, pos, after, guard⟩ := o
  simp only [opIs] at ho
  split at ho <;> try (cases ho; done)
  all_goals try (exact (callIs_no (by simp) ho).elim)
  all_goals try (rename_i hcontra; cases hcontra; done)
  rename_i xo a' heq
  cases heq
  obtain ⟨r, ev, g1, g3, g4, g5⟩ := omap_born (hmr mp _ hm)
  obtain ⟨ri, q1, q2, q3⟩ := hmr pl _ hi
  have hvr := arg_ok ho hee hx
  generalize hcc : a.eval xo = cc at hvr
  cases hvr with
  | rit _ _ _ ad hh hh' =>
    have h1 := hh _ _ _ _ q1
    have h2 := hh' _ _ _ _ g1
    subst h1 h2
    have hil : i < ev.size := by have := (List.getElem?_eq_some_iff.1 hkv).1; omega
    obtain ⟨k', v', e1, pk, pv, e2⟩ := g5 i ev[i] (Array.getElem?_eq_getElem hil)
    rw [hkv] at e1
    cases e1
    have hnd : (ev.toList.map (·.born)).Nodup := by
      have : ev.toList.map (·.born) = List.range ev.size := by
        apply List.ext_getElem?
        intro j
        rw [List.getElem?_map]
        by_cases hj : j < ev.size
        · obtain ⟨_, _, _, _, _, e3⟩ := g5 j ev[j] (Array.getElem?_eq_getElem hj)
          rw [Array.getElem?_toList, Array.getElem?_eq_getElem hj, List.getElem?_range hj, Option.map_some, e3]
        · rw [List.getElem?_eq_none (by simpa using hj), List.getElem?_eq_none (by simpa using hj)]
          rfl
      rw [this]
      exact List.nodup_range
    have hrun := run_entry_at (P := P) w ri mb n dn.toArray ev es.length ev[i] (by rw [e2, q3, hn]; simp) g3 (by simp) hnd
    refine ⟨(.p (.tup [k, v]), m, .no), OpOK.v ⟨_, w, G, by rw [hcc]; exact hrun, .p (.tup _ _ rfl ?_), Step.refl hmr hg⟩, hk⟩
    intro j p u h1 h2
    match j with
    | 0 => simp at h1 h2; subst h1 h2; exact pk
    | 1 => simp at h1 h2; subst h1 h2; exact pv
    | j + 2 => simp at h1
end
end Go.Proofs.Ytnmnijgoggombaa.X
/- The loops over maps that hands prove: what they come to. -/
namespace Go.Proofs.Ytnmnijgoggombaa.X
open Go.RowKit
/-- Slots that are written are forgotten. -/
def dropS (wr : List Nat) (e : Env) : Env := e.filter fun x => !(wr.contains x.1)
/-- Keys that are told apart. -/
def apartB (ls : List Leaf) (es : List (PVal × PVal)) : Bool :=
  (List.range es.length).all fun i => (List.range es.length).all fun j => match es[i]?, es[j]? with
    | some a, some b => keyEq ls a.1 b.1 == some (i == j)
    | _, _ => false
/-- Two numbers. -/
def pairV : PVal → Bool
  | .agg [.int _ _, .int _ _] => true
  | _ => false
/-- No slot leads to the site. -/
def offS (d : Nat) (e : Env) : Bool := e.all fun x => !(x.2.ment (Kill.site d).fn)
def intV : PVal → Option Int
  | .int .i64 n => some n
  | _ => none
/-- 'for x, g := range group { if g == max(a, b) { group[x] = min(a, b) } }' -/
def uval (a b : Int) (v : PVal) : PVal := match intV v with
  | some n => if n = (if b > a then b else a) then .int .i64 (if b < a then b else a) else v
  | none => v
def uloop (ls : List Leaf) (prs : Bool) (wr : List Nat) : Ex := fun e m =>
  match lk e 5, lk e 10, lk e 11 with
  | some (.rmp mp), some (.p (.int .i64 a)), some (.p (.int .i64 b)) => match getAt m mp with
    | some (.omap es) => if apartB ls es = true ∧ (es.all fun x => (intV x.2).isSome && (!prs || pairV x.1)) = true ∧ wr.contains mp.s = false ∧ offS 48 (dropS wr e) = true ∧ offS 12 (dropS wr e) = true then
        some (.normal, dropS wr e, setAt (offMem wr m) mp (.omap (es.map fun x => (x.1, uval a b x.2))))
      else none
    | _ => none
  | _, _, _ => none
/-- 'for x, g := range group { group[x] = numbers[g] }' -/
def rloop (ls : List Leaf) (prs : Bool) (wr : List Nat) : Ex := fun e m =>
  match lk e 5, lk e 14 with
  | some (.rmp mp), some (.rmp mq) => match getAt m mp, getAt m mq with
    | some (.omap es), some (.omap ns) => if apartB ls es = true ∧ mp.s ≠ mq.s ∧ wr.contains mp.s = false ∧ wr.contains mq.s = false ∧ (es.all fun x => (intV x.2).isSome && (!prs || pairV x.1)) = true ∧ (ns.all fun x => (intV x.1).isSome) = true ∧ offS 90 (dropS wr e) = true ∧ offS 19 (dropS wr e) = true then
        some (.normal, dropS wr e, setAt (offMem wr m) mp (.omap (es.map fun x => (x.1, ((mapGet [.i] ns x.2).getD none).getD (.int .i64 0)))))
      else none
    | _, _ => none
  | _, _ => none
def u1 : List Nat := [47, 48, 49, 50, 51, 52, 53, 12, 13, 54, 55, 56, 57, 58, 59, 60, 61, 62, 63]
def r1 : List Nat := [89, 90, 91, 92, 93, 94, 95, 19, 20, 96, 97, 98, 99, 100]
/-- What a function says of a key's first number. -/
def flagOf (σ : Sig) (g : Nat) (fst caps : List PVal) (k : PVal) : Option Bool :=
  match k with
  | .agg [.int k1 p, .int _ _] => match σ g (fst ++ [.int k1 p] ++ caps) with
    | some (.p (.bool b)) => some b
    | _ => none
  | _ => none
/-- The values of the entries that are counted, each once. -/
def cset (fl : PVal → Option Bool) : List (PVal × PVal) → Option (List Int)
  | [] => some []
  | (k, v) :: es => match fl k, intV v, cset fl es with
    | some b, some n, some l => some (if b = true then (if l.contains n = true then l else n :: l) else l)
    | _, _, _ => none
/-- 'for e, p := range t.points() { if mine(e.Panel) { points[p] = true } }' -/
def cloop (σ : Sig) (f : Nat) (wr : List Nat) : Ex := fun e m =>
  match runS σ (fun _ _ => none) [⟨some 22, .op (.load 2 true (.s 2)), none⟩, ⟨some 23, .call f [.s 22], none⟩] e m with
  | some (e1, m1) => match lk e1 23, lk e1 6, lk e1 8 with
    | some (.rmp mp), some (.p (.fn g fst caps)), some (.rmp mq) => match getAt m1 mp, getAt m1 mq with
      | some (.omap es), some (.omap []) => match cset (flagOf σ g fst caps) es with
        | some l => if mp.s ≠ mq.s ∧ wr.contains mq.s = false ∧ mp.s ≠ 24 ∧ mp.s ≠ 9 ∧ offS 24 (dropS wr e1) = true ∧ offS 9 (dropS wr e1) = true then some (.normal, dropS wr e1, setAt (offMem wr m1) mq (.smap l.length)) else none
        | none => none
      | _, _ => none
    | _, _, _ => none
  | none => none
def k1 : List Nat := [22, 23, 24, 25, 26, 27, 28, 29, 9, 10, 30, 31, 32, 33, 34, 35]
end Go.Proofs.Ytnmnijgoggombaa.X
/- A range over a map that rewrites the entries it comes to. -/
namespace Go.Proofs.Ytnmnijgoggombaa.X
open Go.RowKit
/-- Keys that are told apart. -/
def apartK (ls : List Leaf) (es : List (PVal × PVal)) : Prop := ∀ (i j : Nat) (a b : PVal × PVal), es[i]? = some a → es[j]? = some b → keyEq ls a.1 b.1 = some (i == j)
theorem mapPut_at {ls : List Leaf} {k y : PVal} : ∀ {es : List (PVal × PVal)} {i : Nat}, i < es.length → (∀ (j : Nat) (b : PVal × PVal), es[j]? = some b → keyEq ls k b.1 = some (i == j)) → mapPut ls es k y = some (es.set i (k, y)) := by
  intro es
  induction es with
  | nil => intro i h; simp at h
  | cons e es ih =>
    intro i hi hk
    have h0 := hk 0 e (by simp)
    simp only [mapPut, h0, Option.bind_some]
    have hrest : ∀ i', (∀ (j : Nat) (b : PVal × PVal), es[j]? = some b → keyEq ls k b.1 = some (i' == j + 1)) → ∃ q, mapPut ls es k y = some q := by
      clear ih hk h0 hi
      intro i'
      have : ∀ (es : List (PVal × PVal)), (∀ b ∈ es, ∃ t, keyEq ls k b.1 = some t) → ∃ q, mapPut ls es k y = some q := by
        intro es
        induction es with
        | nil => intro _; exact ⟨_, rfl⟩
        | cons b es ih =>
          intro h
          obtain ⟨t, ht⟩ := h b (by simp)
          obtain ⟨q, hq⟩ := ih (fun b hb => h b (by simp [hb]))
          simp only [mapPut, ht, hq, Option.bind_some, Option.map_some]
          exact ⟨_, rfl⟩
      intro h
      refine this es fun b hb => ?_
      obtain ⟨j, hj⟩ := List.mem_iff_getElem?.1 hb
      exact ⟨_, h j b hj⟩
    cases i with
    | zero =>
      obtain ⟨q, hq⟩ := hrest 0 (fun j b hb => hk (j + 1) b (by simpa using hb))
      rw [hq]
      simp
    | succ i =>
      rw [ih (i := i) (by simpa using hi) (fun j b hb => by have := hk (j + 1) b (by simpa using hb); simpa using this)]
      simp
/-- The entries, those that have come rewritten. -/
def esd (g : PVal → PVal) (es : List (PVal × PVal)) (dn : List Nat) : List (PVal × PVal) := es.mapIdx fun i kv => if dn.contains i = true then (kv.1, g kv.2) else kv
theorem esd_get (g : PVal → PVal) (es : List (PVal × PVal)) (dn : List Nat) (i : Nat) : (esd g es dn)[i]? = (es[i]?).map fun kv => if dn.contains i = true then (kv.1, g kv.2) else kv := by
  simp [esd, List.getElem?_mapIdx]
theorem esd_length (g : PVal → PVal) (es : List (PVal × PVal)) (dn : List Nat) : (esd g es dn).length = es.length := by simp [esd]
theorem esd_nil (g : PVal → PVal) (es : List (PVal × PVal)) : esd g es [] = es := by
  apply List.ext_getElem?
  intro i
  rw [esd_get]
  cases es[i]? <;> simp
theorem esd_all (g : PVal → PVal) (es : List (PVal × PVal)) (dn : List Nat) (h : ∀ i, i < es.length → i ∈ dn) : esd g es dn = es.map fun kv => (kv.1, g kv.2) := by
  apply List.ext_getElem?
  intro i
  rw [esd_get, List.getElem?_map]
  cases hi : es[i]? with
  | none => rfl
  | some kv =>
    have := h i (List.getElem?_eq_some_iff.1 hi).1
    simp [this]
theorem esd_set (g : PVal → PVal) (es : List (PVal × PVal)) (dn : List Nat) {i : Nat} {k v : PVal} (hi : es[i]? = some (k, v)) : (esd g es dn).set i (k, g v) = esd g es (dn ++ [i]) := by
  apply List.ext_getElem?
  intro j
  have hlt := (List.getElem?_eq_some_iff.1 hi).1
  rw [List.getElem?_set, esd_get, esd_get, esd_length]
  by_cases hij : i = j
  · subst hij
    rw [if_pos rfl, if_pos hlt, hi]
    simp
  · rw [if_neg hij]
    have : (dn ++ [i]).contains j = dn.contains j := by
      simp [List.contains_eq_mem, Ne.symm hij]
    rw [this]
theorem esd_keep (g : PVal → PVal) (es : List (PVal × PVal)) (dn : List Nat) {i : Nat} {k v : PVal} (hi : es[i]? = some (k, v)) (hg : g v = v) : esd g es dn = esd g es (dn ++ [i]) := by
  apply List.ext_getElem?
  intro j
  rw [esd_get, esd_get]
  by_cases hij : i = j
  · subst hij
    rw [hi]
    simp [hg]
  · have : (dn ++ [i]).contains j = dn.contains j := by simp [List.contains_eq_mem, Ne.symm hij]
    rw [this]
theorem putSub_self : ∀ (path : List (Nat × Nat)) (a x : AVal), sub path x = some a → putSub path a x = x := by
  intro path
  induction path with
  | nil => intro a x h; simp only [sub, Option.some.injEq] at h; simp [putSub, h]
  | cons ij path ih =>
    intro a x h
    obtain ⟨i, j⟩ := ij
    cases x with
    | own p z rows =>
      simp only [sub, Option.bind_eq_some_iff] at h
      obtain ⟨b, hb, hs⟩ := h
      obtain ⟨row, h1, h2⟩ := cellAt_some.1 hb
      simp only [putSub]
      congr 1
      apply List.ext_getElem?
      intro i'
      rw [List.getElem?_modify]
      by_cases hi : i = i'
      · subst hi
        simp only [if_true, h1, Option.map_eq_map, Option.map_some, Option.some.injEq]
        apply List.ext_getElem?
        intro j'
        rw [List.getElem?_modify]
        by_cases hj : j = j'
        · subst hj; simp [h2, ih a b hs]
        · simp [hj]
      · simp [hi]
    | _ => simp [sub] at h
theorem setAt_self {m : Mem} {pl : Place} {a : AVal} (h : getAt m pl = some a) (s : Nat) : lk (setAt m pl a) s = lk m s := by
  rw [lk_setAt]
  split
  · rename_i hs
    subst hs
    simp only [getAt, Option.bind_eq_some_iff] at h
    obtain ⟨cs, h1, x, h2, h3⟩ := h
    rw [h1]
    simp only [Option.map_some, Option.some.injEq]
    apply List.ext_getElem?
    intro k
    rw [List.getElem?_modify]
    by_cases hk : pl.k = k
    · subst hk; simp [h2, putSub_self _ _ _ h3]
    · simp [hk]
  · rfl
/-- What may be forgotten. -/
theorem tells_drop {e e' : Env} {m m' : Mem} (he : ∀ t v, lk e' t = some v → lk e t = some v) (hm : ∀ s cs, lk m' s = some cs → lk m s = some cs) : Tells e m e' m' := by
  intro C G w tmps h1 h2 h3
  refine ⟨G, ?_, h2, fun t v hv => h3 t v (he t v hv)⟩
  intro q x hq
  refine h1 q x ?_
  simp only [getAt, Option.bind_eq_some_iff] at hq ⊢
  obtain ⟨cs, a, b⟩ := hq
  exact ⟨cs, hm _ _ a, b⟩
theorem nodup_len : ∀ {n : Nat} {dn : List Nat}, dn.Nodup → (∀ i ∈ dn, i < n) → dn.length ≤ n := by
  intro n
  induction n with
  | zero =>
    intro dn _ h
    cases dn with
    | nil => simp
    | cons a l => exact absurd (h a (by simp)) (Nat.not_lt_zero _)
  | succ n ih =>
    intro dn hn h
    by_cases hm : n ∈ dn
    · have h1 := List.length_erase_of_mem hm
      have h2 := ih (hn.erase n) (fun i hi => by
        have h3 := (hn.mem_erase_iff).1 hi
        have := h i h3.2
        have := h3.1
        omega)
      omega
    · have := ih hn (fun i hi => by
        have := h i hi
        have : i ≠ n := fun e => hm (e ▸ hi)
        omega)
      omega
/-- The loop's code: 'd': the iterator's slot; 't', 'u': the step's; 'body': what is done with the entry. -/
def mloop (s x d t u b1 b2 : Nat) (live : List Nat) (body : RCode) : RCode :=
  .seq (.ops [⟨some s, .op (.mv (.s x)), none⟩, ⟨some d, .op (.mrg (.s s)), none⟩])
    (.block b1 (.loop live (.seq (.ops [⟨some t, .op (.mnx (.s d)), none⟩, ⟨some u, .op (.extract 0 (.s t)), none⟩]) (.seq (.cond (.s u) .skip (.exit b1)) (.block b2 body)))))
section
variable {P : Program} {C : Ctx} {N : Nat}
/-- IN PLACE: the loop rewrites each entry's value, whatever the order. -/
theorem mloop_ok {s x d t u b1 b2 : Nat} {live : List Nat} {body : RCode} {e e0 : Env} {m m0 : Mem} {mp : Place} {es : List (PVal × PVal)} {g : PVal → PVal}
    (hx : lk e x = some (.rmp mp)) (hm : getAt m mp = some (.omap es)) (hmd : mp.s ≠ d) (hm0 : getAt m0 mp = some (.omap es))
    (he0 : ∀ y v, lk e0 y = some v → lk e y = some v ∧ y ≠ s ∧ y ≠ d ∧ y ≠ t ∧ y ≠ u ∧ v.ment (Kill.site d).fn = false) (hms : ∀ q cs, lk m0 q = some cs → lk m q = some cs ∧ q ≠ d)
    (hdis : s ≠ d ∧ t ≠ d ∧ u ≠ d ∧ t ≠ u) 
    (hbody : ∀ (C : Ctx) (mb : Nat) (dn : List Nat) (i : Nat) (k v : PVal), es[i]? = some (k, v) → i ∉ dn → ∀ (ee : Env) (mm : Mem),
      (∀ y w, lk e0 y = some w → lk ee y = some w) → lk ee d = some (.rit ⟨d, 0, []⟩ mp mb) → getAt mm ⟨d, 0, []⟩ = some (.miter mb es.length (dn ++ [i])) → getAt mm mp = some (.omap (esd g es dn)) →
      (∀ q cs, lk (setAt m0 mp (.omap (esd g es dn))) q = some cs → lk mm q = some cs) → lk mm d = some [.miter mb es.length (dn ++ [i])] →
      xWp P C N body (fun xe e1 m1 => xe = .normal ∧ (∀ y w, lk e0 y = some w → lk e1 y = some w) ∧ lk e1 d = some (.rit ⟨d, 0, []⟩ mp mb) ∧ lk m1 d = some [.miter mb es.length (dn ++ [i])] ∧
        ∀ q cs, lk (setAt m0 mp (.omap (esd g es (dn ++ [i])))) q = some cs → lk m1 q = some cs) ee mm)
    : xWp P C N (mloop s x d t u b1 b2 live body) (fun xe e1 m1 => xe = .normal ∧ Tells e1 m1 e0 (setAt m0 mp (.omap (es.map fun kv => (kv.1, g kv.2))))) e m := by
  obtain ⟨hsd, htd, hud, htu⟩ := hdis
  refine xWp_seq (xWp_ops (xOps_op (out := (.rmp mp, m, .no)) (s := s) (by simp [aOp, ev1, evA, hx]) (xOps_cons (xItem_mrg (mp := mp) (es := es) (by simp [upd, evA, lk, killEnv]) hm hmd ?_))))
  intro mb
  refine xOps_nil ?_
  simp only [XQ.then]
  refine xWp_block ?_
  -- the states at the loop's head
  let E : Env := (d, .rit ⟨d, 0, []⟩ mp mb) :: e0
  let M : List Nat → Mem := fun dn => (d, [.miter mb es.length dn]) :: setAt m0 mp (.omap (esd g es dn))
  have hE : ∀ y w, lk e0 y = some w → lk E y = some w := by
    intro y w h
    simp only [E, lk]
    rw [if_neg (he0 y w h).2.2.1]
    exact h
  have hMs : ∀ dn q cs, lk (setAt m0 mp (.omap (esd g es dn))) q = some cs → q ≠ d := by
    intro dn q cs h
    rw [lk_setAt] at h
    split at h
    · rename_i hq; rw [hq]; exact hmd
    · exact (hms q cs h).2
  have hM : ∀ dn q cs, lk (setAt m0 mp (.omap (esd g es dn))) q = some cs → lk (M dn) q = some cs := by
    intro dn q cs h
    simp only [M, lk]
    rw [if_neg (hMs dn q cs h)]
    exact h
  have hMi : ∀ dn, getAt (M dn) ⟨d, 0, []⟩ = some (.miter mb es.length dn) := fun dn => by simp [M, getAt, lk, sub]
  have hMp : ∀ dn, getAt (M dn) mp = some (.omap (esd g es dn)) := by
    intro dn
    have := getAt_set_self hm0 (.omap (esd g es dn))
    simp only [M, getAt, lk, hmd, if_false] at this ⊢
    exact this
  refine xWp_loop (S := { dn : List Nat // dn.Nodup ∧ ∀ i ∈ dn, i < es.length }) (fun _ => E) (fun dn => M dn.1) (fun _ => True) (fun dn => es.length + 1 - dn.1.length) ⟨[], List.nodup_nil, by simp⟩ ?_ trivial ?_
  · -- the beginning
    refine tells_drop ?_ ?_
    · intro y w h
      simp only [E, lk] at h
      simp only [upd, lk]
      split at h
      · rename_i hy; cases h; rw [if_pos hy]
      · rename_i hy
        rw [if_neg hy]
        obtain ⟨k1, k2, k3, k4, k5, k6⟩ := he0 y w h
        rw [lk_killEnv]
        simp only [lk, if_neg k2, killEnv, k1]
        simp [Option.filter, k6]
    · intro q cs h
      simp only [M, lk] at h ⊢
      split at h
      · rename_i hq; rw [if_pos hq]; exact h
      · rename_i hq
        rw [if_neg hq]
        rw [esd_nil, setAt_self hm0] at h
        exact (hms q cs h).1
  · rintro ⟨dn, hnd, hlt⟩ _
    have hlen : dn.length ≤ es.length := by
      exact nodup_len hnd hlt
    refine xWp_seq (xWp_ops (xOps_cons (xItem_mnx (pl := ⟨d, 0, []⟩) (mp := mp) (mb := mb) (n := es.length) (dn := dn) (es := esd g es dn) (by simp [E, evA, lk]) (hMi dn) (hMp dn) (esd_length g es dn) ?_ ?_)))
    · intro i k v hi hni
      have hilt : i < es.length := by have := (List.getElem?_eq_some_iff.1 hi).1; rwa [esd_length] at this
      have hes : es[i]? = some (k, v) := by
        rw [esd_get] at hi
        simp only [Option.map_eq_some_iff] at hi
        obtain ⟨kv, h1, h2⟩ := hi
        rw [if_neg (by simpa using hni)] at h2
        rw [h1, h2]
      refine xOps_op (out := (.p (.bool true), setAt (M dn) ⟨d, 0, []⟩ (.miter mb es.length (dn ++ [i])), .no)) (s := u) (by simp [aOp, ev1, evA, lk, upd, killEnv, oExtract]) (xOps_nil ?_)
      simp only [XQ.then]
      refine xWp_seq (xWp_cond (b := true) (by simp [evA, lk, upd, killEnv]) ?_)
      refine xWp_skip ?_
      simp only [XQ.then]
      refine xWp_block ?_
      have hset : setAt (M dn) ⟨d, 0, []⟩ (.miter mb es.length (dn ++ [i])) = (d, [.miter mb es.length (dn ++ [i])]) :: M dn := by
        simp [setAt, M, lk, putSub]
      refine xWp_mono ?_ (hbody C mb dn i k v hes hni _ _ ?_ ?_ ?_ ?_ ?_ ?_)
      · rintro xe e1 m1 ⟨rfl, h1, h2, h3, h4⟩
        simp only [XQ.inBlock, XQ.then]
        refine ⟨⟨dn ++ [i], ?_, ?_⟩, tells_drop ?_ ?_, trivial, ?_⟩
        · rw [List.nodup_append]
          exact ⟨hnd, by simp, fun a ha b hb => by simp at hb; subst hb; exact fun e => hni (e ▸ ha)⟩
        · intro j hj
          rcases List.mem_append.1 hj with hj | hj
          · exact hlt j hj
          · simp at hj; subst hj; exact hilt
        · intro y w h
          simp only [E, lk] at h
          split at h
          · rename_i hy; cases h; rw [hy]; exact h2
          · exact h1 y w h
        · intro q cs h
          simp only [M, lk] at h
          split at h
          · rename_i hq; cases h; rw [hq]; exact h3
          · exact h4 q cs h
        · simp only [List.length_append, List.length_singleton]; omega
      · intro y w h
        obtain ⟨k1, k2, k3, k4, k5, k6⟩ := he0 y w h
        simp only [upd, killEnv, lk, if_neg k4, if_neg k5]
        exact hE y w h
      · simp [upd, killEnv, lk, E, Ne.symm hud, Ne.symm htd]
      · simp only [hset]; simp [getAt, lk, sub]
      · simp only [hset]
        have := hMp dn
        simp only [getAt, lk, hmd, if_false] at this ⊢
        exact this
      · intro q cs h
        simp only [hset, lk]
        rw [if_neg (hMs dn q cs h)]
        exact hM dn q cs h
      · simp only [hset]; simp [lk]
    · intro hall
      refine xOps_op (out := (.p (.bool false), M dn, .no)) (s := u) (by simp [aOp, ev1, evA, lk, upd, killEnv, oExtract]) (xOps_nil ?_)
      simp only [XQ.then]
      refine xWp_seq (xWp_cond (b := false) (by simp [evA, lk, upd, killEnv]) ?_)
      refine xWp_exit ?_
      simp only [XQ.then, XQ.inBlock, if_true]
      refine ⟨trivial, tells_drop ?_ ?_⟩
      · intro y w h
        obtain ⟨k1, k2, k3, k4, k5, k6⟩ := he0 y w h
        simp only [upd, killEnv, lk, if_neg k4, if_neg k5]
        exact hE y w h
      · intro q cs h
        rw [← esd_all g es dn hall] at h
        exact hM dn q cs h
/-- The state is told otherwise at the end. -/
theorem xWp_post {rc : RCode} {Q : XQ} {e : Env} {m : Mem} (h : xWp P C N rc (fun x e m => ∃ e' m', Tells e m e' m' ∧ Q x e' m') e m) : xWp P C N rc Q e m := by
  intro c hc G w a hr
  refine wpIn_mono (h c hc G w a hr) ?_
  intro ex a w hl
  cases ex <;> first | exact hl.elim | (obtain ⟨G, e, m, hr, e', m', ht, hq⟩ := hl; obtain ⟨G', hr'⟩ := hr.tell ht; exact ⟨G', e', m', hr', hq⟩)
end
end Go.Proofs.Ytnmnijgoggombaa.X
/- The hands' loops of 'united'. -/
namespace Go.Proofs.Ytnmnijgoggombaa.X
open Go.RowKit
/-- The body of a range over a map. -/
def bU1 : RCode := (.seq (.ops [⟨(some 51), (.op (.ment (.s 48))), none⟩, ⟨(some 52), (.op (.extract 0 (.s 51))), none⟩, ⟨(some 53), (.op (.extract 1 (.s 51))), none⟩, ⟨(some 12), (.op (.mv (.s 52))), none⟩, ⟨(some 13), (.op (.mv (.s 53))), none⟩]) (.seq (.ops [⟨(some 54), (.op (.mv (.s 13))), none⟩, ⟨(some 55), (.op (.mv (.s 10))), none⟩, ⟨(some 56), (.op (.mv (.s 11))), none⟩, ⟨(some 57), (.op (.minmax true [(.s 55), (.s 56)])), none⟩, ⟨(some 58), (.op (.bin .eql (.s 54) (.s 57))), none⟩]) (.cond (.s 58) (.ops [⟨(some 59), (.op (.mv (.s 5))), none⟩, ⟨(some 60), (.op (.mv (.s 12))), none⟩, ⟨(some 61), (.op (.mv (.s 10))), none⟩, ⟨(some 62), (.op (.mv (.s 11))), none⟩, ⟨(some 63), (.op (.minmax false [(.s 61), (.s 62)])), none⟩, ⟨none, (.op (.mapset [.i] (.s 59) (.s 60) (.s 63))), none⟩]) .skip)))
def bU2 : RCode := (.seq (.ops [⟨(some 51), (.op (.ment (.s 48))), none⟩, ⟨(some 52), (.op (.extract 0 (.s 51))), none⟩, ⟨(some 53), (.op (.extract 1 (.s 51))), none⟩, ⟨(some 12), (.op (.alloc [(.int .i64 0), (.int .i64 0)])), none⟩, ⟨none, (.op (.store 2 (.s 12) (.s 52))), none⟩, ⟨(some 13), (.op (.mv (.s 53))), none⟩]) (.seq (.ops [⟨(some 54), (.op (.mv (.s 13))), none⟩, ⟨(some 55), (.op (.mv (.s 10))), none⟩, ⟨(some 56), (.op (.mv (.s 11))), none⟩, ⟨(some 57), (.op (.minmax true [(.s 55), (.s 56)])), none⟩, ⟨(some 58), (.op (.bin .eql (.s 54) (.s 57))), none⟩]) (.cond (.s 58) (.ops [⟨(some 59), (.op (.mv (.s 5))), none⟩, ⟨(some 60), (.op (.load 2 true (.s 12))), none⟩, ⟨(some 61), (.op (.mv (.s 10))), none⟩, ⟨(some 62), (.op (.mv (.s 11))), none⟩, ⟨(some 63), (.op (.minmax false [(.s 61), (.s 62)])), none⟩, ⟨none, (.op (.mapset [.i, .i] (.s 59) (.s 60) (.s 63))), none⟩]) .skip)))
def bR1 : RCode := (.seq (.ops [⟨(some 93), (.op (.ment (.s 90))), none⟩, ⟨(some 94), (.op (.extract 0 (.s 93))), none⟩, ⟨(some 95), (.op (.extract 1 (.s 93))), none⟩, ⟨(some 19), (.op (.mv (.s 94))), none⟩, ⟨(some 20), (.op (.mv (.s 95))), none⟩]) (.ops [⟨(some 96), (.op (.mv (.s 5))), none⟩, ⟨(some 97), (.op (.mv (.s 19))), none⟩, ⟨(some 98), (.op (.mv (.s 14))), none⟩, ⟨(some 99), (.op (.mv (.s 20))), none⟩, ⟨(some 100), (.op (.lookup [.i] (.int .i64 0) false (.s 98) (.s 99))), none⟩, ⟨none, (.op (.mapset [.i] (.s 96) (.s 97) (.s 100))), none⟩]))
def bR2 : RCode := (.seq (.ops [⟨(some 93), (.op (.ment (.s 90))), none⟩, ⟨(some 94), (.op (.extract 0 (.s 93))), none⟩, ⟨(some 95), (.op (.extract 1 (.s 93))), none⟩, ⟨(some 19), (.op (.alloc [(.int .i64 0), (.int .i64 0)])), none⟩, ⟨none, (.op (.store 2 (.s 19) (.s 94))), none⟩, ⟨(some 20), (.op (.mv (.s 95))), none⟩]) (.ops [⟨(some 96), (.op (.mv (.s 5))), none⟩, ⟨(some 97), (.op (.load 2 true (.s 19))), none⟩, ⟨(some 98), (.op (.mv (.s 14))), none⟩, ⟨(some 99), (.op (.mv (.s 20))), none⟩, ⟨(some 100), (.op (.lookup [.i] (.int .i64 0) false (.s 98) (.s 99))), none⟩, ⟨none, (.op (.mapset [.i, .i] (.s 96) (.s 97) (.s 100))), none⟩]))
section
variable {P : Program} {C : Ctx} {N : Nat}
theorem noneOK : SigOK P (fun _ _ => none) := fun f ps t h => by cases h
theorem noneIOK : SigIOK P (fun _ _ => none) := fun f ps t bs h => by cases h
theorem uval_int (a b n : Int) : uval a b (.int .i64 n) = if n = (if b > a then b else a) then .int .i64 (if b < a then b else a) else .int .i64 n := rfl
theorem bU1_ok {e0 ee : Env} {mm m0 : Mem} {mp : Place} {mb i : Nat} {dn : List Nat} {es : List (PVal × PVal)} {k v : PVal} {a b n : Int}
    (hK : apartK [.i] es) (hv : v = .int .i64 n) (hmp : mp.s ≠ 48) (hm0 : getAt m0 mp = some (.omap es))
    (he0 : ∀ y w, lk e0 y = some w → u1.contains y = false) (h5 : lk e0 5 = some (.rmp mp)) (h10 : lk e0 10 = some (.p (.int .i64 a))) (h11 : lk e0 11 = some (.p (.int .i64 b)))
    (hi : es[i]? = some (k, v)) (hni : i ∉ dn) (hee : ∀ y w, lk e0 y = some w → lk ee y = some w) (hd : lk ee 48 = some (.rit ⟨48, 0, []⟩ mp mb))
    (hit : getAt mm ⟨48, 0, []⟩ = some (.miter mb es.length (dn ++ [i]))) (hmm : getAt mm mp = some (.omap (esd (uval a b) es dn)))
    (hms : ∀ q cs, lk (setAt m0 mp (.omap (esd (uval a b) es dn))) q = some cs → lk mm q = some cs) (hml : lk mm 48 = some [.miter mb es.length (dn ++ [i])]) :
    xWp P C N bU1 (fun xe e1 m1 => xe = .normal ∧ (∀ y w, lk e0 y = some w → lk e1 y = some w) ∧ lk e1 48 = some (.rit ⟨48, 0, []⟩ mp mb) ∧ lk m1 48 = some [.miter mb es.length (dn ++ [i])] ∧
        ∀ q cs, lk (setAt m0 mp (.omap (esd (uval a b) es (dn ++ [i])))) q = some cs → lk m1 q = some cs) ee mm := by
  subst hv
  let base : Env := (48, .rit ⟨48, 0, []⟩ mp mb) :: (5, .rmp mp) :: (10, .p (.int .i64 a)) :: (11, .p (.int .i64 b)) :: e0
  refine xWp_tell (e' := base) (m' := mm) (tells_drop ?_ fun _ _ h => h) ?_
  · intro y w h
    simp only [base, lk] at h
    split at h
    · rename_i hy; cases h; rw [hy]; exact hd
    split at h
    · rename_i hy; cases h; rw [hy]; exact hee 5 _ h5
    split at h
    · rename_i hy; cases h; rw [hy]; exact hee 10 _ h10
    split at h
    · rename_i hy; cases h; rw [hy]; exact hee 11 _ h11
    · exact hee y w h
  have hkv : (esd (uval a b) es dn)[i]? = some (k, .int .i64 n) := by rw [esd_get, hi]; simp [hni]
  unfold bU1
  refine xWp_seq (xWp_ops (xOps_cons (xItem_ment (pl := ⟨48, 0, []⟩) (mp := mp) (mb := mb) rfl hit hmm (esd_length _ _ _) hkv ?_)))
  refine xOps_op (s := 52) rfl (xOps_op (s := 53) rfl (xOps_op (s := 12) rfl (xOps_op (s := 13) rfl (xOps_nil ?_))))
  simp only [XQ.then]
  refine xWp_seq (xWp_ops (xOps_op (s := 54) rfl (xOps_op (s := 55) rfl (xOps_op (s := 56) rfl (xOps_op (s := 57) rfl (xOps_op (s := 58) rfl (xOps_nil ?_)))))))
  simp only [XQ.then]
  have hne : ∀ {y w}, lk e0 y = some w → ∀ d ∈ u1, y ≠ d := fun {y w} hw d hd e => by
    subst e
    have := he0 y w hw
    simp [List.contains_eq_mem, hd] at this
  have hbase : ∀ y w, lk e0 y = some w → lk base y = some w := by
    intro y w h
    simp only [base, lk]
    rw [if_neg (hne h 48 (by decide))]
    split
    · rename_i hy; rw [hy, h5] at h; exact h
    split
    · rename_i hy; rw [hy, h10] at h; exact h
    split
    · rename_i hy; rw [hy, h11] at h; exact h
    · exact h
  have skip : ∀ {y : Nat} {d : Nat} {v : AVal} {e : Env}, y ≠ d → lk ((d, v) :: e) y = lk e y := fun h => by simp only [lk]; rw [if_neg h]
  have hlen : i < (esd (uval a b) es dn).length := by rw [esd_length]; exact (List.getElem?_eq_some_iff.1 hi).1
  refine xWp_cond (b := (n == if b > a then b else a)) rfl ?_
  cases hB : (n == if b > a then b else a) with
  | false =>
    simp only [Bool.false_eq_true, if_false]
    refine xWp_skip ⟨rfl, ?_, rfl, hml, ?_⟩
    · intro y w h
      have hn := hne h
      simp only [upd, killEnv]
      rw [skip (hn 58 (by decide)), skip (hn 57 (by decide)), skip (hn 56 (by decide)), skip (hn 55 (by decide)), skip (hn 54 (by decide)), skip (hn 13 (by decide)), skip (hn 12 (by decide)), skip (hn 53 (by decide)), skip (hn 52 (by decide)), skip (hn 51 (by decide))]
      exact hbase y w h
    · rw [← esd_keep (uval a b) es dn hi (by rw [uval_int, if_neg (by simpa using hB)])]
      exact hms
  | true =>
    have hB' : n = if b > a then b else a := by simpa using hB
    have hset : oMapset [.i] mm (.rmp mp) (.p k) (.p (.int .i64 (if b < a then b else a))) = some (.p (.tup []), setAt mm mp (.omap (esd (uval a b) es (dn ++ [i]))), .no) := by
      have hkk := hK i i _ _ hi hi
      simp only [oMapset, hmm]
      rw [hkk]
      simp only
      rw [mapPut_at hlen (fun j c hc => by
        rw [esd_get] at hc
        simp only [Option.map_eq_some_iff] at hc
        obtain ⟨kv, g1, rfl⟩ := hc
        have := hK i j _ _ hi g1
        split <;> exact this)]
      have : (esd (uval a b) es dn).set i (k, .int .i64 (if b < a then b else a)) = esd (uval a b) es (dn ++ [i]) := by
        rw [← esd_set (uval a b) es dn hi, uval_int, if_pos hB']
      rw [this]
      rfl
    simp only [if_true]
    refine xWp_ops (xOps_op (s := 59) rfl (xOps_op (s := 60) rfl (xOps_op (s := 61) rfl (xOps_op (s := 62) rfl (xOps_op (s := 63) rfl (xOps_op (s := 0) (out := (.p (.tup []), setAt mm mp (.omap (esd (uval a b) es (dn ++ [i]))), .no)) hset (xOps_nil ?_)))))))
    refine ⟨rfl, ?_, rfl, ?_, ?_⟩
    · intro y w h
      have hn := hne h
      simp only [upd, killEnv]
      rw [skip (hn 63 (by decide)), skip (hn 62 (by decide)), skip (hn 61 (by decide)), skip (hn 60 (by decide)), skip (hn 59 (by decide)), skip (hn 58 (by decide)), skip (hn 57 (by decide)), skip (hn 56 (by decide)), skip (hn 55 (by decide)), skip (hn 54 (by decide)), skip (hn 13 (by decide)), skip (hn 12 (by decide)), skip (hn 53 (by decide)), skip (hn 52 (by decide)), skip (hn 51 (by decide))]
      exact hbase y w h
    · simp only
      rw [lk_setAt, if_neg (Ne.symm hmp)]
      exact hml
    · intro q cs h
      simp only
      have hself : lk (setAt (setAt m0 mp (.omap (esd (uval a b) es dn))) mp (.omap (esd (uval a b) es (dn ++ [i])))) q = some cs := by rw [set_set_lk]; exact h
      rw [lk_setAt] at hself ⊢
      split at hself
      · rename_i hq
        simp only [Option.map_eq_some_iff] at hself
        obtain ⟨cs0, g1, g2⟩ := hself
        rw [if_pos hq, hms q cs0 g1]
        simp [g2]
      · rename_i hq
        rw [if_neg hq]
        exact hms q cs hself
theorem tells_kill {d : Nat} {v : AVal} {e e2 : Env} {m : Mem} (h : ∀ y w, lk e2 y = some w → y ≠ d → lk e y = some w ∧ w.ment (Kill.site d).fn = false) : Tells ((d, v) :: killEnv (.site d) e) m ((d, v) :: e2) m := by
  refine tells_drop ?_ (fun _ _ h => h)
  intro y w hy
  simp only [lk] at hy ⊢
  split at hy
  · rename_i hd; rw [if_pos hd]; exact hy
  · rename_i hd
    rw [if_neg hd]
    obtain ⟨h1, h2⟩ := h y w hy hd
    rw [lk_killEnv, h1]
    simp [Option.filter, h2]
theorem bU2_ok {e0 ee : Env} {mm m0 : Mem} {mp : Place} {mb i : Nat} {dn : List Nat} {es : List (PVal × PVal)} {k v : PVal} {a b n : Int}
    (hK : apartK [.i, .i] es) (hv : v = .int .i64 n) (hkp : pairV k = true) (hmp : mp.s ≠ 48) (hmp2 : mp.s ≠ 12) (ho12 : ∀ y w, lk e0 y = some w → w.ment (Kill.site 12).fn = false) (hm12 : ∀ q cs, lk m0 q = some cs → q ≠ 12)
    (he0 : ∀ y w, lk e0 y = some w → u1.contains y = false) (h5 : lk e0 5 = some (.rmp mp)) (h10 : lk e0 10 = some (.p (.int .i64 a))) (h11 : lk e0 11 = some (.p (.int .i64 b)))
    (hi : es[i]? = some (k, v)) (hni : i ∉ dn) (hee : ∀ y w, lk e0 y = some w → lk ee y = some w) (hd : lk ee 48 = some (.rit ⟨48, 0, []⟩ mp mb))
    (hit : getAt mm ⟨48, 0, []⟩ = some (.miter mb es.length (dn ++ [i]))) (hmm : getAt mm mp = some (.omap (esd (uval a b) es dn)))
    (hms : ∀ q cs, lk (setAt m0 mp (.omap (esd (uval a b) es dn))) q = some cs → lk mm q = some cs) (hml : lk mm 48 = some [.miter mb es.length (dn ++ [i])]) :
    xWp P C N bU2 (fun xe e1 m1 => xe = .normal ∧ (∀ y w, lk e0 y = some w → lk e1 y = some w) ∧ lk e1 48 = some (.rit ⟨48, 0, []⟩ mp mb) ∧ lk m1 48 = some [.miter mb es.length (dn ++ [i])] ∧
        ∀ q cs, lk (setAt m0 mp (.omap (esd (uval a b) es (dn ++ [i])))) q = some cs → lk m1 q = some cs) ee mm := by
  subst hv
  obtain ⟨k1, p, k2, q, rfl⟩ : ∃ k1 p k2 q, k = .agg [.int k1 p, .int k2 q] := by
    unfold pairV at hkp
    split at hkp
    · exact ⟨_, _, _, _, rfl⟩
    · cases hkp
  let base : Env := (48, .rit ⟨48, 0, []⟩ mp mb) :: (5, .rmp mp) :: (10, .p (.int .i64 a)) :: (11, .p (.int .i64 b)) :: e0
  refine xWp_tell (e' := base) (m' := mm) (tells_drop ?_ fun _ _ h => h) ?_
  · intro y w h
    simp only [base, lk] at h
    split at h
    · rename_i hy; cases h; rw [hy]; exact hd
    split at h
    · rename_i hy; cases h; rw [hy]; exact hee 5 _ h5
    split at h
    · rename_i hy; cases h; rw [hy]; exact hee 10 _ h10
    split at h
    · rename_i hy; cases h; rw [hy]; exact hee 11 _ h11
    · exact hee y w h
  have hkv : (esd (uval a b) es dn)[i]? = some (.agg [.int k1 p, .int k2 q], .int .i64 n) := by rw [esd_get, hi]; simp [hni]
  have hne : ∀ {y w}, lk e0 y = some w → ∀ d ∈ u1, y ≠ d := fun {y w} hw d hd e => by
    subst e
    have := he0 y w hw
    simp [List.contains_eq_mem, hd] at this
  have hbase : ∀ y w, lk e0 y = some w → lk base y = some w := by
    intro y w h
    simp only [base, lk]
    rw [if_neg (hne h 48 (by decide))]
    split
    · rename_i hy; rw [hy, h5] at h; exact h
    split
    · rename_i hy; rw [hy, h10] at h; exact h
    split
    · rename_i hy; rw [hy, h11] at h; exact h
    · exact h
  have skip : ∀ {y : Nat} {d : Nat} {v : AVal} {e : Env}, y ≠ d → lk ((d, v) :: e) y = lk e y := fun h => by simp only [lk]; rw [if_neg h]
  have hlen : i < (esd (uval a b) es dn).length := by rw [esd_length]; exact (List.getElem?_eq_some_iff.1 hi).1
  unfold bU2
  refine xWp_seq (xWp_ops (xOps_cons (xItem_ment (pl := ⟨48, 0, []⟩) (mp := mp) (mb := mb) rfl hit hmm (esd_length _ _ _) hkv ?_)))
  refine xOps_op (s := 52) rfl (xOps_op (s := 53) rfl (xOps_op (s := 12) rfl ?_))
  refine xOps_tell (e' := (12, .rpt ⟨12, 0, []⟩ 0 0) :: (53, .p (.int .i64 n)) :: (52, .p (.agg [.int k1 p, .int k2 q])) :: base) (tells_kill ?_) ?_
  · intro y w hy hy12
    simp only [lk] at hy
    split at hy
    · rename_i h; subst h; cases hy; exact ⟨rfl, rfl⟩
    split at hy
    · rename_i h1 h; subst h; cases hy; exact ⟨rfl, rfl⟩
    rename_i h53 h52
    have : w.ment (Kill.site 12).fn = false := by
      simp only [base, lk] at hy
      split at hy
      · cases hy; simp [AVal.ment, Kill.fn, hmp2]
      split at hy
      · cases hy; simp [AVal.ment, Kill.fn, hmp2]
      split at hy
      · cases hy; rfl
      split at hy
      · cases hy; rfl
      · exact ho12 y w hy
    refine ⟨?_, this⟩
    simp only [upd, killEnv, lk, if_neg h53, if_neg h52]
    split
    · rename_i h51
      exfalso
      subst h51
      simp only [base, lk] at hy
      have := hne hy 51 (by decide)
      exact this rfl
    · exact hy
  have hget12 : ∀ X : List AVal, getAt ((12, X) :: mm) mp = getAt mm mp := fun X => by simp only [getAt, lk, if_neg hmp2]
  refine xOps_op (s := 0) rfl (xOps_tell (e' := (12, .rpt ⟨12, 0, []⟩ 0 0) :: (53, .p (.int .i64 n)) :: (52, .p (.agg [.int k1 p, .int k2 q])) :: base)
    (m' := (12, [.own true 2 [[.p (.int k1 p), .p (.int k2 q)]]]) :: mm) (tells_drop (fun _ _ h => h) ?_) ?_)
  · intro s cs h
    by_cases hq : s = 12
    · subst hq; exact h
    · simp only [lk, if_neg hq] at h
      change lk ((12, _) :: (12, _) :: mm) s = some cs
      simp only [lk, if_neg hq]
      exact h
  refine xOps_op (s := 13) rfl (xOps_nil ?_)
  simp only [XQ.then]
  refine xWp_seq (xWp_ops (xOps_op (s := 54) rfl (xOps_op (s := 55) rfl (xOps_op (s := 56) rfl (xOps_op (s := 57) rfl (xOps_op (s := 58) rfl (xOps_nil ?_)))))))
  simp only [XQ.then]
  refine xWp_cond (b := (n == if b > a then b else a)) rfl ?_
  have hm0ne : ∀ X q cs, lk (setAt m0 mp X) q = some cs → q ≠ 12 := by
    intro X q cs h
    rw [lk_setAt] at h
    split at h
    · rename_i hq; rw [hq]; exact hmp2
    · exact hm12 q cs h
  cases hB : (n == if b > a then b else a) with
  | false =>
    simp only [Bool.false_eq_true, if_false]
    refine xWp_skip ⟨rfl, ?_, rfl, hml, ?_⟩
    · intro y w h
      have hn := hne h
      simp only [upd, killEnv]
      rw [skip (hn 58 (by decide)), skip (hn 57 (by decide)), skip (hn 56 (by decide)), skip (hn 55 (by decide)), skip (hn 54 (by decide)), skip (hn 13 (by decide)), skip (hn 12 (by decide)), skip (hn 53 (by decide)), skip (hn 52 (by decide))]
      exact hbase y w h
    · rw [← esd_keep (uval a b) es dn hi (by rw [uval_int, if_neg (by simpa using hB)])]
      intro s cs h
      simp only [lk]
      rw [if_neg (hm0ne _ s cs h)]
      exact hms s cs h
  | true =>
    have hB' : n = if b > a then b else a := by simpa using hB
    let mm2 : Mem := (12, [.own true 2 [[.p (.int k1 p), .p (.int k2 q)]]]) :: mm
    have hset : oMapset [.i, .i] mm2 (.rmp mp) (.p (.agg [.int k1 p, .int k2 q])) (.p (.int .i64 (if b < a then b else a))) = some (.p (.tup []), setAt mm2 mp (.omap (esd (uval a b) es (dn ++ [i]))), .no) := by
      have hkk := hK i i _ _ hi hi
      simp only [oMapset, mm2, hget12, hmm]
      rw [hkk]
      simp only
      rw [mapPut_at hlen (fun j c hc => by
        rw [esd_get] at hc
        simp only [Option.map_eq_some_iff] at hc
        obtain ⟨kv, g1, rfl⟩ := hc
        have := hK i j _ _ hi g1
        split <;> exact this)]
      have : (esd (uval a b) es dn).set i (.agg [.int k1 p, .int k2 q], .int .i64 (if b < a then b else a)) = esd (uval a b) es (dn ++ [i]) := by
        rw [← esd_set (uval a b) es dn hi, uval_int, if_pos hB']
      rw [this]
      rfl
    simp only [if_true]
    refine xWp_ops (xOps_op (s := 59) rfl (xOps_op (s := 60) (out := (.p (.agg [.int k1 p, .int k2 q]), mm2, .no)) rfl (xOps_op (s := 61) rfl (xOps_op (s := 62) rfl (xOps_op (s := 63) rfl (xOps_op (s := 0) (out := (.p (.tup []), setAt mm2 mp (.omap (esd (uval a b) es (dn ++ [i]))), .no)) hset (xOps_nil ?_)))))))
    refine ⟨rfl, ?_, rfl, ?_, ?_⟩
    · intro y w h
      have hn := hne h
      simp only [upd, killEnv]
      rw [skip (hn 63 (by decide)), skip (hn 62 (by decide)), skip (hn 61 (by decide)), skip (hn 60 (by decide)), skip (hn 59 (by decide)), skip (hn 58 (by decide)), skip (hn 57 (by decide)), skip (hn 56 (by decide)), skip (hn 55 (by decide)), skip (hn 54 (by decide)), skip (hn 13 (by decide)), skip (hn 12 (by decide)), skip (hn 53 (by decide)), skip (hn 52 (by decide))]
      exact hbase y w h
    · simp only
      rw [lk_setAt, if_neg (Ne.symm hmp)]
      exact hml
    · intro s cs h
      simp only
      have hs12 := hm0ne _ s cs h
      have hself : lk (setAt (setAt m0 mp (.omap (esd (uval a b) es dn))) mp (.omap (esd (uval a b) es (dn ++ [i])))) s = some cs := by rw [set_set_lk]; exact h
      have hmm2 : ∀ cs0, lk (setAt m0 mp (.omap (esd (uval a b) es dn))) s = some cs0 → lk mm2 s = some cs0 := fun cs0 h0 => by
        simp only [mm2, lk]
        rw [if_neg hs12]
        exact hms s cs0 h0
      rw [lk_setAt] at hself ⊢
      split at hself
      · rename_i hq
        simp only [Option.map_eq_some_iff] at hself
        obtain ⟨cs0, g1, g2⟩ := hself
        rw [if_pos hq, hmm2 cs0 g1]
        simp [g2]
      · rename_i hq
        rw [if_neg hq]
        exact hmm2 cs hself
/-- What a number's entry says. -/
def rval (ns : List (PVal × PVal)) (v : PVal) : PVal := ((mapGet [.i] ns v).getD none).getD (.int .i64 0)
theorem mapGet_int {n : Int} : ∀ {ns : List (PVal × PVal)}, (ns.all fun x => (intV x.1).isSome) = true → ∃ r, mapGet [.i] ns (.int .i64 n) = some r := by
  intro ns
  induction ns with
  | nil => intro _; exact ⟨none, rfl⟩
  | cons x ns ih =>
    intro h
    simp only [List.all_cons, Bool.and_eq_true] at h
    obtain ⟨r, hr⟩ := ih h.2
    obtain ⟨k, hk⟩ := Option.isSome_iff_exists.1 h.1
    have : x.1 = .int .i64 k := by
      unfold intV at hk
      split at hk
      · rename_i h; cases hk; exact h
      · cases hk
    simp only [mapGet, this, keyEq, cellEq, if_true, hr, Option.bind_some, Option.map_some]
    exact ⟨_, rfl⟩
theorem lookup_r {mm : Mem} {mq : Place} {ns : List (PVal × PVal)} {n : Int} (hns : (ns.all fun x => (intV x.1).isSome) = true) (hq : getAt mm mq = some (.omap ns)) :
    oLookup [.i] (.int .i64 0) false mm (.rmp mq) (.p (.int .i64 n)) = some (.p (rval ns (.int .i64 n)), mm, .no) := by
  obtain ⟨r, hr⟩ := mapGet_int (n := n) hns
  simp only [oLookup, entriesOf, hq, hr, keyEq, cellEq, if_true, rval, Option.getD_some]
  rfl
theorem bR1_ok {e0 ee : Env} {mm m0 : Mem} {mp mq : Place} {mb i : Nat} {dn : List Nat} {es ns : List (PVal × PVal)} {k v : PVal} {n : Int}
    (hK : apartK [.i] es) (hv : v = .int .i64 n) (hmp : mp.s ≠ 90) (hmpq : mp.s ≠ mq.s) (hns : (ns.all fun x => (intV x.1).isSome) = true) (hq0 : getAt m0 mq = some (.omap ns))
    (he0 : ∀ y w, lk e0 y = some w → r1.contains y = false) (h5 : lk e0 5 = some (.rmp mp)) (h14 : lk e0 14 = some (.rmp mq))
    (hi : es[i]? = some (k, v)) (hni : i ∉ dn) (hee : ∀ y w, lk e0 y = some w → lk ee y = some w) (hd : lk ee 90 = some (.rit ⟨90, 0, []⟩ mp mb))
    (hit : getAt mm ⟨90, 0, []⟩ = some (.miter mb es.length (dn ++ [i]))) (hmm : getAt mm mp = some (.omap (esd (rval ns) es dn)))
    (hms : ∀ q cs, lk (setAt m0 mp (.omap (esd (rval ns) es dn))) q = some cs → lk mm q = some cs) (hml : lk mm 90 = some [.miter mb es.length (dn ++ [i])]) :
    xWp P C N bR1 (fun xe e1 m1 => xe = .normal ∧ (∀ y w, lk e0 y = some w → lk e1 y = some w) ∧ lk e1 90 = some (.rit ⟨90, 0, []⟩ mp mb) ∧ lk m1 90 = some [.miter mb es.length (dn ++ [i])] ∧
        ∀ q cs, lk (setAt m0 mp (.omap (esd (rval ns) es (dn ++ [i])))) q = some cs → lk m1 q = some cs) ee mm := by
  subst hv
  let base : Env := (90, .rit ⟨90, 0, []⟩ mp mb) :: (5, .rmp mp) :: (14, .rmp mq) :: e0
  refine xWp_tell (e' := base) (m' := mm) (tells_drop ?_ fun _ _ h => h) ?_
  · intro y w h
    simp only [base, lk] at h
    split at h
    · rename_i hy; cases h; rw [hy]; exact hd
    split at h
    · rename_i hy; cases h; rw [hy]; exact hee 5 _ h5
    split at h
    · rename_i hy; cases h; rw [hy]; exact hee 14 _ h14
    · exact hee y w h
  have hkv : (esd (rval ns) es dn)[i]? = some (k, .int .i64 n) := by rw [esd_get, hi]; simp [hni]
  have hne : ∀ {y w}, lk e0 y = some w → ∀ d ∈ r1, y ≠ d := fun {y w} hw d hd e => by
    subst e
    have := he0 y w hw
    simp [List.contains_eq_mem, hd] at this
  have hbase : ∀ y w, lk e0 y = some w → lk base y = some w := by
    intro y w h
    simp only [base, lk]
    rw [if_neg (hne h 90 (by decide))]
    split
    · rename_i hy; rw [hy, h5] at h; exact h
    split
    · rename_i hy; rw [hy, h14] at h; exact h
    · exact h
  have skip : ∀ {y : Nat} {d : Nat} {v : AVal} {e : Env}, y ≠ d → lk ((d, v) :: e) y = lk e y := fun h => by simp only [lk]; rw [if_neg h]
  have hlen : i < (esd (rval ns) es dn).length := by rw [esd_length]; exact (List.getElem?_eq_some_iff.1 hi).1
  have hq : getAt mm mq = some (.omap ns) := by
    simp only [getAt, Option.bind_eq_some_iff] at hq0 ⊢
    obtain ⟨cs, g1, g2⟩ := hq0
    exact ⟨cs, hms _ _ (by rw [lk_setAt, if_neg (Ne.symm hmpq)]; exact g1), g2⟩
  have hset : oMapset [.i] mm (.rmp mp) (.p k) (.p (rval ns (.int .i64 n))) = some (.p (.tup []), setAt mm mp (.omap (esd (rval ns) es (dn ++ [i]))), .no) := by
    have hkk := hK i i _ _ hi hi
    simp only [oMapset, hmm]
    rw [hkk]
    simp only
    rw [mapPut_at hlen (fun j c hc => by
      rw [esd_get] at hc
      simp only [Option.map_eq_some_iff] at hc
      obtain ⟨kv, g1, rfl⟩ := hc
      have := hK i j _ _ hi g1
      split <;> exact this)]
    rw [esd_set (rval ns) es dn hi]
    rfl
  unfold bR1
  refine xWp_seq (xWp_ops (xOps_cons (xItem_ment (pl := ⟨90, 0, []⟩) (mp := mp) (mb := mb) rfl hit hmm (esd_length _ _ _) hkv ?_)))
  refine xOps_op (s := 94) rfl (xOps_op (s := 95) rfl (xOps_op (s := 19) rfl (xOps_op (s := 20) rfl (xOps_nil ?_))))
  simp only [XQ.then]
  refine xWp_ops (xOps_op (s := 96) rfl (xOps_op (s := 97) rfl (xOps_op (s := 98) rfl (xOps_op (s := 99) rfl (xOps_op (s := 100) (out := (.p (rval ns (.int .i64 n)), mm, .no)) (lookup_r hns hq) (xOps_op (s := 0) (out := (.p (.tup []), setAt mm mp (.omap (esd (rval ns) es (dn ++ [i]))), .no)) hset (xOps_nil ?_)))))))
  refine ⟨rfl, ?_, rfl, ?_, ?_⟩
  · intro y w h
    have hn := hne h
    simp only [upd, killEnv]
    rw [skip (hn 100 (by decide)), skip (hn 99 (by decide)), skip (hn 98 (by decide)), skip (hn 97 (by decide)), skip (hn 96 (by decide)), skip (hn 20 (by decide)), skip (hn 19 (by decide)), skip (hn 95 (by decide)), skip (hn 94 (by decide)), skip (hn 93 (by decide))]
    exact hbase y w h
  · simp only
    rw [lk_setAt, if_neg (Ne.symm hmp)]
    exact hml
  · intro q cs h
    simp only
    have hself : lk (setAt (setAt m0 mp (.omap (esd (rval ns) es dn))) mp (.omap (esd (rval ns) es (dn ++ [i])))) q = some cs := by rw [set_set_lk]; exact h
    rw [lk_setAt] at hself ⊢
    split at hself
    · rename_i hq
      simp only [Option.map_eq_some_iff] at hself
      obtain ⟨cs0, g1, g2⟩ := hself
      rw [if_pos hq, hms q cs0 g1]
      simp [g2]
    · rename_i hq
      rw [if_neg hq]
      exact hms q cs hself
theorem bR2_ok {e0 ee : Env} {mm m0 : Mem} {mp mq : Place} {mb i : Nat} {dn : List Nat} {es ns : List (PVal × PVal)} {k v : PVal} {n : Int}
    (hK : apartK [.i, .i] es) (hv : v = .int .i64 n) (hkp : pairV k = true) (hmp : mp.s ≠ 90) (hmp2 : mp.s ≠ 19) (hmq2 : mq.s ≠ 19) (ho19 : ∀ y w, lk e0 y = some w → w.ment (Kill.site 19).fn = false) (hm19 : ∀ q cs, lk m0 q = some cs → q ≠ 19)
    (hmpq : mp.s ≠ mq.s) (hns : (ns.all fun x => (intV x.1).isSome) = true) (hq0 : getAt m0 mq = some (.omap ns))
    (he0 : ∀ y w, lk e0 y = some w → r1.contains y = false) (h5 : lk e0 5 = some (.rmp mp)) (h14 : lk e0 14 = some (.rmp mq))
    (hi : es[i]? = some (k, v)) (hni : i ∉ dn) (hee : ∀ y w, lk e0 y = some w → lk ee y = some w) (hd : lk ee 90 = some (.rit ⟨90, 0, []⟩ mp mb))
    (hit : getAt mm ⟨90, 0, []⟩ = some (.miter mb es.length (dn ++ [i]))) (hmm : getAt mm mp = some (.omap (esd (rval ns) es dn)))
    (hms : ∀ q cs, lk (setAt m0 mp (.omap (esd (rval ns) es dn))) q = some cs → lk mm q = some cs) (hml : lk mm 90 = some [.miter mb es.length (dn ++ [i])]) :
    xWp P C N bR2 (fun xe e1 m1 => xe = .normal ∧ (∀ y w, lk e0 y = some w → lk e1 y = some w) ∧ lk e1 90 = some (.rit ⟨90, 0, []⟩ mp mb) ∧ lk m1 90 = some [.miter mb es.length (dn ++ [i])] ∧
        ∀ q cs, lk (setAt m0 mp (.omap (esd (rval ns) es (dn ++ [i])))) q = some cs → lk m1 q = some cs) ee mm := by
  subst hv
  obtain ⟨k1, p, k2, q, rfl⟩ : ∃ k1 p k2 q, k = .agg [.int k1 p, .int k2 q] := by
    unfold pairV at hkp
    split at hkp
    · exact ⟨_, _, _, _, rfl⟩
    · cases hkp
  let base : Env := (90, .rit ⟨90, 0, []⟩ mp mb) :: (5, .rmp mp) :: (14, .rmp mq) :: e0
  refine xWp_tell (e' := base) (m' := mm) (tells_drop ?_ fun _ _ h => h) ?_
  · intro y w h
    simp only [base, lk] at h
    split at h
    · rename_i hy; cases h; rw [hy]; exact hd
    split at h
    · rename_i hy; cases h; rw [hy]; exact hee 5 _ h5
    split at h
    · rename_i hy; cases h; rw [hy]; exact hee 14 _ h14
    · exact hee y w h
  have hkv : (esd (rval ns) es dn)[i]? = some (.agg [.int k1 p, .int k2 q], .int .i64 n) := by rw [esd_get, hi]; simp [hni]
  have hne : ∀ {y w}, lk e0 y = some w → ∀ d ∈ r1, y ≠ d := fun {y w} hw d hd e => by
    subst e
    have := he0 y w hw
    simp [List.contains_eq_mem, hd] at this
  have hbase : ∀ y w, lk e0 y = some w → lk base y = some w := by
    intro y w h
    simp only [base, lk]
    rw [if_neg (hne h 90 (by decide))]
    split
    · rename_i hy; rw [hy, h5] at h; exact h
    split
    · rename_i hy; rw [hy, h14] at h; exact h
    · exact h
  have skip : ∀ {y : Nat} {d : Nat} {v : AVal} {e : Env}, y ≠ d → lk ((d, v) :: e) y = lk e y := fun h => by simp only [lk]; rw [if_neg h]
  have hlen : i < (esd (rval ns) es dn).length := by rw [esd_length]; exact (List.getElem?_eq_some_iff.1 hi).1
  have hq : getAt mm mq = some (.omap ns) := by
    simp only [getAt, Option.bind_eq_some_iff] at hq0 ⊢
    obtain ⟨cs, g1, g2⟩ := hq0
    exact ⟨cs, hms _ _ (by rw [lk_setAt, if_neg (Ne.symm hmpq)]; exact g1), g2⟩
  let mm2 : Mem := (19, [.own true 2 [[.p (.int k1 p), .p (.int k2 q)]]]) :: mm
  have hget19 : getAt mm2 mp = getAt mm mp := by simp only [mm2, getAt, lk, if_neg hmp2]
  have hgetq : getAt mm2 mq = some (.omap ns) := by rw [← hq]; simp only [mm2, getAt, lk, if_neg hmq2]
  have hm0ne : ∀ X q cs, lk (setAt m0 mp X) q = some cs → q ≠ 19 := by
    intro X q cs h
    rw [lk_setAt] at h
    split at h
    · rename_i hq; rw [hq]; exact hmp2
    · exact hm19 q cs h
  have hset : oMapset [.i, .i] mm2 (.rmp mp) (.p (.agg [.int k1 p, .int k2 q])) (.p (rval ns (.int .i64 n))) = some (.p (.tup []), setAt mm2 mp (.omap (esd (rval ns) es (dn ++ [i]))), .no) := by
    have hkk := hK i i _ _ hi hi
    simp only [oMapset, hget19, hmm]
    rw [hkk]
    simp only
    rw [mapPut_at hlen (fun j c hc => by
      rw [esd_get] at hc
      simp only [Option.map_eq_some_iff] at hc
      obtain ⟨kv, g1, rfl⟩ := hc
      have := hK i j _ _ hi g1
      split <;> exact this)]
    rw [esd_set (rval ns) es dn hi]
    rfl
  unfold bR2
  refine xWp_seq (xWp_ops (xOps_cons (xItem_ment (pl := ⟨90, 0, []⟩) (mp := mp) (mb := mb) rfl hit hmm (esd_length _ _ _) hkv ?_)))
  refine xOps_op (s := 94) rfl (xOps_op (s := 95) rfl (xOps_op (s := 19) rfl ?_))
  refine xOps_tell (e' := (19, .rpt ⟨19, 0, []⟩ 0 0) :: (95, .p (.int .i64 n)) :: (94, .p (.agg [.int k1 p, .int k2 q])) :: base) (tells_kill ?_) ?_
  · intro y w hy hy19
    simp only [lk] at hy
    split at hy
    · rename_i h; subst h; cases hy; exact ⟨rfl, rfl⟩
    split at hy
    · rename_i h1 h; subst h; cases hy; exact ⟨rfl, rfl⟩
    rename_i h95 h94
    have : w.ment (Kill.site 19).fn = false := by
      simp only [base, lk] at hy
      split at hy
      · cases hy; simp [AVal.ment, Kill.fn, hmp2]
      split at hy
      · cases hy; simp [AVal.ment, Kill.fn, hmp2]
      split at hy
      · cases hy; simp [AVal.ment, Kill.fn, hmq2]
      · exact ho19 y w hy
    refine ⟨?_, this⟩
    simp only [upd, killEnv, lk, if_neg h95, if_neg h94]
    split
    · rename_i h93
      exfalso
      subst h93
      simp only [base, lk] at hy
      have := hne hy 93 (by decide)
      exact this rfl
    · exact hy
  refine xOps_op (s := 0) rfl (xOps_tell (e' := (19, .rpt ⟨19, 0, []⟩ 0 0) :: (95, .p (.int .i64 n)) :: (94, .p (.agg [.int k1 p, .int k2 q])) :: base)
    (m' := mm2) (tells_drop (fun _ _ h => h) ?_) ?_)
  · intro s cs h
    by_cases hq : s = 19
    · subst hq; exact h
    · simp only [mm2, lk, if_neg hq] at h
      change lk ((19, _) :: (19, _) :: mm) s = some cs
      simp only [lk, if_neg hq]
      exact h
  refine xOps_op (s := 20) rfl (xOps_nil ?_)
  simp only [XQ.then]
  refine xWp_ops (xOps_op (s := 96) rfl (xOps_op (s := 97) (out := (.p (.agg [.int k1 p, .int k2 q]), mm2, .no)) rfl (xOps_op (s := 98) rfl (xOps_op (s := 99) rfl (xOps_op (s := 100) (out := (.p (rval ns (.int .i64 n)), mm2, .no)) (lookup_r hns hgetq) (xOps_op (s := 0) (out := (.p (.tup []), setAt mm2 mp (.omap (esd (rval ns) es (dn ++ [i]))), .no)) hset (xOps_nil ?_)))))))
  refine ⟨rfl, ?_, rfl, ?_, ?_⟩
  · intro y w h
    have hn := hne h
    simp only [upd, killEnv]
    rw [skip (hn 100 (by decide)), skip (hn 99 (by decide)), skip (hn 98 (by decide)), skip (hn 97 (by decide)), skip (hn 96 (by decide)), skip (hn 20 (by decide)), skip (hn 19 (by decide)), skip (hn 95 (by decide)), skip (hn 94 (by decide))]
    exact hbase y w h
  · simp only
    rw [lk_setAt, if_neg (Ne.symm hmp)]
    exact hml
  · intro s cs h
    simp only
    have hs19 := hm0ne _ s cs h
    have hself : lk (setAt (setAt m0 mp (.omap (esd (rval ns) es dn))) mp (.omap (esd (rval ns) es (dn ++ [i])))) s = some cs := by rw [set_set_lk]; exact h
    have hmm2 : ∀ cs0, lk (setAt m0 mp (.omap (esd (rval ns) es dn))) s = some cs0 → lk mm2 s = some cs0 := fun cs0 h0 => by
      simp only [mm2, lk]
      rw [if_neg hs19]
      exact hms s cs0 h0
    rw [lk_setAt] at hself ⊢
    split at hself
    · rename_i hq
      simp only [Option.map_eq_some_iff] at hself
      obtain ⟨cs0, g1, g2⟩ := hself
      rw [if_pos hq, hmm2 cs0 g1]
      simp [g2]
    · rename_i hq
      rw [if_neg hq]
      exact hmm2 cs hself
theorem apartB_ok {ls : List Leaf} {es : List (PVal × PVal)} (h : apartB ls es = true) : apartK ls es := by
  intro i j a b hi hj
  simp only [apartB, List.all_eq_true, List.mem_range] at h
  have := h i (List.getElem?_eq_some_iff.1 hi).1 j (List.getElem?_eq_some_iff.1 hj).1
  rw [hi, hj] at this
  simpa using this
theorem lk_dropS {wr : List Nat} {t : Nat} : ∀ {e : Env}, lk (dropS wr e) t = if wr.contains t = true then none else lk e t := by
  intro e
  induction e with
  | nil => simp [dropS, lk]
  | cons x e ih =>
    by_cases hx : wr.contains x.1 = true
    · have : dropS wr (x :: e) = dropS wr e := by unfold dropS; rw [List.filter_cons_of_neg (by show ¬ (!(wr.contains x.1)) = true; rw [hx]; decide)]
      rw [this, ih]
      by_cases ht : t = x.1
      · subst ht; rw [if_pos hx, if_pos hx]
      · simp only [lk, if_neg ht]
    · have : dropS wr (x :: e) = x :: dropS wr e := by unfold dropS; rw [List.filter_cons_of_pos (by show (!(wr.contains x.1)) = true; rw [Bool.eq_false_iff.2 hx]; rfl)]
      rw [this]
      simp only [lk, ih]
      by_cases ht : t = x.1
      · subst ht; rw [if_pos rfl, if_neg hx, if_pos rfl]
      · simp only [if_neg ht]
theorem dropS_some {wr : List Nat} {t : Nat} {e : Env} {v : AVal} (h : lk (dropS wr e) t = some v) : lk e t = some v ∧ wr.contains t = false := by
  rw [lk_dropS] at h
  split at h
  · cases h
  · exact ⟨h, by simp_all⟩
theorem lk_offMem {D : List Nat} {s : Nat} {m : Mem} (hs : D.contains s = false) : lk (offMem D m) s = lk m s := by
  induction m with
  | nil => rfl
  | cons x m ih =>
    by_cases hx : D.contains x.1 = true
    · have : offMem D (x :: m) = offMem D m := by unfold offMem; rw [List.filter_cons_of_neg (by show ¬ (!(D.contains x.1)) = true; rw [hx]; decide)]
      rw [this, ih]
      simp only [lk]
      rw [if_neg]
      intro e
      rw [e, hx] at hs
      cases hs
    · have : offMem D (x :: m) = x :: offMem D m := by unfold offMem; rw [List.filter_cons_of_pos (by show (!(D.contains x.1)) = true; rw [Bool.eq_false_iff.2 hx]; rfl)]
      rw [this]
      simp only [lk, ih]
theorem getAt_offMem {D : List Nat} {q : Place} {m : Mem} (hs : D.contains q.s = false) : getAt (offMem D m) q = getAt m q := by
  unfold getAt
  rw [lk_offMem hs]
theorem offS_ok {d t : Nat} {e : Env} {v : AVal} (h : offS d e = true) (hv : lk e t = some v) : v.ment (Kill.site d).fn = false := by
  have := List.all_eq_true.1 h _ (mem_of_lk hv)
  simpa using this
def lU : List Nat := [0, 5, 10, 11, 33, 34, 35, 48]
def lR : List Nat := [5, 14, 90]
theorem uloop_ok1 {e : Env} {m : Mem} {r : XE × Env × Mem} (h : uloop [.i] false u1 e m = some r) : xWp P C N (mloop 47 5 48 49 50 4 5 lU bU1) (fun x e m => (x, e, m) = r) e m := by
  unfold uloop at h
  split at h
  · rename_i mp a b h5 h10 h11
    split at h
    · rename_i es hm
      split at h
      · rename_i hc
        obtain ⟨hK, hint, hmp, hoff, hoff2⟩ := hc
        cases h
        have hm0 : getAt (offMem u1 m) mp = some (.omap es) := by rw [getAt_offMem hmp]; exact hm
        have hne : ∀ d ∈ u1, mp.s ≠ d := fun d hd e => by rw [e] at hmp; simp [List.contains_eq_mem, hd] at hmp
        have hk : ∀ (y : Nat) (v : AVal), lk (dropS u1 e) y = some v → ∀ d ∈ u1, y ≠ d := fun y v hv d hd e => by
          have := (dropS_some hv).2
          rw [e] at this
          simp [List.contains_eq_mem, hd] at this
        refine xWp_post (xWp_mono ?_ (mloop_ok (s := 47) (x := 5) (d := 48) (t := 49) (u := 50) (b1 := 4) (b2 := 5) (live := lU) (body := bU1) (e0 := dropS u1 e) (m0 := offMem u1 m) (g := uval a b) h5 hm (hne 48 (by decide)) hm0 ?_ ?_ (by decide) ?_))
        · rintro xe e1 m1 ⟨rfl, ht⟩
          exact ⟨_, _, ht, rfl⟩
        · intro y v hv
          have hkk := hk y v hv
          exact ⟨(dropS_some hv).1, hkk 47 (by decide), hkk 48 (by decide), hkk 49 (by decide), hkk 50 (by decide), offS_ok hoff hv⟩
        · intro q cs hq
          obtain ⟨g1, g2⟩ := offMem_lk hq
          exact ⟨g2, fun e => by rw [e] at g1; revert g1; decide⟩
        · intro C mb dn i k v hi hni ee mm f1 f2 f3 f4 f5 f6
          have hvi := List.all_eq_true.1 hint _ (List.mem_of_getElem? hi)
          simp only [Bool.and_eq_true] at hvi
          obtain ⟨n, hn⟩ := Option.isSome_iff_exists.1 hvi.1
          have hv : v = .int .i64 n := by
            unfold intV at hn
            split at hn
            · cases hn; rfl
            · cases hn
          have hin : ∀ {t v}, lk e t = some v → u1.contains t = false → lk (dropS u1 e) t = some v := fun h1 h2 => by rw [lk_dropS, if_neg (by rw [h2]; decide)]; exact h1
          exact bU1_ok (apartB_ok hK) hv (hne 48 (by decide)) hm0 (fun y w hw => (dropS_some hw).2) (hin h5 (by decide)) (hin h10 (by decide)) (hin h11 (by decide)) hi hni f1 f2 f3 f4 f5 f6
      · cases h
    · cases h
  · cases h
theorem uloop_ok2 {e : Env} {m : Mem} {r : XE × Env × Mem} (h : uloop [.i, .i] true u1 e m = some r) : xWp P C N (mloop 47 5 48 49 50 4 5 lU bU2) (fun x e m => (x, e, m) = r) e m := by
  unfold uloop at h
  split at h
  · rename_i mp a b h5 h10 h11
    split at h
    · rename_i es hm
      split at h
      · rename_i hc
        obtain ⟨hK, hint, hmp, hoff, hoff2⟩ := hc
        cases h
        have hm0 : getAt (offMem u1 m) mp = some (.omap es) := by rw [getAt_offMem hmp]; exact hm
        have hne : ∀ d ∈ u1, mp.s ≠ d := fun d hd e => by rw [e] at hmp; simp [List.contains_eq_mem, hd] at hmp
        have hk : ∀ (y : Nat) (v : AVal), lk (dropS u1 e) y = some v → ∀ d ∈ u1, y ≠ d := fun y v hv d hd e => by
          have := (dropS_some hv).2
          rw [e] at this
          simp [List.contains_eq_mem, hd] at this
        refine xWp_post (xWp_mono ?_ (mloop_ok (s := 47) (x := 5) (d := 48) (t := 49) (u := 50) (b1 := 4) (b2 := 5) (live := lU) (body := bU2) (e0 := dropS u1 e) (m0 := offMem u1 m) (g := uval a b) h5 hm (hne 48 (by decide)) hm0 ?_ ?_ (by decide) ?_))
        · rintro xe e1 m1 ⟨rfl, ht⟩
          exact ⟨_, _, ht, rfl⟩
        · intro y v hv
          have hkk := hk y v hv
          exact ⟨(dropS_some hv).1, hkk 47 (by decide), hkk 48 (by decide), hkk 49 (by decide), hkk 50 (by decide), offS_ok hoff hv⟩
        · intro q cs hq
          obtain ⟨g1, g2⟩ := offMem_lk hq
          exact ⟨g2, fun e => by rw [e] at g1; revert g1; decide⟩
        · intro C mb dn i k v hi hni ee mm f1 f2 f3 f4 f5 f6
          have hvi := List.all_eq_true.1 hint _ (List.mem_of_getElem? hi)
          simp only [Bool.and_eq_true] at hvi
          obtain ⟨n, hn⟩ := Option.isSome_iff_exists.1 hvi.1
          have hv : v = .int .i64 n := by
            unfold intV at hn
            split at hn
            · cases hn; rfl
            · cases hn
          have hin : ∀ {t v}, lk e t = some v → u1.contains t = false → lk (dropS u1 e) t = some v := fun h1 h2 => by rw [lk_dropS, if_neg (by rw [h2]; decide)]; exact h1
          exact bU2_ok (apartB_ok hK) hv (by simpa using hvi.2) (hne 48 (by decide)) (hne 12 (by decide)) (fun y w hw => offS_ok hoff2 hw) (fun q cs hq e => by have g1 := (offMem_lk hq).1; rw [e] at g1; revert g1; decide) (fun y w hw => (dropS_some hw).2) (hin h5 (by decide)) (hin h10 (by decide)) (hin h11 (by decide)) hi hni f1 f2 f3 f4 f5 f6
      · cases h
    · cases h
  · cases h
theorem rloop_ok1 {e : Env} {m : Mem} {r : XE × Env × Mem} (h : rloop [.i] false r1 e m = some r) : xWp P C N (mloop 89 5 90 91 92 8 9 lR bR1) (fun x e m => (x, e, m) = r) e m := by
  unfold rloop at h
  split at h
  · rename_i mp mq h5 h14
    split at h
    · rename_i es ns hm hmq
      split at h
      · rename_i hc
        obtain ⟨hK, hpq, hmp, hmqr, hint, hns, hoff, hoff2⟩ := hc
        cases h
        have hm0 : getAt (offMem r1 m) mp = some (.omap es) := by rw [getAt_offMem hmp]; exact hm
        have hq0 : getAt (offMem r1 m) mq = some (.omap ns) := by rw [getAt_offMem hmqr]; exact hmq
        have hne : ∀ d ∈ r1, mp.s ≠ d := fun d hd e => by rw [e] at hmp; simp [List.contains_eq_mem, hd] at hmp
        have hneq : ∀ d ∈ r1, mq.s ≠ d := fun d hd e => by rw [e] at hmqr; simp [List.contains_eq_mem, hd] at hmqr
        have hk : ∀ (y : Nat) (v : AVal), lk (dropS r1 e) y = some v → ∀ d ∈ r1, y ≠ d := fun y v hv d hd e => by
          have := (dropS_some hv).2
          rw [e] at this
          simp [List.contains_eq_mem, hd] at this
        refine xWp_post (xWp_mono ?_ (mloop_ok (s := 89) (x := 5) (d := 90) (t := 91) (u := 92) (b1 := 8) (b2 := 9) (live := lR) (body := bR1) (e0 := dropS r1 e) (m0 := offMem r1 m) (g := rval ns) h5 hm (hne 90 (by decide)) hm0 ?_ ?_ (by decide) ?_))
        · rintro xe e1 m1 ⟨rfl, ht⟩
          exact ⟨_, _, ht, rfl⟩
        · intro y v hv
          have hkk := hk y v hv
          exact ⟨(dropS_some hv).1, hkk 89 (by decide), hkk 90 (by decide), hkk 91 (by decide), hkk 92 (by decide), offS_ok hoff hv⟩
        · intro q cs hq
          obtain ⟨g1, g2⟩ := offMem_lk hq
          exact ⟨g2, fun e => by rw [e] at g1; revert g1; decide⟩
        · intro C mb dn i k v hi hni ee mm f1 f2 f3 f4 f5 f6
          have hvi := List.all_eq_true.1 hint _ (List.mem_of_getElem? hi)
          simp only [Bool.and_eq_true] at hvi
          obtain ⟨n, hn⟩ := Option.isSome_iff_exists.1 hvi.1
          have hv : v = .int .i64 n := by
            unfold intV at hn
            split at hn
            · cases hn; rfl
            · cases hn
          have hin : ∀ {t v}, lk e t = some v → r1.contains t = false → lk (dropS r1 e) t = some v := fun h1 h2 => by rw [lk_dropS, if_neg (by rw [h2]; decide)]; exact h1
          exact bR1_ok (apartB_ok hK) hv (hne 90 (by decide)) hpq hns hq0 (fun y w hw => (dropS_some hw).2) (hin h5 (by decide)) (hin h14 (by decide)) hi hni f1 f2 f3 f4 f5 f6
      · cases h
    · cases h
  · cases h
theorem rloop_ok2 {e : Env} {m : Mem} {r : XE × Env × Mem} (h : rloop [.i, .i] true r1 e m = some r) : xWp P C N (mloop 89 5 90 91 92 8 9 lR bR2) (fun x e m => (x, e, m) = r) e m := by
  unfold rloop at h
  split at h
  · rename_i mp mq h5 h14
    split at h
    · rename_i es ns hm hmq
      split at h
      · rename_i hc
        obtain ⟨hK, hpq, hmp, hmqr, hint, hns, hoff, hoff2⟩ := hc
        cases h
        have hm0 : getAt (offMem r1 m) mp = some (.omap es) := by rw [getAt_offMem hmp]; exact hm
        have hq0 : getAt (offMem r1 m) mq = some (.omap ns) := by rw [getAt_offMem hmqr]; exact hmq
        have hne : ∀ d ∈ r1, mp.s ≠ d := fun d hd e => by rw [e] at hmp; simp [List.contains_eq_mem, hd] at hmp
        have hneq : ∀ d ∈ r1, mq.s ≠ d := fun d hd e => by rw [e] at hmqr; simp [List.contains_eq_mem, hd] at hmqr
        have hk : ∀ (y : Nat) (v : AVal), lk (dropS r1 e) y = some v → ∀ d ∈ r1, y ≠ d := fun y v hv d hd e => by
          have := (dropS_some hv).2
          rw [e] at this
          simp [List.contains_eq_mem, hd] at this
        refine xWp_post (xWp_mono ?_ (mloop_ok (s := 89) (x := 5) (d := 90) (t := 91) (u := 92) (b1 := 8) (b2 := 9) (live := lR) (body := bR2) (e0 := dropS r1 e) (m0 := offMem r1 m) (g := rval ns) h5 hm (hne 90 (by decide)) hm0 ?_ ?_ (by decide) ?_))
        · rintro xe e1 m1 ⟨rfl, ht⟩
          exact ⟨_, _, ht, rfl⟩
        · intro y v hv
          have hkk := hk y v hv
          exact ⟨(dropS_some hv).1, hkk 89 (by decide), hkk 90 (by decide), hkk 91 (by decide), hkk 92 (by decide), offS_ok hoff hv⟩
        · intro q cs hq
          obtain ⟨g1, g2⟩ := offMem_lk hq
          exact ⟨g2, fun e => by rw [e] at g1; revert g1; decide⟩
        · intro C mb dn i k v hi hni ee mm f1 f2 f3 f4 f5 f6
          have hvi := List.all_eq_true.1 hint _ (List.mem_of_getElem? hi)
          simp only [Bool.and_eq_true] at hvi
          obtain ⟨n, hn⟩ := Option.isSome_iff_exists.1 hvi.1
          have hv : v = .int .i64 n := by
            unfold intV at hn
            split at hn
            · cases hn; rfl
            · cases hn
          have hin : ∀ {t v}, lk e t = some v → r1.contains t = false → lk (dropS r1 e) t = some v := fun h1 h2 => by rw [lk_dropS, if_neg (by rw [h2]; decide)]; exact h1
          exact bR2_ok (apartB_ok hK) hv (by simpa using hvi.2) (hne 90 (by decide)) (hne 19 (by decide)) (hneq 19 (by decide)) (fun y w hw => offS_ok hoff2 hw) (fun q cs hq e => by have g1 := (offMem_lk hq).1; rw [e] at g1; revert g1; decide) hpq hns hq0 (fun y w hw => (dropS_some hw).2) (hin h5 (by decide)) (hin h14 (by decide)) hi hni f1 f2 f3 f4 f5 f6
      · cases h
    · cases h
  · cases h
end
end Go.Proofs.Ytnmnijgoggombaa.X
