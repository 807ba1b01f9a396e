/-
  This text proves what its parts' remarks say, of the abstract machine (part Mb); no condition stands ahead of the claim's statement.
-/
import Derived.Test.YtbcnnmlphgpmlaaGreatDoorMa
import Derived.Laws.MakeOwn
import Derived.Great.FillDense

/- AM, part 15: a value told without references, what they lead to frozen; a leaf that is stored. -/
namespace Go.AM
open GV

/-- Values without references. -/
def Pvs (w : World) (I : Nat → Prop) (K : Nat → Nat → Prop) (vs : List AV) (xs : List Value) : Prop :=
  ∃ gs : List GV, gs.map GV.era = vs ∧ gs.map GV.cv = xs ∧ (∀ g ∈ gs, HV w I K (fun _ _ => False) g) ∧ own.ownL gs = []

theorem Pvs.nil {w : World} {I : Nat → Prop} {K : Nat → Nat → Prop} : Pvs w I K [] [] := ⟨[], rfl, rfl, by simp, rfl⟩

theorem Pvs.cons {w : World} {I : Nat → Prop} {K : Nat → Nat → Prop} {v : AV} {x : Value} {vs : List AV} {xs : List Value} (h : Pv w I K v x) (k : Pvs w I K vs xs) : Pvs w I K (v :: vs) (x :: xs) := by
  obtain ⟨g, rfl, rfl, h3, h4⟩ := h
  obtain ⟨gs, rfl, rfl, k3, k4⟩ := k
  refine ⟨g :: gs, rfl, rfl, fun c hc => ?_, by simp [GV.own.ownL, h4, k4]⟩
  rcases List.mem_cons.1 hc with rfl | hc
  · exact h3
  · exact k3 c hc

theorem Pvs.agg {w : World} {I : Nat → Prop} {K : Nat → Nat → Prop} {vs : List AV} {xs : List Value} (h : Pvs w I K vs xs) (hl : ∀ v ∈ vs, leafyA v = true) : Pv w I K (.agg vs) (.agg xs.toArray) := by
  obtain ⟨gs, rfl, rfl, h3, h4⟩ := h
  refine ⟨.agg gs, by simp [GV.era, eraL_eq], by simp [GV.cv, cvL_eq], .agg gs h3 (fun c hc => ?_), by simp [GV.own, h4]⟩
  have := hl c.era (List.mem_map_of_mem hc)
  cases c <;> simp [GV.era, leafyA, GV.leafy] at this ⊢

theorem Pvs.tup {w : World} {I : Nat → Prop} {K : Nat → Nat → Prop} {vs : List AV} {xs : List Value} (h : Pvs w I K vs xs) : Pv w I K (.tup vs) (.tuple xs.toArray) := by
  obtain ⟨gs, rfl, rfl, h3, h4⟩ := h
  exact ⟨.tup gs, by simp [GV.era, eraL_eq], by simp [GV.cv, cvL_eq], .tup gs h3, by simp [GV.own, h4]⟩

theorem Pvs.fn {w : World} {I : Nat → Prop} {K : Nat → Nat → Prop} {f : Fn} {vs us : List AV} {xs ys : List Value} (h : Pvs w I K vs xs) (k : Pvs w I K us ys) : Pv w I K (.fn f vs us) (.func f xs.toArray ys.toArray) := by
  obtain ⟨gs, rfl, rfl, h3, h4⟩ := h
  obtain ⟨ks, rfl, rfl, k3, k4⟩ := k
  exact ⟨.fn f gs ks, by simp [GV.era, eraL_eq], by simp [GV.cv, cvL_eq], .fn f gs ks h3 k3, by simp [GV.own, h4, k4]⟩

theorem Pvs.mono {w w' : World} {I I' : Nat → Prop} {K : Nat → Nat → Prop} {vs : List AV} {xs : List Value} (h : Pvs w I K vs xs) (hI : ∀ b, I b → I' b ∧ w'.heap[b]? = w.heap[b]?) : Pvs w' I' K vs xs := by
  obtain ⟨gs, h1, h2, h3, h4⟩ := h
  refine ⟨gs, h1, h2, fun g hg => (h3 g hg).mono' ?_ hI (fun _ _ h => h), h4⟩
  rw [ownL_eq, List.flatMap_eq_nil_iff] at h4
  exact h4 g hg

theorem Pv.tree {w : World} {I : Nat → Prop} {K : Nat → Nat → Prop} {g : GV} (h : HT w I K g) (ho : g.own = []) : Pv w I K g.era g.cv := ⟨g, rfl, rfl, .tree g h, ho⟩

section
variable {cx : Cx} {gob0 gob : Nat → List GV} {I0 I : Nat → Prop} {w0 w : World} {fl : List GV} {c : Ch} {kl : List Kl}

theorem Vals.mono {gob' : Nat → List GV} {I' : Nat → Prop} {w' : World} {vs : List AV} {xs : List Value} (h : Vals cx gob I w vs xs) (hI : ∀ b, I b → I' b ∧ w'.heap[b]? = w.heap[b]?) (hr : ∀ a v, RefOK gob a v → RefOK gob' a v) :
    Vals cx gob' I' w' vs xs := by
  induction h with
  | nil => exact .nil
  | cons v x vs xs hv _ ih => exact .cons _ _ _ _ (hv.mono hI hr) ih

theorem isOwn_era {n : GV} (hn : isNode n = true) : isOwn n.era = true ∨ (∀ {w : World} {I : Nat → Prop} {K : Nat → Nat → Prop}, HT w I K n → n.own = [] ∧ (∀ b, ∀ m fl sz es off cap, n = .sl m fl sz es b off cap → I b ∧ ownM m = false) ∧ (∀ b e o off, n = .pt o e b off → I b ∧ o = false)) := by
  cases n <;> simp [isNode] at hn
  · rename_i m fl sz es b off cap
    cases ho : ownM m with
    | true => left; simpa [GV.era, isOwn, ownM] using ho
    | false =>
      right
      intro w I K h
      cases h with
      | sl _ _ _ _ _ _ _ h1 h2 h3 h4 =>
        refine ⟨by simp [GV.own, ho, (h4 ho).2], ?_, by simp⟩
        intro b' m' fl' sz' es' off' cap' e
        cases e
        exact ⟨(h4 ho).1, ho⟩
  · rename_i o e b off
    cases o with
    | true => left; rfl
    | false =>
      right
      intro w I K h
      cases h with
      | pt _ _ _ _ h1 h2 h3 h4 =>
        refine ⟨by simp [GV.own, (h3 rfl).2], by simp, ?_⟩
        intro b' e' o' off' e
        cases e
        exact ⟨(h3 rfl).1, rfl⟩

/-- What freezing on the way keeps. -/
structure Frz (cx : Cx) (gob0 : Nat → List GV) (I0 : Nat → Prop) (w0 : World) (gob : Nat → List GV) (fl : List GV) (I : Nat → Prop) (w : World) (kl : List Kl) (c' : Ch) (gob' : Nat → List GV) (I' : Nat → Prop) : Prop where
  way : Way cx gob0 I0 w0 gob' fl I' w c' kl
  imm : ∀ b, I b → I' b
  pre : Pres gob gob' []
  ded : ∀ kl', Ded kl' gob → Ded kl' gob'

theorem Frz.refl (h : Way cx gob0 I0 w0 gob fl I w c kl) : Frz cx gob0 I0 w0 gob fl I w kl c gob I := ⟨h, fun _ h => h, Pres.refl _ _, fun _ h => h⟩

theorem Frz.trans {c1 c2 : Ch} {g1 g2 : Nat → List GV} {I1 I2 : Nat → Prop} (h : Frz cx gob0 I0 w0 gob fl I w kl c1 g1 I1) (k : Frz cx gob0 I0 w0 g1 fl I1 w kl c2 g2 I2) : Frz cx gob0 I0 w0 gob fl I w kl c2 g2 I2 :=
  ⟨k.way, fun b hb => k.imm b (h.imm b hb), (h.pre.trans k.pre).weaken (by simp), fun kl' hd => k.ded kl' (h.ded kl' hd)⟩

theorem Frz.ref {c1 : Ch} {g1 : Nat → List GV} {I1 : Nat → Prop} (h : Frz cx gob0 I0 w0 gob fl I w kl c1 g1 I1) {a : AV} {v : Value} (hr : RefOK gob a v) : RefOK g1 a v := h.pre.ref hr (by simp)

theorem way_freezeOne (h : Way cx gob0 I0 w0 gob fl I w c kl) {o k0 : Nat} {p : List Stp} {n : GV} (hn : gnodeIn (gob o) k0 p = some n) (hnode : isNode n = true) {c' : Ch}
    (hf : freezeOne c o k0 p n.era ((gob o).map GV.era) = some c') : ∃ gob' I', Frz cx gob0 I0 w0 gob fl I w kl c' gob' I' ∧ HT w I' cx.K (gfrz n) := by
  have hTn := h.sto.node hn
  unfold freezeOne at hf
  rcases isOwn_era hnode with ho | ho
  · simp only [ho, if_true] at hf
    obtain ⟨ls', I', hm, hw, h1, h2, h3, h4⟩ := h.freezeNode hn hnode
    have he : modIn (fun t => some (frz t)) ((gob o).map GV.era) k0 p = some (ls'.map GV.era) := by
      rw [gmodIn_era (gf := fun t => some (gfrz t)) (h.sto.hol o) k0 p (fun n' hn' => by simp [(h.sto.node hn').frz_era]), hm]; rfl
    rw [he] at hf
    simp only [Option.map_some, Option.some.injEq] at hf
    subst hf
    exact ⟨_, I', ⟨hw, h1, h3, h4⟩, hTn.frz h1 h2⟩
  · by_cases hoo : isOwn n.era = true
    · simp only [hoo, if_true] at hf
      obtain ⟨ls', I', hm, hw, h1, h2, h3, h4⟩ := h.freezeNode hn hnode
      have he : modIn (fun t => some (frz t)) ((gob o).map GV.era) k0 p = some (ls'.map GV.era) := by
        rw [gmodIn_era (gf := fun t => some (gfrz t)) (h.sto.hol o) k0 p (fun n' hn' => by simp [(h.sto.node hn').frz_era]), hm]; rfl
      rw [he] at hf
      simp only [Option.map_some, Option.some.injEq] at hf
      subst hf
      exact ⟨_, I', ⟨hw, h1, h3, h4⟩, hTn.frz h1 h2⟩
    · simp only [hoo, Bool.false_eq_true, if_false, Option.some.injEq] at hf
      subst hf
      refine ⟨gob, I, Frz.refl h, hTn.frz (fun _ h => h) ?_⟩
      rw [(ho hTn).1]; intro b hb; cases hb

/-- A view of a node that has been frozen. -/
theorem view_val {I' : Nat → Prop} {K : Nat → Nat → Prop} {m : Nat} {fl' : Bool} {sz : Nat} {es : List GV} {b off0 cap0 off n cap : Nat} {v : AV} (hT : HT w I K (.sl m fl' sz es b off0 cap0)) (hF : HT w I' K (gfrz (.sl m fl' sz es b off0 cap0)))
    (hle : off + n ≤ es.length) (hc : n ≤ cap) (hv : viewOf off n (GV.sl m fl' sz es b off0 cap0).era = some v) : Pv w I' K v (.slice (some ⟨b, off0 + off * sz, none⟩) n cap) ∧ leafyA v = true := by
  simp only [viewOf, GV.era, eraL_eq, List.length_map, hle, if_true, Option.some.injEq] at hv
  subst hv
  simp only [gfrz, gfrzL_eq] at hF
  have hm : ownM (if m == 2 then 2 else 0) = false := by split <;> rfl
  have hV := hF.view (off := off) (n := n) (cap := cap) hm hc
  have e : ((es.map gfrz).drop off).take n = ((es.drop off).take n).map gfrz := by rw [← List.map_drop, ← List.map_take]
  rw [e] at hV
  refine ⟨?_, rfl⟩
  have := Pv.tree hV.1 hV.2
  have ha : (GV.sl 0 fl' sz (((es.drop off).take n).map gfrz) b (off0 + off * sz) cap).era = .sl 0 fl' sz (frz.frzL (((es.map GV.era).drop off).take n)) := by
    simp only [GV.era, eraL_eq, frzL_eq, List.map_map, ← List.map_drop, ← List.map_take]
    congr 1
    refine List.map_congr_left fun x hx => ?_
    exact (hT.elems x (List.mem_of_mem_drop (List.mem_of_mem_take hx))).frz_era
  have hb : (GV.sl 0 fl' sz (((es.drop off).take n).map gfrz) b (off0 + off * sz) cap).cv = .slice (some ⟨b, off0 + off * sz, none⟩) n cap := by
    simp only [GV.cv, lenL_eq, List.length_map, List.length_take, List.length_drop]
    congr 1
    omega
  rwa [ha, hb] at this

theorem var_val {I' : Nat → Prop} {K : Nat → Nat → Prop} {ow : Bool} {e : GV} {b off : Nat} {i k : Nat} {v : AV} (hT : HT w I K (.pt ow e b off)) (hF : HT w I' K (gfrz (.pt ow e b off)))
    (hv : varOf i k (GV.pt ow e b off).era = some v) : i = 0 ∧ k = 0 ∧ Pv w I' K v (.pointer (some ⟨b, off, none⟩)) ∧ leafyA v = true := by
  simp only [varOf, GV.era] at hv
  split at hv
  · rename_i hik
    simp only [Bool.and_eq_true, beq_iff_eq] at hik
    simp only [Option.some.injEq] at hv; subst hv
    have := Pv.tree hF hT.frz_own
    have ha : (gfrz (.pt ow e b off)).era = .pt false (frz e.era) := by simp only [gfrz, GV.era, hT.pointee.frz_era]
    have hb : (gfrz (.pt ow e b off)).cv = .pointer (some ⟨b, off, none⟩) := rfl
    rw [ha, hb] at this
    exact ⟨hik.1, hik.2, this, rfl⟩
  · cases hv

theorem Ded.hit {kl : List Kl} {gob : Nat → List GV} (h : Ded kl gob) {o k0 : Nat} {p : List Stp} (hk : kl.any (·.hits o k0 p) = true) {n : GV} (hn : gnodeIn (gob o) k0 p = some n) : ∃ v, n = .dead v := by
  rw [List.any_eq_true] at hk
  obtain ⟨k, hk, hh⟩ := hk
  obtain ⟨k0', v, h1, h2⟩ := h k hk
  simp only [Kl.hits, h1, Bool.and_eq_true, beq_iff_eq] at hh
  obtain ⟨⟨rfl, rfl⟩, _⟩ := hh
  unfold gnodeIn at hn
  rw [h2] at hn
  simp only at hn
  cases p with
  | nil => simp only [gnodeAt, Option.some.injEq] at hn; exact ⟨v, hn.symm⟩
  | cons x p => simp [gnodeAt] at hn

/-- A reference of before leads where it led, or to what has died. -/
theorem way_ref (h : Way cx gob0 I0 w0 gob fl I w c kl) (hd : Ded kl gob) {a : AV} {v : Value} (hr : RefOK gob0 a v) {o k0 : Nat} {p : List Stp} (ha : refs a = [⟨o, k0, p⟩]) {n : GV} (hn : gnodeIn (gob o) k0 p = some n) :
    RefOK gob a v ∨ ∃ v, n = .dead v := by
  cases hk : kl.any (·.hits o k0 p) with
  | true => exact .inr (hd.hit hk hn)
  | false => exact .inl (h.pre.ref hr (by rw [ha]; simpa using hk))

  mutual
/-- **A value told without references.** -/
theorem way_fres {ob : Nat → List AV} (he : ∀ o, ob o = (gob0 o).map GV.era) : (x : AV) → {gob : Nat → List GV} → {I : Nat → Prop} → {c : Ch} → Way cx gob0 I0 w0 gob fl I w c kl → Ded kl gob → {xv : Value} → Val cx gob0 I0 w0 x xv → {r r' : List Nat} → {v : AV} → {c' : Ch} →
    (fres x c).run ob r = some ((v, c'), r') → ∃ gob' I', Frz cx gob0 I0 w0 gob fl I w kl c' gob' I' ∧ Pv w I' cx.K v xv ∧ (leafyA x = true → leafyA v = true)
  | .agg cs, gob, I, c, h, hd, xv, hx, r, r', v, c', hr => by
    obtain ⟨xs, rfl, hv, hl⟩ := hx.agg_inv
    simp only [fres, Lk.run_bind] at hr
    obtain ⟨⟨q, r1⟩, hq, hr⟩ := bind_some_inv hr
    simp only [Lk.run, Option.some.injEq, Prod.mk.injEq] at hr
    obtain ⟨⟨rfl, rfl⟩, _⟩ := hr
    obtain ⟨gob', I', h1, h2, h3⟩ := way_fresL he cs h hd hv hq
    exact ⟨gob', I', h1, h2.agg (h3 hl), fun h => by simp [leafyA] at h⟩
  | .tup cs, gob, I, c, h, hd, xv, hx, r, r', v, c', hr => by
    obtain ⟨xs, rfl, hv⟩ := hx.tup_inv
    simp only [fres, Lk.run_bind] at hr
    obtain ⟨⟨q, r1⟩, hq, hr⟩ := bind_some_inv hr
    simp only [Lk.run, Option.some.injEq, Prod.mk.injEq] at hr
    obtain ⟨⟨rfl, rfl⟩, _⟩ := hr
    obtain ⟨gob', I', h1, h2, h3⟩ := way_fresL he cs h hd hv hq
    exact ⟨gob', I', h1, h2.tup, fun h => by simp [leafyA] at h⟩
  | .fn f a b, gob, I, c, h, hd, xv, hx, r, r', v, c', hr => by
    obtain ⟨xs, ys, rfl, hva, hvb⟩ := hx.fn_inv
    simp only [fres, Lk.run_bind] at hr
    obtain ⟨⟨q, r1⟩, hq, hr⟩ := bind_some_inv hr
    obtain ⟨⟨q2, r2⟩, hq2, hr⟩ := bind_some_inv hr
    simp only [Lk.run, Option.some.injEq, Prod.mk.injEq] at hr
    obtain ⟨⟨rfl, rfl⟩, _⟩ := hr
    obtain ⟨g1, I1, h1, h2, h3⟩ := way_fresL he a h hd hva hq
    obtain ⟨g2, I2, k1, k2, k3⟩ := way_fresL he b h1.way (h1.ded kl hd) hvb hq2
    exact ⟨g2, I2, h1.trans k1, (h2.mono (fun b hb => ⟨k1.imm b hb, rfl⟩)).fn k2, fun _ => rfl⟩
  | .sref o k0 p off n, gob, I, c, h, hd, xv, hx, r, r', v, c', hr => by
    have hR0 := hx.ref_inv (.inl ⟨_, _, _, _, _, rfl⟩)
    simp only [fres, Lk.run_bind] at hr
    obtain ⟨r1, hask⟩ := run_askC h.era he o r
    rw [hask] at hr
    simp only [Option.bind_some] at hr
    rw [nodeIn_era (h.sto.hol o)] at hr
    cases hn : gnodeIn (gob o) k0 p with
    | none => rw [hn] at hr; simp [Lk.run] at hr
    | some nd =>
      rw [hn] at hr
      simp only [Option.map_some] at hr
      rcases way_ref h hd hR0 rfl hn with hR | ⟨v0, rfl⟩
      · cases hR with
        | s _ _ _ _ _ m fl' sz es b off0 cap0 cap hn' hle hc hcap =>
          rw [hn] at hn'; simp only [Option.some.injEq] at hn'; subst hn'
          split at hr
          · rename_i v1 c1 hv1 hc1
            simp only [Lk.run, Option.some.injEq, Prod.mk.injEq] at hr
            obtain ⟨⟨rfl, rfl⟩, _⟩ := hr
            obtain ⟨gob', I', h1, h2⟩ := way_freezeOne h hn rfl hc1
            have hv := view_val (h.sto.node hn) h2 hle hc hv1
            exact ⟨gob', I', h1, hv.1, fun _ => hv.2⟩
          · simp [Lk.run] at hr
      · simp [GV.era, viewOf, Lk.run] at hr
  | .pref o k0 p i k, gob, I, c, h, hd, xv, hx, r, r', v, c', hr => by
    have hR0 := hx.ref_inv (.inr ⟨_, _, _, _, _, rfl⟩)
    simp only [fres, Lk.run_bind] at hr
    obtain ⟨r1, hask⟩ := run_askC h.era he o r
    rw [hask] at hr
    simp only [Option.bind_some] at hr
    rw [nodeIn_era (h.sto.hol o)] at hr
    cases hn : gnodeIn (gob o) k0 p with
    | none => rw [hn] at hr; simp [Lk.run] at hr
    | some nd =>
      rw [hn] at hr
      simp only [Option.map_some] at hr
      rcases way_ref h hd hR0 rfl hn with hR | ⟨v0, rfl⟩
      · cases hR with
        | ps _ _ _ _ _ m fl' sz es b off0 cap0 hn' hi =>
          rw [hn] at hn'; simp only [Option.some.injEq] at hn'; subst hn'
          simp only [GV.era, varOf, Lk.run] at hr
          cases hr
        | pp _ _ _ _ ow e b off0 hn' =>
          rw [hn] at hn'; simp only [Option.some.injEq] at hn'; subst hn'
          split at hr
          · rename_i v1 c1 hv1 hc1
            simp only [Lk.run, Option.some.injEq, Prod.mk.injEq] at hr
            obtain ⟨⟨rfl, rfl⟩, _⟩ := hr
            obtain ⟨gob', I', h1, h2⟩ := way_freezeOne h hn rfl hc1
            obtain ⟨_, rfl, hv, hl⟩ := var_val (h.sto.node hn) h2 hv1
            exact ⟨gob', I', h1, by simpa using hv, fun _ => hl⟩
          · simp [Lk.run] at hr
      · simp [GV.era, varOf, Lk.run] at hr
  | .dead, gob, I, c, h, hd, xv, hx, r, r', v, c', hr => by simp [fres, Lk.run] at hr
  | .lit x, gob, I, c, h, hd, xv, hx, r, r', v, c', hr => by
    simp only [fres, Lk.run, Option.some.injEq, Prod.mk.injEq] at hr
    obtain ⟨⟨rfl, rfl⟩, _⟩ := hr
    obtain ⟨rfl, hg⟩ := hx.lit_inv
    exact ⟨gob, I, Frz.refl h, ⟨.lit _, rfl, rfl, .tree _ (.lit _ hg), rfl⟩, fun h => h⟩
  | .sl m fl' sz es, gob, I, c, h, hd, xv, hx, r, r', v, c', hr => by
    simp only [fres, Lk.run, Option.some.injEq, Prod.mk.injEq] at hr
    obtain ⟨⟨rfl, rfl⟩, _⟩ := hr
    refine ⟨gob, I, Frz.refl h, ?_, fun h => h⟩
    rcases hx.sl_inv with ⟨rfl, rfl, hm⟩ | ⟨gs, b, off, cap, rfl, rfl, hT, ho⟩
    · exact Pv.tree (g := .nl m fl' sz) (.nl _ _ _ hm) rfl
    · have := (Pv.tree hT ho).mono h.imm
      simpa [GV.era, GV.cv, eraL_eq, lenL_eq] using this
  | .pt o e, gob, I, c, h, hd, xv, hx, r, r', v, c', hr => by
    simp only [fres, Lk.run, Option.some.injEq, Prod.mk.injEq] at hr
    obtain ⟨⟨rfl, rfl⟩, _⟩ := hr
    refine ⟨gob, I, Frz.refl h, ?_, fun h => h⟩
    obtain ⟨g, b, off, rfl, rfl, hT, ho⟩ := hx.pt_inv
    exact (Pv.tree hT ho).mono h.imm

theorem way_fresL {ob : Nat → List AV} (he : ∀ o, ob o = (gob0 o).map GV.era) : (xs : List AV) → {gob : Nat → List GV} → {I : Nat → Prop} → {c : Ch} → Way cx gob0 I0 w0 gob fl I w c kl → Ded kl gob → {xvs : List Value} → Vals cx gob0 I0 w0 xs xvs → {r r' : List Nat} → {vs : List AV} → {c' : Ch} →
    (fres.fresL xs c).run ob r = some ((vs, c'), r') → ∃ gob' I', Frz cx gob0 I0 w0 gob fl I w kl c' gob' I' ∧ Pvs w I' cx.K vs xvs ∧ ((∀ x ∈ xs, leafyA x = true) → ∀ v ∈ vs, leafyA v = true)
  | [], gob, I, c, h, hd, xvs, hx, r, r', vs, c', hr => by
    cases hx
    simp only [fres.fresL, Lk.run, Option.some.injEq, Prod.mk.injEq] at hr
    obtain ⟨⟨rfl, rfl⟩, _⟩ := hr
    exact ⟨gob, I, Frz.refl h, Pvs.nil, by simp⟩
  | x :: xs, gob, I, c, h, hd, xvs, hx, r, r', vs, c', hr => by
    cases hx with
    | cons _ xv _ xvs hx1 hx2 =>
      simp only [fres.fresL, Lk.run_bind] at hr
      obtain ⟨⟨⟨v1, c1⟩, r1⟩, hq, hr⟩ := bind_some_inv hr
      obtain ⟨⟨⟨v2, c2⟩, r2⟩, hq2, hr⟩ := bind_some_inv hr
      simp only [Lk.run, Option.some.injEq, Prod.mk.injEq] at hr
      obtain ⟨⟨rfl, rfl⟩, _⟩ := hr
      obtain ⟨g1, I1, h1, h2, h3⟩ := way_fres he x h hd hx1 hq
      obtain ⟨g2, I2, k1, k2, k3⟩ := way_fresL he xs h1.way (h1.ded kl hd) hx2 hq2
      refine ⟨g2, I2, h1.trans k1, Pvs.cons (h2.mono (fun b hb => ⟨k1.imm b hb, rfl⟩)) k2, fun hl v hv => ?_⟩
      rcases List.mem_cons.1 hv with rfl | hv
      · exact h3 (hl x (by simp))
      · exact k3 (fun y hy => hl y (by simp [hy])) v hv
end

end
end Go.AM

/- AM, part 16: what is stored: moved, or frozen and shared. -/
namespace Go.AM
open GV

section
variable {cx : Cx} {gob0 gob : Nat → List GV} {I0 I : Nat → Prop} {w0 w : World} {fl : List GV} {c : Ch} {kl : List Kl}

/-- What stands nowhere, told otherwise. -/
theorem StoF.floats (h : StoF cx gob fl I w) {fl' : List GV} (hp : (own.ownL fl').Perm (own.ownL fl)) (hT : ∀ g ∈ fl', HT w I cx.K g) : StoF cx gob fl' I w :=
  { h with
    fnod := (hp.nodup_iff).2 h.fnod
    fdis := fun o b hb => h.fdis o b (hp.mem_iff.1 hb)
    fhol := hT
    fnI := fun b hb => h.fnI b (hp.mem_iff.1 hb)
    forg := fun b hb => h.forg b (hp.mem_iff.1 hb) }

theorem Way.floats (h : Way cx gob0 I0 w0 gob fl I w c kl) {fl' : List GV} (hp : (own.ownL fl').Perm (own.ownL fl)) (hT : ∀ g ∈ fl', HT w I cx.K g) : Way cx gob0 I0 w0 gob fl' I w c kl :=
  { h with sto := h.sto.floats hp hT }

theorem Way.push (h : Way cx gob0 I0 w0 gob fl I w c kl) {g : GV} (hT : HT w I cx.K g) (ho : g.own = []) : Way cx gob0 I0 w0 gob (g :: fl) I w c kl :=
  h.floats (by simp [GV.own.ownL, ho]) (fun x hx => by
    rcases List.mem_cons.1 hx with rfl | hx
    · exact hT
    · exact h.sto.fhol x hx)

theorem lt_of_get {α : Type} {l : List α} {i : Nat} {x : α} (h : l[i]? = some x) : i < l.length := by
  rcases Nat.lt_or_ge i l.length with h' | h'
  · exact h'
  · rw [List.getElem?_eq_none h'] at h; cases h

/-- A whole object's leaf leaves the store. -/
theorem Way.moveRoot (h : Way cx gob0 I0 w0 gob fl I w c kl) {o k0 : Nat} {g : GV} (hk : (gob o)[k0]? = some g) (hg : ∀ v, g ≠ .dead v) (g' : GV) (hown : g'.own = g.own) (hT' : HT w I cx.K g') (v0 : Value) :
    Way cx gob0 I0 w0 (upd gob o ((gob o).set k0 (.dead v0))) (g' :: fl) I w ((o, ((gob o).map GV.era).set k0 .dead) :: c) (⟨o, some k0, false⟩ :: kl) := by
  obtain ⟨rest, Q1, Q2, Q3⟩ := ownL_set hk (.dead v0)
  simp only [GV.own, List.nil_append] at Q2
  have hnd : (g.own ++ (rest ++ own.ownL fl)).Nodup := by
    have := ((Q1.append_right (own.ownL fl)).nodup_iff).1 (h.sto.nodAll o)
    rwa [List.append_assoc] at this
  have hperm : (own.ownL ((gob o).set k0 (.dead v0)) ++ own.ownL (g' :: fl)).Perm (g.own ++ (rest ++ own.ownL fl)) := by
    simp only [GV.own.ownL, hown]
    refine (Q2.append_right _).trans ?_
    rw [← List.append_assoc, ← List.append_assoc]
    exact List.Perm.append_right _ List.perm_append_comm
  have hmem : ∀ b, b ∈ own.ownL ((gob o).set k0 (.dead v0)) ++ own.ownL (g' :: fl) ↔ b ∈ own.ownL (gob o) ++ own.ownL fl := fun b => by
    rw [hperm.mem_iff]
    simp only [List.mem_append, Q1.mem_iff, or_assoc]
  have hdead : ((gob o).set k0 (.dead v0)).map GV.era = ((gob o).map GV.era).set k0 .dead := by rw [List.map_set]; rfl
  refine ⟨?_, ?_, ?_, h.imm, h.size⟩
  · refine h.sto.step o _ (g' :: fl) I w ((hperm.nodup_iff).2 hnd) (fun b hb => .inl ((hmem b).1 hb)) (fun x hx => ?_) (fun x hx => ?_) (fun b hb => ⟨hb, rfl⟩) (fun b hb => .inl hb) (fun _ _ _ => rfl) (fun _ _ _ => rfl) rfl rfl rfl (Nat.le_refl _)
    · rcases List.mem_or_eq_of_mem_set hx with hx | rfl
      · exact h.sto.hol o x hx
      · exact .dead v0
    · rcases List.mem_cons.1 hx with rfl | hx
      · exact hT'
      · exact h.sto.fhol x hx
  · rw [← hdead]; exact h.era.cons o _
  · have : Pres gob (upd gob o ((gob o).set k0 (.dead v0))) [⟨o, some k0, false⟩] := Pres.upd fun k p n hn hnode hh => by
      unfold gnodeIn at hn ⊢
      rw [List.getElem?_set]
      by_cases hkk : k0 = k
      · subst hkk; simp [Kl.hits] at hh
      · simp only [hkk, if_false]; exact ⟨n, hn, Alike.refl hnode⟩
    exact h.pre.trans this

theorem Ded.moveRoot (hd : Ded kl gob) {o k0 : Nat} {g : GV} (hk : (gob o)[k0]? = some g) (hg : ∀ v, g ≠ .dead v) (v0 : Value) : Ded (⟨o, some k0, false⟩ :: kl) (AM.upd gob o ((gob o).set k0 (.dead v0))) := by
  intro k hk'
  rcases List.mem_cons.1 hk' with rfl | hk'
  · refine ⟨k0, v0, rfl, ?_⟩
    simp [upd_same, lt_of_get hk]
  · exact hd.upd hk hg _ k hk'

theorem HT.leafyA_leafy {K : Nat → Nat → Prop} {g : GV} (h : HT w I K g) (hl : leafyA g.era = true) : g.leafy = true := by
  cases h <;> simp [GV.era, leafyA] at hl <;> rfl

theorem depLeaf_gen (x : AV) (c : Ch) (kl : List Kl) {ob : Nat → List AV} {r r' : List Nat} {y : AV} {c' : Ch} {kl' : List Kl} (hr : (depLeaf x c kl).run ob r = some ((y, c', kl'), r')) :
    (∃ o k0 n fl sz es r1, x = .sref o k0 [] 0 n ∧ ∃ ls, (askC c o).run ob r = some (ls, r1) ∧ nodeIn ls k0 [] = some (.sl 1 fl sz es) ∧ es.length = n ∧ y = .sl 1 fl sz es ∧ c' = (o, ls.set k0 .dead) :: c ∧ kl' = ⟨o, some k0, false⟩ :: kl) ∨
    (leafyA x = true ∧ (∃ r0, (fres x c).run ob r0 = some ((y, c'), r')) ∧ kl' = kl ∧ ((∃ o k0 p off n, x = .sref o k0 p off n) ∨ treeA y = true)) := by
  have tail : ∀ {r0 : List Nat}, leafyA x = true → ((fres x c).bind fun r => Lk.done (r.1, r.2, kl)).run ob r0 = some ((y, c', kl'), r') → (∃ r0, (fres x c).run ob r0 = some ((y, c'), r')) ∧ kl' = kl := by
    intro r0 _ h
    simp only [Lk.run_bind] at h
    obtain ⟨⟨⟨v, c1⟩, r2⟩, h1, h2⟩ := bind_some_inv h
    simp only [Lk.run, Option.some.injEq, Prod.mk.injEq] at h2
    obtain ⟨⟨rfl, rfl, rfl⟩, rfl⟩ := h2
    exact ⟨⟨r0, h1⟩, rfl⟩
  unfold depLeaf at hr
  split at hr
  · rename_i o k0 n
    simp only [Lk.run_bind] at hr
    obtain ⟨⟨ls, r1⟩, h1, hr⟩ := bind_some_inv hr
    simp only at hr
    split at hr
    · rename_i fl sz es hnd
      split at hr
      · rename_i hl
        simp only [Lk.run, Option.some.injEq, Prod.mk.injEq] at hr
        obtain ⟨⟨rfl, rfl, rfl⟩, rfl⟩ := hr
        exact .inl ⟨o, k0, n, fl, sz, es, r1, rfl, ls, h1, hnd, by simpa using hl, rfl, rfl, rfl⟩
      · obtain ⟨h2, h3⟩ := tail rfl hr
        exact .inr ⟨rfl, h2, h3, .inl ⟨_, _, _, _, _, rfl⟩⟩
    · obtain ⟨h2, h3⟩ := tail rfl hr
      exact .inr ⟨rfl, h2, h3, .inl ⟨_, _, _, _, _, rfl⟩⟩
  · simp [Lk.run] at hr
  · simp [Lk.run] at hr
  · simp [Lk.run] at hr
  · rename_i h1 h2 h3 h4
    have hl : leafyA x = true := by
      cases x <;> simp [leafyA]
      · exact h2 _ rfl
      · exact h3 _ rfl
    simp only [Lk.run_bind] at hr
    obtain ⟨⟨⟨v, c1⟩, r2⟩, h5, hr⟩ := bind_some_inv hr
    simp only at hr
    split at hr
    · rename_i ht
      simp only [Lk.run, Option.some.injEq, Prod.mk.injEq] at hr
      obtain ⟨⟨rfl, rfl, rfl⟩, rfl⟩ := hr
      exact .inr ⟨hl, ⟨r, h5⟩, rfl, .inr ht⟩
    · simp [Lk.run] at hr

/-- **A leaf that is stored** stands nowhere for now. -/
theorem way_depLeaf {ob : Nat → List AV} (he : ∀ o, ob o = (gob0 o).map GV.era) (h : Way cx gob0 I0 w0 gob fl I w c kl) (hd : Ded kl gob) {x : AV} {xv : Value} (hx : Val cx gob0 I0 w0 x xv) {r r' : List Nat} {y : AV} {c' : Ch} {kl' : List Kl}
    (hr : (depLeaf x c kl).run ob r = some ((y, c', kl'), r')) :
    ∃ g gob' I', g.era = y ∧ g.cv = xv ∧ g.leafy = true ∧ Way cx gob0 I0 w0 gob' (g :: fl) I' w c' kl' ∧ Ded kl' gob' ∧ (∀ b, I b → I' b) := by
  rcases depLeaf_gen x c kl hr with ⟨o, k0, n, f, sz, es, r1, rfl, ls, hask, hnd, hl, rfl, rfl, rfl⟩ | ⟨hlx, ⟨r0, hf⟩, rfl, ht⟩
  · have hR0 := hx.ref_inv (.inl ⟨_, _, _, _, _, rfl⟩)
    obtain ⟨r2, hask2⟩ := run_askC h.era he o r
    rw [hask2] at hask
    simp only [Option.some.injEq, Prod.mk.injEq] at hask
    obtain ⟨rfl, _⟩ := hask
    rw [nodeIn_era (h.sto.hol o)] at hnd
    obtain ⟨g, hg, hge⟩ := map_some_inv hnd
    have hTg := h.sto.node hg
    have hR : RefOK gob (.sref o k0 [] 0 n) xv := by
      rcases way_ref h hd hR0 rfl hg with h' | ⟨v, rfl⟩
      · exact h'
      · simp [GV.era] at hge
    cases hR with
    | s _ _ _ _ _ m fl' sz' ges b off0 cap0 cap hn' hle hc hcap =>
      rw [hg] at hn'; simp only [Option.some.injEq] at hn'; subst hn'
      simp only [GV.era, AV.sl.injEq, eraL_eq] at hge
      obtain ⟨rfl, rfl, rfl, rfl⟩ := hge
      simp only [List.length_map] at hl
      have hk : (gob o)[k0]? = some (.sl 1 fl' sz' ges b off0 cap0) := by
        unfold gnodeIn at hg
        cases hq : (gob o)[k0]? with
        | none => simp [hq] at hg
        | some q => simp only [hq, gnodeAt, Option.some.injEq] at hg; rw [hg]
      simp only [Nat.zero_add] at hle hcap
      have hT' : HT w I cx.K (.sl 1 fl' sz' ges b off0 cap) := by
        cases hTg with
        | sl _ _ _ _ _ _ _ h1 h2 h3 h4 h5 h6 h7 =>
          have hmul : cap * sz' ≤ cap0 * sz' := Nat.mul_le_mul_right _ hcap
          refine .sl _ _ _ _ _ _ _ (by omega) h2 h3 (fun h => by simp [ownM] at h) (fun h => by cases h) (fun _ => ?_) (fun h => by cases h)
          obtain ⟨⟨arr, T, ha, hs⟩, hkk⟩ := h6 rfl
          exact ⟨⟨arr, T, ha, by omega⟩, fun j hj => hkk j (by omega)⟩
      refine ⟨.sl 1 fl' sz' ges b off0 cap, _, I, by simp [GV.era, eraL_eq], ?_, rfl, h.moveRoot hk (by simp) _ (by simp [GV.own]) hT' (.tuple #[]), hd.moveRoot hk (by simp) _, fun _ h => h⟩
      simp [GV.cv, lenL_eq, hl]
  · obtain ⟨gob', I', hF, ⟨g, hge, hgv, hH, hgo⟩, hlf⟩ := way_fres he x h hd hx hf
    have hty : treeA y = true := by
      rcases ht with ⟨o, k0, p, off, n, rfl⟩ | ht
      · simp only [fres, Lk.run_bind] at hf
        obtain ⟨⟨ls, r2⟩, _, hf⟩ := bind_some_inv hf
        simp only at hf
        split at hf
        · split at hf
          · rename_i v1 c1 hv1 _
            simp only [Lk.run, Option.some.injEq, Prod.mk.injEq] at hf
            obtain ⟨⟨rfl, _⟩, _⟩ := hf
            unfold viewOf at hv1
            split at hv1
            · split at hv1
              · simp only [Option.some.injEq] at hv1; subst hv1; rfl
              · cases hv1
            · cases hv1
          · simp [Lk.run] at hf
        · simp [Lk.run] at hf
      · exact ht
    have hT := hH.tree_of hgo (by rw [hge]; exact hty)
    exact ⟨g, gob', I', hge, hgv, hT.leafyA_leafy (by rw [hge]; exact hlf hlx), hF.way.push hT hgo, hF.ded _ hd, hF.imm⟩

theorem way_depLeafs {ob : Nat → List AV} (he : ∀ o, ob o = (gob0 o).map GV.era) : ∀ (xs : List AV) {gob : Nat → List GV} {fl : List GV} {I : Nat → Prop} {c : Ch} {kl : List Kl}, Way cx gob0 I0 w0 gob fl I w c kl → Ded kl gob →
    ∀ {xvs : List Value}, Vals cx gob0 I0 w0 xs xvs → ∀ {r r' : List Nat} {ys : List AV} {c' : Ch} {kl' : List Kl}, (depLeafs xs c kl).run ob r = some ((ys, c', kl'), r') →
    ∃ gs gob' I', gs.map GV.era = ys ∧ gs.map GV.cv = xvs ∧ (∀ g ∈ gs, g.leafy = true) ∧ Way cx gob0 I0 w0 gob' (gs ++ fl) I' w c' kl' ∧ Ded kl' gob' ∧ (∀ b, I b → I' b)
  | [], gob, fl, I, c, kl, h, hd, xvs, hx, r, r', ys, c', kl', hr => by
    cases hx
    simp only [depLeafs, Lk.run, Option.some.injEq, Prod.mk.injEq] at hr
    obtain ⟨⟨rfl, rfl, rfl⟩, _⟩ := hr
    exact ⟨[], gob, I, rfl, rfl, by simp, h, hd, fun _ h => h⟩
  | x :: xs, gob, fl, I, c, kl, h, hd, xvs, hx, r, r', ys, c', kl', hr => by
    cases hx with
    | cons _ xv _ xvs hx1 hx2 =>
      simp only [depLeafs, Lk.run_bind] at hr
      obtain ⟨⟨⟨y, c1, k1⟩, r1⟩, h1, hr⟩ := bind_some_inv hr
      simp only [Lk.run_bind] at hr
      obtain ⟨⟨⟨ys, c2, k2⟩, r2⟩, h2, hr⟩ := bind_some_inv hr
      simp only [Lk.run, Option.some.injEq, Prod.mk.injEq] at hr
      obtain ⟨⟨rfl, rfl, rfl⟩, _⟩ := hr
      obtain ⟨g, g1, I1, e1, e2, e3, e4, e5, e6⟩ := way_depLeaf he h hd hx1 h1
      obtain ⟨gs, g2, I2, f1, f2, f3, f4, f5, f6⟩ := way_depLeafs he xs e4 e5 hx2 h2
      refine ⟨g :: gs, g2, I2, by simp [e1, f1], by simp [e2, f2], fun q hq => ?_, f4.floats ?_ ?_, f5, fun b hb => f6 b (e6 b hb)⟩
      · rcases List.mem_cons.1 hq with rfl | hq
        · exact e3
        · exact f3 q hq
      · simp only [List.cons_append, GV.own.ownL, ownL_append]
        rw [← List.append_assoc, ← List.append_assoc]
        exact List.Perm.append_right _ List.perm_append_comm
      · intro q hq
        refine f4.sto.fhol q ?_
        simp only [List.cons_append, List.mem_cons, List.mem_append] at hq ⊢
        rcases hq with h | h | h
        · exact .inr (.inl h)
        · exact .inl h
        · exact .inr (.inr h)

/-- **An element that is stored** stands nowhere for now. -/
theorem way_dep {ob : Nat → List AV} (he : ∀ o, ob o = (gob0 o).map GV.era) (h : Way cx gob0 I0 w0 gob fl I w c kl) (hd : Ded kl gob) {x : AV} {xv : Value} (hx : Val cx gob0 I0 w0 x xv) {r r' : List Nat} {y : AV} {c' : Ch} {kl' : List Kl}
    (hr : (dep x c kl).run ob r = some ((y, c', kl'), r')) :
    ∃ g gob' I', g.era = y ∧ g.cv = xv ∧ Way cx gob0 I0 w0 gob' (g :: fl) I' w c' kl' ∧ Ded kl' gob' ∧ (∀ b, I b → I' b) := by
  unfold dep at hr
  split at hr
  · rename_i cs
    obtain ⟨xs, rfl, hv, hl⟩ := hx.agg_inv
    simp only [Lk.run_bind] at hr
    obtain ⟨⟨⟨ys, c1, k1⟩, r1⟩, h1, hr⟩ := bind_some_inv hr
    simp only [Lk.run, Option.some.injEq, Prod.mk.injEq] at hr
    obtain ⟨⟨rfl, rfl, rfl⟩, _⟩ := hr
    obtain ⟨gs, g2, I2, f1, f2, f3, f4, f5, f6⟩ := way_depLeafs he cs h hd hv h1
    refine ⟨.agg gs, g2, I2, by simp [GV.era, eraL_eq, f1], by simp [GV.cv, cvL_eq, f2], f4.floats ?_ ?_, f5, f6⟩
    · simp [GV.own.ownL, GV.own, ownL_append]
    · intro q hq
      rcases List.mem_cons.1 hq with rfl | hq
      · exact .agg gs (fun c hc => f4.sto.fhol c (by simp [hc])) f3
      · exact f4.sto.fhol q (by simp [hq])
  · obtain ⟨g, g1, I1, e1, e2, _, e4, e5, e6⟩ := way_depLeaf he h hd hx hr
    exact ⟨g, g1, I1, e1, e2, e4, e5, e6⟩

end
end Go.AM

/- AM, part 17: a new block. -/
namespace Go.AM
open GV

/-- Nothing that stood has changed. -/
structure Grow (w w' : World) : Prop where
  os : w'.os = w.os
  tape : w'.tape = w.tape
  output : w'.output = w.output
  size : w.heap.size ≤ w'.heap.size
  old : ∀ k, k < w.heap.size → w'.heap[k]? = w.heap[k]?

theorem Grow.alloc (w : World) (o : Obj) : Grow w (w.alloc o) := ⟨rfl, rfl, rfl, by simp, fun k hk => heap_alloc_old w o k hk⟩
theorem Grow.drew (w : World) (o : Obj) : Grow w (w.drew.alloc o) := ⟨rfl, rfl, rfl, by simp, fun k hk => heap_alloc_old w.drew o k hk⟩

section
variable {cx : Cx} {gob0 gob : Nat → List GV} {I0 I : Nat → Prop} {w0 w : World} {fl : List GV} {c : Ch} {kl : List Kl}

/-- **An object is put into the store**, of what stood nowhere and of new blocks. -/
theorem Way.place (h : Way cx gob0 I0 w0 gob fl I w c kl) {w' : World} (hg : Grow w w') (ky : Nat) (ls fl' : List GV) (hnod : (own.ownL ls ++ own.ownL fl').Nodup)
    (hsub : ∀ b ∈ own.ownL ls ++ own.ownL fl', b ∈ own.ownL fl ∨ w.heap.size ≤ b) (hls : ∀ g ∈ ls, HT w' I cx.K g) (hfl : ∀ g ∈ fl', HT w' I cx.K g) :
    Way cx gob0 I0 w0 (upd gob ky ls) fl' I w' ((ky, ls.map GV.era) :: c) (⟨ky, none, false⟩ :: kl) := by
  refine ⟨?_, h.era.cons ky ls, ?_, fun b hb => ⟨(h.imm b hb).1, (hg.old b ?_).trans (h.imm b hb).2⟩, Nat.le_trans h.size hg.size⟩
  · refine h.sto.step ky ls fl' I w' hnod (fun b hb => ?_) hls hfl (fun b hb => ⟨hb, hg.old b (h.sto.Ilt b hb)⟩) (fun b hb => .inl hb) (fun b hb _ => hg.old b hb) (fun b j hk => ?_) hg.os hg.tape hg.output hg.size
    · rcases hsub b hb with h' | h'
      · exact .inl (List.mem_append.2 (.inr h'))
      · exact .inr h'
    · have := hg.old b (Nat.lt_of_lt_of_le (h.sto.Kold b j hk) h.sto.size)
      simp only [World.cell?]; rw [this]
  · refine h.pre.trans (Pres.upd (kl := [⟨ky, none, false⟩]) fun k p n hn hnode hh => ?_)
    simp [Kl.hits] at hh
  · exact h.sto.Ilt b (h.imm b hb).1

theorem Way.Kfresh (h : Way cx gob0 I0 w0 gob fl I w c kl) {b : Nat} (hb : w.heap.size ≤ b) (j : Nat) : ¬ cx.K b j := fun hk => by
  have := h.sto.Kold b j hk
  have := h.sto.size
  omega

end

/-- Cells of an array. -/
def CellsA (arr : Array Value) (sz : Nat) (es : List GV) : Prop :=
  ∀ i e, es[i]? = some e → (GV.leafs e).length = sz ∧ ∀ k l, (GV.leafs e)[k]? = some l → arr[i * sz + k]? = some l.cv

theorem CellsA.cells {w : World} {b : Nat} {arr : Array Value} {T : TypeId} {sz : Nat} {es : List GV} {fz : Nat × Nat} (h : CellsA arr sz es) (hb : w.heap[b]? = some (.cells arr T fz)) : Cells w b 0 sz es :=
  fun i e he => ⟨(h i e he).1, fun k l hl => by rw [Nat.zero_add, cell_block hb]; exact (h i e he).2 k l hl⟩

theorem HT.cv_cells {w : World} {I : Nat → Prop} {K : Nat → Nat → Prop} {g : GV} (h : HT w I K g) (hd : g.era ≠ .dead) : g.cv.cells = ((GV.leafs g).map GV.cv).toArray := by
  cases h with
  | dead v => exact absurd rfl hd
  | lit v hv =>
    simp only [GV.leafs, GV.cv, List.map_cons, List.map_nil]
    cases v <;> simp [ground] at hv <;> rfl
  | agg cs _ _ => simp [GV.cv, GV.leafs, Value.cells, GV.cvL_eq]
  | _ => simp [GV.cv, GV.leafs, Value.cells]

theorem HT.oneCell {w : World} {I : Nat → Prop} {K : Nat → Nat → Prop} {g : GV} (h : HT w I K g) (hl : g.leafy = true) (hd : g.era ≠ .dead) : g.cv.oneCell' = true := by
  cases h with
  | dead v => exact absurd rfl hd
  | lit v hv => cases v <;> simp [ground] at hv <;> rfl
  | agg cs _ _ => simp [GV.leafy] at hl
  | _ => rfl

/-- What is told without references is alive. -/
theorem fres_alive {x : AV} {c c' : Ch} {ob : Nat → List AV} {r r' : List Nat} {y : AV} (h : (fres x c).run ob r = some ((y, c'), r')) : y ≠ .dead := by
  cases x with
  | dead => simp [fres, Lk.run] at h
  | lit v => simp only [fres, Lk.run, Option.some.injEq, Prod.mk.injEq] at h; obtain ⟨⟨rfl, _⟩, _⟩ := h; simp
  | sl => simp only [fres, Lk.run, Option.some.injEq, Prod.mk.injEq] at h; obtain ⟨⟨rfl, _⟩, _⟩ := h; simp
  | pt => simp only [fres, Lk.run, Option.some.injEq, Prod.mk.injEq] at h; obtain ⟨⟨rfl, _⟩, _⟩ := h; simp
  | agg cs =>
    simp only [fres, Lk.run_bind] at h
    obtain ⟨q, _, h⟩ := bind_some_inv h
    simp only [Lk.run, Option.some.injEq, Prod.mk.injEq] at h; obtain ⟨⟨rfl, _⟩, _⟩ := h; simp
  | tup cs =>
    simp only [fres, Lk.run_bind] at h
    obtain ⟨q, _, h⟩ := bind_some_inv h
    simp only [Lk.run, Option.some.injEq, Prod.mk.injEq] at h; obtain ⟨⟨rfl, _⟩, _⟩ := h; simp
  | fn f a b =>
    simp only [fres, Lk.run_bind] at h
    obtain ⟨q, _, h⟩ := bind_some_inv h
    obtain ⟨q, _, h⟩ := bind_some_inv h
    simp only [Lk.run, Option.some.injEq, Prod.mk.injEq] at h; obtain ⟨⟨rfl, _⟩, _⟩ := h; simp
  | sref o k0 p off n =>
    simp only [fres, Lk.run_bind] at h
    obtain ⟨q, _, h⟩ := bind_some_inv h
    split at h
    · split at h
      · rename_i hv _
        simp only [Lk.run, Option.some.injEq, Prod.mk.injEq] at h; obtain ⟨⟨rfl, _⟩, _⟩ := h
        unfold viewOf at hv
        split at hv
        · split at hv
          · simp only [Option.some.injEq] at hv; subst hv; simp
          · cases hv
        · cases hv
      · simp [Lk.run] at h
    · simp [Lk.run] at h
  | pref o k0 p i k =>
    simp only [fres, Lk.run_bind] at h
    obtain ⟨q, _, h⟩ := bind_some_inv h
    split at h
    · split at h
      · rename_i hv _
        simp only [Lk.run, Option.some.injEq, Prod.mk.injEq] at h; obtain ⟨⟨rfl, _⟩, _⟩ := h
        unfold varOf at hv
        split at hv
        · split at hv
          · simp only [Option.some.injEq] at hv; subst hv; simp
          · cases hv
        · cases hv
      · simp [Lk.run] at h
    · simp [Lk.run] at h

theorem depLeaf_alive {x : AV} {c : Ch} {kl : List Kl} {ob : Nat → List AV} {r r' : List Nat} {y : AV} {c' : Ch} {kl' : List Kl} (hr : (depLeaf x c kl).run ob r = some ((y, c', kl'), r')) : y ≠ .dead := by
  rcases depLeaf_gen x c kl hr with ⟨o, k0, n, f, sz, es, r1, rfl, ls, hask, hnd, hl, rfl, rfl, rfl⟩ | ⟨hlx, ⟨r0, hf⟩, rfl, ht⟩
  · simp
  · exact fres_alive hf

theorem depLeafs_alive {ob : Nat → List AV} : ∀ (xs : List AV) {c : Ch} {kl : List Kl} {r r' : List Nat} {ys : List AV} {c' : Ch} {kl' : List Kl}, (depLeafs xs c kl).run ob r = some ((ys, c', kl'), r') → ys.length = xs.length ∧ ∀ y ∈ ys, y ≠ .dead
  | [], c, kl, r, r', ys, c', kl', h => by
    simp only [depLeafs, Lk.run, Option.some.injEq, Prod.mk.injEq] at h; obtain ⟨⟨rfl, _⟩, _⟩ := h; simp
  | x :: xs, c, kl, r, r', ys, c', kl', hr => by
    simp only [depLeafs, Lk.run_bind] at hr
    obtain ⟨⟨⟨y, c1, k1⟩, r1⟩, h1, hr⟩ := bind_some_inv hr
    simp only [Lk.run_bind] at hr
    obtain ⟨⟨⟨ys, c2, k2⟩, r2⟩, h2, hr⟩ := bind_some_inv hr
    simp only [Lk.run, Option.some.injEq, Prod.mk.injEq] at hr
    obtain ⟨⟨rfl, rfl, rfl⟩, _⟩ := hr
    obtain ⟨i1, i2⟩ := depLeafs_alive xs h2
    refine ⟨by simp [i1], fun z hz => ?_⟩
    rcases List.mem_cons.1 hz with rfl | hz
    · exact depLeaf_alive h1
    · exact i2 z hz

theorem dep_alive {x : AV} {c : Ch} {kl : List Kl} {ob : Nat → List AV} {r r' : List Nat} {y : AV} {c' : Ch} {kl' : List Kl} (hr : (dep x c kl).run ob r = some ((y, c', kl'), r')) : y ≠ .dead := by
  unfold dep at hr
  split at hr
  · simp only [Lk.run_bind] at hr
    obtain ⟨⟨⟨ys, c1, k1⟩, r1⟩, h1, hr⟩ := bind_some_inv hr
    simp only [Lk.run, Option.some.injEq, Prod.mk.injEq] at hr
    obtain ⟨⟨rfl, rfl, rfl⟩, _⟩ := hr
    simp
  · exact depLeaf_alive hr

section
variable {P : Program} {G : Globs} {cx : Cx} {gob : Nat → List GV} {I : Nat → Prop} {s : St} {a : Act} {w : World}

/-- The model's operation comes to what the machine's does. -/
def Does (P : Program) (cx : Cx) (gob : Nat → List GV) (I : Nat → Prop) (w : World) (ρ : Operand → Value) (o : Oper) (e : Eff) : Prop :=
  ∃ x w', (execOp ρ o).run P w = .ok (.value x) w' ∧ ∃ gob' I', OpPost cx gob I w e x w' gob' I'

theorem Tells.does {ρ : Operand → Value} {o : Oper} {v : AV} (h : Tells P cx gob I w ρ o v) (hs : Sto cx gob I w) : Does P cx gob I w ρ o { v } := by
  obtain ⟨x, h1, h2⟩ := h
  exact ⟨x, w, h1, gob, I, OpPost.pure hs h2⟩

theorem zeroA_inv {t : TypeId} {z : AV} (h : zeroA P t = some z) : ∃ i v, P.info? t = some i ∧ i.zero = some v ∧ cvA 3 v = some z := by
  unfold zeroA at h
  obtain ⟨i, hi, h⟩ := bind_some_inv h
  obtain ⟨v, hv, h⟩ := bind_some_inv h
  exact ⟨i, v, hi, hv, h⟩

theorem cvA_alive {n : Nat} {v : Value} {y : AV} (h : cvA n v = some y) : y ≠ .dead := by
  cases n with
  | zero => simp [cvA] at h
  | succ n =>
    unfold cvA at h
    split at h <;> first | (cases h; done) | (cases h; simp; done) | (split at h <;> first | (cases h; done) | (cases h; simp; done)) | skip
    rename_i cs
    obtain ⟨l, _, h⟩ := bind_some_inv h
    split at h
    · cases h; simp
    · cases h

theorem run_zero {t : TypeId} {i : TypeInfo} {z : Value} (hi : P.info? t = some i) (hz : i.zero = some z) (w : World) : (zeroValue t).run P w = .ok z w := by
  unfold zeroValue
  rw [Sem.run_bind, run_info hi]
  simp [hz]

/-- A variable is made. -/
theorem newVar_way {gob0 : Nat → List GV} {I0 : Nat → Prop} {w0 : World} {c : Ch} {kl : List Kl} {g : GV} (h : Way cx gob0 I0 w0 gob [g] I w c kl) (ha : g.era ≠ .dead) (ky : Nat) (t : TypeId) :
    ∃ gob', (newVar t g.cv).run P w = .ok ⟨w.heap.size, 0, none⟩ (w.alloc (.cells g.cv.cells t)) ∧
    Way cx gob0 I0 w0 gob' [] I (w.alloc (.cells g.cv.cells t)) ((ky, [.pt true g.era]) :: c) (⟨ky, none, false⟩ :: kl) ∧ gnodeIn (gob' ky) 0 [] = some (.pt true g w.heap.size 0) := by
  have hT := h.sto.fhol g (by simp)
  have hgr := Grow.alloc w (.cells g.cv.cells t)
  have hnew := heap_alloc_new w (.cells g.cv.cells t)
  have hnd := h.sto.fnod
  simp only [GV.own.ownL, List.append_nil] at hnd
  have hT' : HT (w.alloc (.cells g.cv.cells t)) I cx.K (.pt true g w.heap.size 0) := by
    refine .pt _ _ _ _ (fun k l hl => ?_) (hT.mono (fun b hb => ⟨hb, hgr.old b (h.sto.Ilt b hb)⟩) (fun _ _ _ h => h) (fun b hb => hgr.old b (hT.lt b hb))) (fun h => by cases h) (fun _ => ⟨⟨_, t, hnew, ?_⟩, fun j _ => h.Kfresh (Nat.le_refl _) _⟩)
    · rw [Nat.zero_add, cell_block hnew, hT.cv_cells ha]
      simp [hl]
    · rw [hT.cv_cells ha]; simp
  refine ⟨upd gob ky [.pt true g w.heap.size 0], ?_, ?_, ?_⟩
  · simp [newVar, newRow]
  · have := h.place hgr ky [.pt true g w.heap.size 0] [] ?_ ?_ (fun x hx => by simp only [List.mem_singleton] at hx; subst hx; exact hT') (by simp)
    · simpa [GV.era] using this
    · simp only [GV.own.ownL, GV.own, if_true, List.append_nil, List.nodup_cons]
      exact ⟨fun hb => absurd (hT.lt _ hb) (Nat.lt_irrefl _), hnd⟩
    · intro b hb
      simp only [GV.own.ownL, GV.own, if_true, List.append_nil, List.mem_cons] at hb
      rcases hb with rfl | hb
      · exact .inr (Nat.le_refl _)
      · exact .inl (by simp [GV.own.ownL, hb])
  · simp [gnodeIn, upd_same, gnodeAt]

theorem ref_new {ky : Nat} {gob' : Nat → List GV} {I' : Nat → Prop} {w' : World} {g : GV} {b : Nat} (h : gnodeIn (gob' ky) 0 [] = some (.pt true g b 0)) : Val cx gob' I' w' (.pref ky 0 [] 0 0) (.pointer (some ⟨b, 0, none⟩)) := by
  have := RefOK.pp (gob := gob') ky 0 [] 0 true g b 0 h
  exact Val.ref (by simpa using this)

theorem does_new (h : Inv cx gob I s a w) {o : Oper} {t : TypeId} (ho : o.op = .alloc t) {z : AV} (hz : zeroA P t = some z) (ky : Nat) :
    Does P cx gob I w a.eval o { v := .pref ky 0 [] 0 0, ch := [(ky, [.pt true z])], kl := [⟨ky, none, false⟩] } := by
  obtain ⟨i, v, hi, hv, hc⟩ := zeroA_inv hz
  obtain ⟨g, rfl, rfl, hT, hown, _⟩ := cvA_val (w := w) (I := I) (K := cx.K) 3 v z hc
  obtain ⟨gob', h1, h2, h3⟩ := newVar_way (P := P) ((Way.start h.sto).push hT hown) (cvA_alive hc) ky t
  refine ⟨_, _, ?_, gob', I, h2.post (ref_new h3)⟩
  rw [show o = { o with op := .alloc t } by cases o; simp_all]
  simp only [execOp, Instr.alloc]
  simp only [Sem.run_bind, run_zero hi hv, Result.andThen_ok, h1, Sem.run_pure]

theorem does_box (hG : GlobOK G cx) (h : Inv cx gob I s a w) {o : Oper} {t : TypeId} {x : Operand} (ho : o.op = .box t x) {y : Opr} (hx : cOpr G x = some y) {v : AV} (hv : s.val y = some v) {ky : Nat} {r r' : List Nat} {z : AV} {c : Ch} {kl : List Kl}
    (hd : (dep v [] []).run s.obj r = some ((z, c, kl), r')) : Does P cx gob I w a.eval o { v := .pref ky 0 [] 0 0, ch := (ky, [.pt true z]) :: c, kl := ⟨ky, none, false⟩ :: kl } := by
  have hval := opr_val hG h hx hv
  obtain ⟨g, g1, I1, rfl, e2, e4, e5, e6⟩ := way_dep h.era (Way.start h.sto) (by simp [Ded]) hval hd
  obtain ⟨gob', h1, h2, h3⟩ := newVar_way (P := P) e4 (dep_alive hd) ky t
  refine ⟨_, _, ?_, gob', I1, h2.post (ref_new h3)⟩
  rw [show o = { o with op := .box t x } by cases o; simp_all]
  rw [e2] at h1 ⊢
  simp only [execOp, Instr.box]
  simp only [Sem.run_bind, Result.andThen_ok, h1, Sem.run_pure]

end
end Go.AM

/- AM, part 18: rows of new cells; structs and arrays that are built. -/
namespace Go.AM
open GV

theorem madeCells_get (z : Array Value) {n j : Nat} (h : j < n) : (madeCells z n)[j]? = some z[j % z.size]! := by
  simp [madeCells, Array.getElem?_map, Array.getElem?_range, h]

theorem made_cellsA {w : World} {I : Nat → Prop} {K : Nat → Nat → Prop} {g : GV} (hT : HT w I K g) (ha : g.era ≠ .dead) {sz : Nat} (hs : (GV.leafs g).length = sz) (l c : Nat) (hlc : l ≤ c) :
    CellsA (madeCells g.cv.cells (c * sz)) sz (List.replicate l g) := by
  intro i e he
  rw [List.getElem?_replicate] at he
  split at he
  · rename_i hil
    simp only [Option.some.injEq] at he; subst he
    refine ⟨hs, fun k x hx => ?_⟩
    have hk : k < sz := hs ▸ lt_of_get hx
    have hlt : i * sz + k < c * sz := by
      have : (i + 1) * sz ≤ c * sz := Nat.mul_le_mul_right _ (by omega)
      rw [Nat.add_mul, Nat.one_mul] at this
      omega
    have hsz : g.cv.cells.size = sz := by rw [hT.cv_cells ha]; simpa using hs
    rw [madeCells_get _ hlt, hsz, Nat.mul_comm, Nat.mul_add_mod, Nat.mod_eq_of_lt hk, Option.some.injEq]
    have : g.cv.cells[k]? = some x.cv := by rw [hT.cv_cells ha]; simp [hx]
    rw [Array.getElem!_eq_getD, Array.getD_eq_getD_getElem?, this]; rfl
  · cases he

theorem fill_cons {place : Nat → Option (Nat × Nat)} {cells : Array Value} {i : Nat} {v : Value} {rest : List (Nat × Value)} {off size : Nat} (hp : place i = some (off, size)) (hv : v.cells.size = size) (hle : off + size ≤ cells.size) :
    ∃ arr, Instr.fill place cells ((i, v) :: rest) = Instr.fill place arr rest ∧ arr.size = cells.size ∧ ∀ k, arr[k]? = if off ≤ k ∧ k < off + size then v.cells[k - off]? else cells[k]? := by
  obtain ⟨h1, h2⟩ := Great.foldl_set off v.cells.toList 0 cells
  refine ⟨_, ?_, h1, fun k => ?_⟩
  · rw [Instr.fill]
    simp only [hp, hv]
    rw [if_neg (by simp; omega)]
    congr 1
    rw [← Array.foldl_toList, Array.toList_zipIdx]
  · rw [h2 k]
    simp only [Nat.add_zero, Array.length_toList, hv, Array.getElem?_toList]
    by_cases h : off ≤ k ∧ k < off + size
    · rw [if_pos h, if_pos (by omega)]
    · rw [if_neg h, if_neg (by omega)]

section
variable {cx : Cx} {gob0 gob : Nat → List GV} {I0 I : Nat → Prop} {w0 w : World} {fl : List GV} {c : Ch} {kl : List Kl}

/-- What stands nowhere, told otherwise, or some of it let go. -/
theorem StoF.fewer (h : StoF cx gob fl I w) {fl' : List GV} (hn : (own.ownL fl').Nodup) (hs : ∀ b ∈ own.ownL fl', b ∈ own.ownL fl) (hT : ∀ g ∈ fl', HT w I cx.K g) : StoF cx gob fl' I w :=
  { h with
    fnod := hn
    fdis := fun o b hb => h.fdis o b (hs b hb)
    fhol := hT
    fnI := fun b hb => h.fnI b (hs b hb)
    forg := fun b hb => h.forg b (hs b hb) }

theorem Way.fewer (h : Way cx gob0 I0 w0 gob fl I w c kl) {fl' : List GV} (hn : (own.ownL fl').Nodup) (hs : ∀ b ∈ own.ownL fl', b ∈ own.ownL fl) (hT : ∀ g ∈ fl', HT w I cx.K g) : Way cx gob0 I0 w0 gob fl' I w c kl :=
  { h with sto := h.sto.fewer hn hs hT }

/-- **A row of new cells** takes what stood nowhere. -/
theorem newRow_way {ges : List GV} (h : Way cx gob0 I0 w0 gob ges I w c kl) {w' : World} (hg : Grow w w') {arr : Array Value} {T : TypeId} (hnew : w'.heap[w.heap.size]? = some (.cells arr T (0, 0))) {sz cap : Nat} (hc : CellsA arr sz ges)
    (hl : ges.length ≤ cap) (hs : cap * sz ≤ arr.size) (ky : Nat) (f : Bool) :
    ∃ gob', Way cx gob0 I0 w0 gob' [] I w' ((ky, [.sl 1 f sz (ges.map GV.era)]) :: c) (⟨ky, none, false⟩ :: kl) ∧ gnodeIn (gob' ky) 0 [] = some (.sl 1 f sz ges w.heap.size 0 cap) := by
  have hlt : ∀ b ∈ own.ownL ges, b < w.heap.size := fun b hb => by
    rw [ownL_eq] at hb
    obtain ⟨g, hg, hb⟩ := List.mem_flatMap.1 hb
    exact (h.sto.fhol g hg).lt b hb
  have hT' : HT w' I cx.K (.sl 1 f sz ges w.heap.size 0 cap) := by
    refine .sl _ _ _ _ _ _ _ hl (hc.cells hnew) (fun e he => ?_) (fun h => by simp [ownM] at h) (fun h => by cases h) (fun _ => ⟨⟨_, T, hnew, by omega⟩, fun j _ => h.Kfresh (Nat.le_refl _) _⟩) (fun h => by cases h)
    exact (h.sto.fhol e he).mono (fun b hb => ⟨hb, hg.old b (h.sto.Ilt b hb)⟩) (fun _ _ _ h => h) (fun b hb => hg.old b ((h.sto.fhol e he).lt b hb))
  have hown : own.ownL [GV.sl 1 f sz ges w.heap.size 0 cap] = w.heap.size :: own.ownL ges := by simp [GV.own.ownL, GV.own, ownM]
  refine ⟨upd gob ky [.sl 1 f sz ges w.heap.size 0 cap], ?_, by simp [gnodeIn, upd_same, gnodeAt]⟩
  have := h.place hg ky [.sl 1 f sz ges w.heap.size 0 cap] [] ?_ ?_ (fun x hx => by simp only [List.mem_singleton] at hx; subst hx; exact hT') (by simp)
  · simpa [GV.era, eraL_eq] using this
  · rw [hown]
    simp only [GV.own.ownL, List.append_nil, List.nodup_cons]
    exact ⟨fun hb => absurd (hlt _ hb) (Nat.lt_irrefl _), h.sto.fnod⟩
  · intro b hb
    rw [hown] at hb
    simp only [GV.own.ownL, List.append_nil, List.mem_cons] at hb
    rcases hb with rfl | hb
    · exact .inr (Nat.le_refl _)
    · exact .inl hb

theorem sref_new {ky : Nat} {gob' : Nat → List GV} {I' : Nat → Prop} {w' : World} {m : Nat} {f : Bool} {sz : Nat} {ges : List GV} {b cap0 n cap : Nat} (h : gnodeIn (gob' ky) 0 [] = some (.sl m f sz ges b 0 cap0)) (hn : n ≤ ges.length) (hc : n ≤ cap) (hcc : cap ≤ cap0) :
    Val cx gob' I' w' (.sref ky 0 [] 0 n) (.slice (some ⟨b, 0, none⟩) n cap) := by
  have := RefOK.s (gob := gob') ky 0 [] 0 n m f sz ges b 0 cap0 cap h (by omega) hc (by omega)
  exact Val.ref (by simpa using this)

end

section
variable {P : Program} {G : Globs} {cx : Cx} {gob : Nat → List GV} {I : Nat → Prop} {s : St} {a : Act} {w : World}

theorem replicate_own {g : GV} (ho : g.own = []) (n : Nat) : own.ownL (List.replicate n g) = [] := by
  rw [ownL_eq, List.flatMap_eq_nil_iff]
  intro x hx
  rw [List.eq_of_mem_replicate hx]; exact ho

theorem does_mksl (hG : GlobOK G cx) (h : Inv cx gob I s a w) {o : Oper} {t e : TypeId} {l c : Operand} (ho : o.op = .makeSlice t l c) (ht : P.underlying t = some (.slice e)) {i : Ti} (hi : tiOf P e = some i) {z : AV} (hz : zeroA P e = some z)
    (hzl : (leafs z).length = i.n) {yl yc : Opr} (hl : cOpr G l = some yl) (hc : cOpr G c = some yc) {n m : Nat} (hn : (s.val yl).bind natOf = some n) (hm : (s.val yc).bind natOf = some m)
    (hnm : n ≤ m) (hb : m * i.bytes ≤ most) (hmm : m ≤ most) (ky : Nat) (f : Bool) :
    Does P cx gob I w a.eval o { v := .sref ky 0 [] 0 n, ch := [(ky, [.sl 1 f i.n (List.replicate n z)])], kl := [⟨ky, none, false⟩] } := by
  obtain ⟨d, fo, hu, hinf, rfl⟩ := tiOf_inv hi
  obtain ⟨inf, v, hi', hv, hcv⟩ := zeroA_inv hz
  rw [hinf] at hi'; simp only [Option.some.injEq] at hi'; subst hi'
  obtain ⟨ln, hln, hn⟩ := bind_some_inv hn
  obtain ⟨lm, hlm, hm⟩ := bind_some_inv hm
  obtain ⟨kl, e1⟩ := natOf_val (opr_val hG h hl hln) hn
  obtain ⟨kc, e2⟩ := natOf_val (opr_val hG h hc hlm) hm
  obtain ⟨g, rfl, rfl, hT, hown, _⟩ := cvA_val (w := w) (I := I) (K := cx.K) 3 v z hcv
  have hal := cvA_alive hcv
  rw [hT.leafs_era, List.length_map] at hzl
  simp only at hzl hb ⊢
  simp only [most] at hb hmm
  have hb' : (fo.bytes : Int) * (m : Int) ≤ 281474976710656 := by
    have : ((fo.bytes * m : Nat) : Int) ≤ 281474976710656 := by rw [Nat.mul_comm]; omega
    rwa [Int.natCast_mul] at this
  have hr := run_make (P := P) w t e fo g.cv ht hinf hv kl kc n m (by omega) (by omega) hb' (by omega)
  simp only [Int.toNat_natCast] at hr
  have hW : Way cx gob I w gob (List.replicate n g) I w [] [] := (Way.start h.sto).fewer (by rw [replicate_own hown]; exact List.nodup_nil) (by rw [replicate_own hown]; simp) (fun x hx => by rw [List.eq_of_mem_replicate hx]; exact hT)
  obtain ⟨gob', h1, h2⟩ := newRow_way hW (Grow.alloc w (.cells (madeCells g.cv.cells (m * fo.size)) e)) (heap_alloc_new w _) (made_cellsA hT hal hzl n m hnm) (by simpa using hnm) (by rw [size_madeCells]; exact Nat.le_refl _) ky f
  refine ⟨.slice (some ⟨w.heap.size, 0, none⟩) n m, w.alloc (.cells (madeCells g.cv.cells (m * fo.size)) e), ?_, gob', I, ?_⟩
  · rw [show o = { o with op := .makeSlice t l c } by cases o; simp_all]
    simp only [execOp, e1, e2]
    rw [Sem.run_bind, hr]
    rfl
  · have := h1.post (sref_new h2 (n := n) (by simp) hnm (Nat.le_refl _))
    simpa using this

/-- Elements laid into a row. -/
theorem way_lay (hG : GlobOK G cx) (h : Inv cx gob I s a w) {sz : Nat} : ∀ (ps : List (Nat × Operand)) (qs : List (Nat × Opr)) {ges : List GV} {c : Ch} {kl : List Kl} {gobc : Nat → List GV} {Ic : Nat → Prop} {arr : Array Value}, cElems G ps = some qs →
    Way cx gob I w gobc ges Ic w c kl → Ded kl gobc → CellsA arr sz ges → arr.size = ges.length * sz → ∀ {r r' : List Nat} {es' : List AV} {c' : Ch} {kl' : List Kl}, (layElems s.val sz qs (ges.map GV.era) c kl).run s.obj r = some ((es', c', kl'), r') →
    ∃ ges' gob' I' arr', ges'.map GV.era = es' ∧ ges'.length = ges.length ∧ Instr.fill (fun i => some (i * sz, sz)) arr (ps.map fun (i, x) => (i, a.eval x)) = some arr' ∧ CellsA arr' sz ges' ∧ arr'.size = arr.size ∧
      Way cx gob I w gob' ges' I' w c' kl' ∧ Ded kl' gob'
  | [], qs, ges, c, kl, gobc, Ic, arr, hq, hw, hd, hc, hs, r, r', es', c', kl', hr => by
    simp only [cElems, Option.some.injEq] at hq; subst hq
    simp only [layElems, Lk.run, Option.some.injEq, Prod.mk.injEq] at hr
    obtain ⟨⟨rfl, rfl, rfl⟩, _⟩ := hr
    exact ⟨ges, gobc, Ic, arr, rfl, rfl, by simp [Instr.fill], hc, rfl, hw, hd⟩
  | (i, x) :: ps, qs, ges, c, kl, gobc, Ic, arr, hq, hw, hd, hc, hs, r, r', es', c', kl', hr => by
    simp only [cElems] at hq
    obtain ⟨y, hy, hq⟩ := bind_some_inv hq
    obtain ⟨qs', hqs, rfl⟩ := map_some_inv hq
    simp only [layElems] at hr
    split at hr
    · simp [Lk.run] at hr
    · rename_i v hv
      simp only [Lk.run_bind] at hr
      obtain ⟨⟨⟨z, c1, k1⟩, r1⟩, hdep, hr⟩ := bind_some_inv hr
      simp only at hr
      split at hr
      · rename_i hcond
        simp only [Bool.and_eq_true, decide_eq_true_eq, beq_iff_eq, List.length_map] at hcond
        have hval := opr_val hG h hy hv
        obtain ⟨g, g1, I1, rfl, e2, e4, e5, e6⟩ := way_dep h.era hw hd hval hdep
        have hal := dep_alive hdep
        have hTg := e4.sto.fhol g (by simp)
        have hgl : (GV.leafs g).length = sz := by rw [hTg.leafs_era, List.length_map] at hcond; exact hcond.2
        have hget : ∃ q, ges[i]? = some q := ⟨ges[i], List.getElem?_eq_getElem hcond.1⟩
        obtain ⟨q, hq⟩ := hget
        obtain ⟨rest, Q1, Q2, Q3⟩ := ownL_set hq g
        have hnd := e4.sto.fnod
        simp only [GV.own.ownL] at hnd
        have hsub : ∀ b ∈ own.ownL (ges.set i g), b ∈ own.ownL (g :: ges) := fun b hb => by
          have := Q2.mem_iff.1 hb
          simp only [GV.own.ownL, List.mem_append] at this ⊢
          rcases this with h | h
          · exact .inl h
          · exact .inr (Q1.mem_iff.2 (by simp [h]))
        have hnd' : (own.ownL (ges.set i g)).Nodup := by
          rw [Q2.nodup_iff]
          have := (((Q1.append_left g.own)).nodup_iff).1 hnd
          rw [List.nodup_append] at this ⊢
          refine ⟨this.1, (List.nodup_append.1 this.2.1).2.1, fun x hx y hy => this.2.2 x hx y (by simp [hy])⟩
        have hW := e4.fewer hnd' hsub (fun x hx => by
          rcases List.mem_or_eq_of_mem_set hx with hx | rfl
          · exact e4.sto.fhol x (by simp [hx])
          · exact hTg)
        have hmul : i * sz + sz ≤ arr.size := by
          rw [hs, ← Nat.succ_mul]; exact Nat.mul_le_mul_right _ hcond.1
        have hxv : (a.eval x).cells = ((GV.leafs g).map GV.cv).toArray := by rw [← e2]; exact hTg.cv_cells hal
        obtain ⟨arr1, f1, f2, f3⟩ := fill_cons (place := fun i => some (i * sz, sz)) (cells := arr) (i := i) (v := a.eval x) (rest := ps.map fun (i, x) => (i, a.eval x)) rfl (by rw [hxv]; simpa using hgl) hmul
        have hc1 : CellsA arr1 sz (ges.set i g) := by
          intro j e he
          rw [List.getElem?_set] at he
          split at he
          · rename_i hij
            subst hij
            split at he
            · simp only [Option.some.injEq] at he; subst he
              refine ⟨hgl, fun k l hl => ?_⟩
              have hk : k < sz := hgl ▸ lt_of_get hl
              rw [f3, if_pos (by omega), hxv, show i * sz + k - i * sz = k by omega]
              simp [hl]
            · cases he
          · rename_i hij
            refine ⟨(hc j e he).1, fun k l hl => ?_⟩
            have hk : k < sz := (hc j e he).1 ▸ lt_of_get hl
            rw [f3, if_neg]
            · exact (hc j e he).2 k l hl
            · intro hh
              rcases Nat.lt_or_gt_of_ne hij with h' | h'
              · have : (i + 1) * sz ≤ j * sz := Nat.mul_le_mul_right _ h'
                rw [Nat.add_mul, Nat.one_mul] at this; omega
              · have : (j + 1) * sz ≤ i * sz := Nat.mul_le_mul_right _ h'
                rw [Nat.add_mul, Nat.one_mul] at this; omega
        rw [← List.map_set] at hr
        obtain ⟨ges', g2, I2, arr2, h1, h2, h3, h4, h5, h6, h7⟩ := way_lay hG h ps qs' hqs hW e5 hc1 (by rw [f2, hs, List.length_set]) hr
        exact ⟨ges', g2, I2, arr2, h1, by rw [h2, List.length_set], by simp only [List.map_cons]; rw [f1]; exact h3, h4, by rw [h5, f2], h6, h7⟩
      · simp [Lk.run] at hr

theorem run_buildSlice {t e : TypeId} {fo : TypeInfo} {z : Value} (ht : P.underlying t = some (.slice e)) (hi : P.info? e = some fo) (hz : fo.zero = some z) {len : Nat} {parts : Array (Nat × Value)} {arr' : Array Value} (hn : len * fo.size ≤ 65536)
    (hfill : Instr.fill (fun i => some (i * fo.size, fo.size)) (madeCells z.cells (len * fo.size)) parts.toList = some arr') :
    (Instr.buildSlice t len parts).run P w = .ok (.slice (some ⟨w.heap.size, 0, none⟩) len len) (w.alloc (.cells arr' e)) := by
  have hn1 : ¬ (len * fo.size > 2 ^ 24) := by omega
  unfold madeCells at hfill
  unfold Instr.buildSlice
  by_cases hz0 : len * fo.size = 0
  · rw [hz0] at hfill
    simp only [Array.range_zero', Array.map_empty] at hfill
    simp only [Sem.run_bind, run_und ht, Result.andThen_ok, run_size hi, hz0, if_true, Sem.run_pure]
    rw [if_neg (by omega)]
    simp only [Sem.run_pure, Result.andThen_ok, Array.range_zero', Array.map_empty, hfill, newRow, Sem.run_bind]
    rfl
  · simp only [Sem.run_bind, run_und ht, Result.andThen_ok, run_size hi, hn1, hz0, if_false, run_zero hi hz, Sem.run_pure, hfill, newRow]
    rfl

theorem does_bsl (hG : GlobOK G cx) (h : Inv cx gob I s a w) {o : Oper} {t e : TypeId} {len : Nat} {ps : Array (Nat × Operand)} (ho : o.op = .buildSlice t len ps) (ht : P.underlying t = some (.slice e)) {i : Ti} (hi : tiOf P e = some i) {z : AV}
    (hz : zeroA P e = some z) (hzl : (leafs z).length = i.n) (h0 : 0 < i.n) (hlen : len * i.n ≤ 65536) {qs : List (Nat × Opr)} (hq : cElems G ps.toList = some qs) {r r' : List Nat} {es : List AV} {c : Ch} {kl : List Kl}
    (hr : (layElems s.val i.n qs (List.replicate len z) [] []).run s.obj r = some ((es, c, kl), r')) (ky : Nat) (f : Bool) :
    Does P cx gob I w a.eval o { v := .sref ky 0 [] 0 len, ch := (ky, [.sl 1 f i.n es]) :: c, kl := ⟨ky, none, false⟩ :: kl } := by
  obtain ⟨d, fo, hu, hinf, rfl⟩ := tiOf_inv hi
  obtain ⟨inf, v, hi', hv, hcv⟩ := zeroA_inv hz
  rw [hinf] at hi'; simp only [Option.some.injEq] at hi'; subst hi'
  obtain ⟨g, rfl, rfl, hT, hown, _⟩ := cvA_val (w := w) (I := I) (K := cx.K) 3 v z hcv
  have hal := cvA_alive hcv
  rw [hT.leafs_era, List.length_map] at hzl
  simp only at hzl hr h0 hlen ⊢
  have hW : Way cx gob I w gob (List.replicate len g) I w [] [] := (Way.start h.sto).fewer (by rw [replicate_own hown]; exact List.nodup_nil) (by rw [replicate_own hown]; simp) (fun x hx => by rw [List.eq_of_mem_replicate hx]; exact hT)
  rw [← List.map_replicate] at hr
  obtain ⟨ges', gob1, I1, arr', h1, h2, h3, h4, h5, h6, h7⟩ := way_lay hG h ps.toList qs hq hW (by simp [Ded]) (made_cellsA hT hal hzl len len (Nat.le_refl _)) (by rw [size_madeCells]; simp) hr
  simp only [List.length_replicate] at h2
  obtain ⟨gob', k1, k2⟩ := newRow_way h6 (Grow.alloc w (.cells arr' e)) (heap_alloc_new w _) h4 (cap := len) (by omega) (by rw [h5, size_madeCells]; exact Nat.le_refl _) ky f
  refine ⟨.slice (some ⟨w.heap.size, 0, none⟩) len len, w.alloc (.cells arr' e), ?_, gob', I1, ?_⟩
  · rw [show o = { o with op := .buildSlice t len ps } by cases o; simp_all]
    simp only [execOp]
    rw [Sem.run_bind, run_buildSlice ht hinf hv (by omega) (arr' := arr') (by rw [← h3]; simp)]
    rfl
  · have := k1.post (sref_new k2 (n := len) (by omega) (Nat.le_refl _) (Nat.le_refl _))
    rw [h1] at this
    exact this

end
end Go.AM

/- AM, part 19: structs and arrays that are built; an array's slice. -/
namespace Go.AM
open GV

section
variable {P : Program} {G : Globs} {cx : Cx} {gob : Nat → List GV} {I : Nat → Prop} {s : St} {a : Act} {w : World}

theorem Vals.one {v : AV} {x : Value} (h : Val cx gob I w v x) : Vals cx gob I w [v] [x] := .cons _ _ _ _ h .nil

theorem Val.leafs_vals {v : AV} {x : Value} (h : Val cx gob I w v x) (hs : solid v = true) : Vals cx gob I w (leafs v) x.cells.toList ∧ ∀ l ∈ leafs v, leafyA l = true := by
  have one : (∀ cs, v ≠ .agg cs) → (∀ cs, x ≠ .agg cs) → leafyA v = true → Vals cx gob I w (leafs v) x.cells.toList ∧ ∀ l ∈ leafs v, leafyA l = true := by
    intro h1 h2 h3
    have e1 : leafs v = [v] := by cases v <;> first | rfl | exact absurd rfl (h1 _)
    have e2 : x.cells = #[x] := by cases x <;> first | rfl | exact absurd rfl (h2 _)
    rw [e1, e2]
    exact ⟨Vals.one h, fun l hl => by simp only [List.mem_singleton] at hl; subst hl; exact h3⟩
  cases v with
  | dead => simp [solid] at hs
  | tup => simp [solid] at hs
  | agg cs =>
    obtain ⟨xs, rfl, hv, hl⟩ := h.agg_inv
    simpa [leafs, Value.cells] using ⟨hv, hl⟩
  | lit y =>
    obtain ⟨rfl, hg⟩ := h.lit_inv
    exact one (by simp) (fun cs e => by subst e; simp [ground] at hg) rfl
  | fn f p q =>
    obtain ⟨xs, ys, rfl, _⟩ := h.fn_inv
    exact one (by simp) (by simp) rfl
  | sl m f sz es =>
    rcases h.sl_inv with ⟨_, rfl, _⟩ | ⟨gs, b, off, cap, _, rfl, _⟩ <;> exact one (by simp) (by simp) rfl
  | pt o e =>
    obtain ⟨g, b, off, _, rfl, _⟩ := h.pt_inv
    exact one (by simp) (by simp) rfl
  | sref o k0 p off n =>
    have := h.ref_inv (.inl ⟨_, _, _, _, _, rfl⟩)
    cases this; exact one (by simp) (by simp) rfl
  | pref o k0 p i k =>
    have := h.ref_inv (.inr ⟨_, _, _, _, _, rfl⟩)
    cases this <;> exact one (by simp) (by simp) rfl

/-- Parts and where they go. -/
inductive CP (G : Globs) (place : Nat → Option (Nat × Nat)) : List (Nat × Operand) → List (Nat × Nat × Opr) → Prop where
  | nil : CP G place [] []
  | cons (i : Nat) (x : Operand) (y : Opr) (off n : Nat) (ps : List (Nat × Operand)) (qs : List (Nat × Nat × Opr)) : place i = some (off, n) → cOpr G x = some y → CP G place ps qs → CP G place ((i, x) :: ps) ((off, n, y) :: qs)

theorem Vals.splice {cs ls : List AV} {xs ys : List Value} (h : Vals cx gob I w cs xs) (k : Vals cx gob I w ls ys) (off : Nat) : Vals cx gob I w (cs.take off ++ ls ++ cs.drop (off + ls.length)) (xs.take off ++ ys ++ xs.drop (off + ys.length)) := by
  rw [k.length]
  exact ((h.take off).append k).append (h.drop _)

theorem setParts_vals (hG : GlobOK G cx) (h : Inv cx gob I s a w) {place : Nat → Option (Nat × Nat)} : ∀ {ps : List (Nat × Operand)} {qs : List (Nat × Nat × Opr)}, CP G place ps qs → ∀ {l : List (Nat × Nat × AV)} {cs cs' : List AV} {arr : Array Value},
    evParts s.val qs = some l → setParts cs l = some cs' → Vals cx gob I w cs arr.toList → (∀ c ∈ cs, leafyA c = true) →
    ∃ arr', Instr.fill place arr (ps.map fun (i, x) => (i, a.eval x)) = some arr' ∧ Vals cx gob I w cs' arr'.toList ∧ (∀ c ∈ cs', leafyA c = true) := by
  intro ps qs hcp
  induction hcp with
  | nil =>
    intro l cs cs' arr hl hs hv hlf
    simp only [evParts, Option.some.injEq] at hl; subst hl
    simp only [setParts, Option.some.injEq] at hs; subst hs
    exact ⟨arr, by simp [Instr.fill], hv, hlf⟩
  | cons i x y off n ps qs hp hy _ ih =>
    intro l cs cs' arr hl hs hv hlf
    simp only [evParts] at hl
    obtain ⟨v, hv1, hl⟩ := bind_some_inv hl
    obtain ⟨l', hl', rfl⟩ := map_some_inv hl
    simp only [setParts] at hs
    split at hs
    · rename_i hc
      simp only [Bool.and_eq_true, beq_iff_eq, decide_eq_true_eq] at hc
      obtain ⟨⟨hso, hln⟩, hle⟩ := hc
      obtain ⟨k1, k2⟩ := (opr_val hG h hy hv1).leafs_vals hso
      have hsz : (a.eval x).cells.size = n := by rw [← Array.length_toList, ← k1.length]; exact hln
      have hal : cs.length = arr.size := by rw [hv.length, Array.length_toList]
      obtain ⟨arr1, f1, f2, f3⟩ := fill_cons (place := place) (cells := arr) (i := i) (v := a.eval x) (rest := ps.map fun (i, x) => (i, a.eval x)) hp hsz (by omega)
      have harr : arr1.toList = arr.toList.take off ++ (a.eval x).cells.toList ++ arr.toList.drop (off + (a.eval x).cells.toList.length) := by
        apply List.ext_getElem?
        intro j
        rw [Array.getElem?_toList, f3, List.append_assoc]
        simp only [List.getElem?_append, List.length_take, Array.length_toList, List.getElem?_take, List.getElem?_drop, Array.getElem?_toList, hsz]
        rw [show min off arr.size = off by omega]
        by_cases h1 : j < off
        · rw [if_neg (by omega), if_pos h1, if_pos h1]
        · rw [if_neg h1]
          by_cases h2 : j < off + n
          · rw [if_pos (by omega), if_pos (by omega)]
          · rw [if_neg (by omega), if_neg (by omega)]
            congr 1; omega
      have hvs := hv.splice k1 off
      rw [← harr, hln] at hvs
      obtain ⟨arr', g1, g2, g3⟩ := ih hl' hs hvs (fun c hc => by
        simp only [List.mem_append] at hc
        rcases hc with (hc | hc) | hc
        · exact hlf c (List.mem_of_mem_take hc)
        · exact k2 c hc
        · exact hlf c (List.mem_of_mem_drop hc))
      exact ⟨arr', by simp only [List.map_cons]; rw [f1]; exact g1, g2, g3⟩
    · cases hs

theorem cPartsA_cp {G : Globs} {sz : Nat} : ∀ (ps : List (Nat × Operand)) (qs : List (Nat × Nat × Opr)), cPartsA G sz ps = some qs → CP G (fun i => some (i * sz, sz)) ps qs
  | [], qs, h => by simp only [cPartsA, Option.some.injEq] at h; subst h; exact .nil
  | (i, x) :: ps, qs, h => by
    simp only [cPartsA] at h
    obtain ⟨y, hy, h⟩ := bind_some_inv h
    obtain ⟨r, hr, rfl⟩ := map_some_inv h
    exact .cons _ _ _ _ _ _ _ rfl hy (cPartsA_cp ps r hr)

theorem cParts_cp {G : Globs} {fs : Array Field} {place : Nat → Option (Nat × Nat)} (hp : ∀ i f inf, fs[i]? = some f → P.info? f.type = some inf → place i = some (f.offset, inf.size)) :
    ∀ (ps : List (Nat × Operand)) (qs : List (Nat × Nat × Opr)), cParts P G fs ps = some qs → CP G place ps qs
  | [], qs, h => by simp only [cParts, Option.some.injEq] at h; subst h; exact .nil
  | (i, x) :: ps, qs, h => by
    simp only [cParts] at h
    split at h
    · rename_i f y hf hy
      split at h
      · rename_i inf hi
        obtain ⟨r, hr, rfl⟩ := map_some_inv h
        exact .cons _ _ _ _ _ _ _ (hp i f inf hf hi) hy (cParts_cp hp ps r hr)
      · cases h
    · cases h

theorem places_list : ∀ (fs : List Field), (fs.all fun (f : Field) => (P.info? f.type).isSome) = true → ∃ places : List (Nat × Nat), (fs.mapM fun (f : Field) => (P.info? f.type).map fun i => (f.offset, i.size)) = some places ∧
    ∀ (i : Nat) (f : Field) (inf : TypeInfo), fs[i]? = some f → P.info? f.type = some inf → places[i]? = some (f.offset, inf.size)
  | [], _ => ⟨[], rfl, by simp⟩
  | f :: fs, h => by
    simp only [List.all_cons, Bool.and_eq_true] at h
    obtain ⟨inf, hi⟩ := Option.isSome_iff_exists.1 h.1
    obtain ⟨places, h1, h2⟩ := places_list fs h.2
    refine ⟨(f.offset, inf.size) :: places, by simp [List.mapM_cons, hi, h1], fun j g jf hg hj => ?_⟩
    cases j with
    | zero => simp only [List.getElem?_cons_zero, Option.some.injEq] at hg; subst hg; rw [hi] at hj; simp only [Option.some.injEq] at hj; subst hj; rfl
    | succ j => simp only [List.getElem?_cons_succ] at hg ⊢; exact h2 j g jf hg hj

theorem zero_vals {v : Value} {z : AV} (hc : cvA 3 v = some z) : Vals cx gob I w (leafs z) v.cells.toList ∧ ∀ l ∈ leafs z, leafyA l = true := by
  obtain ⟨g, rfl, rfl, hT, hown, _⟩ := cvA_val (w := w) (I := I) (K := cx.K) 3 v z hc
  refine (Val.tree (gob := gob) hT hown).leafs_vals ?_
  have := cvA_alive hc
  cases hT <;> simp_all [GV.era, solid]

theorem tells_build (hG : GlobOK G cx) (h : Inv cx gob I s a w) {o : Oper} {t : TypeId} {ps : Array (Nat × Operand)} (ho : o.op = .build t ps) {z : AV} (hz : zeroA P t = some z) {qs : List (Nat × Nat × Opr)}
    (hq : (∃ fs, P.underlying t = some (.struct fs) ∧ allInfo P fs = true ∧ cParts P G fs ps.toList = some qs) ∨ (∃ n e i, P.underlying t = some (.array n e) ∧ P.info? e = some i ∧ cPartsA G i.size ps.toList = some qs))
    {l : List (Nat × Nat × AV)} {cs : List AV} (hl : evParts s.val qs = some l) (hs : setParts (leafs z) l = some cs) : Tells P cx gob I w a.eval o (.agg cs) := by
  obtain ⟨inf, v, hi, hv, hcv⟩ := zeroA_inv hz
  obtain ⟨hz1, hz2⟩ := zero_vals (cx := cx) (gob := gob) (I := I) (w := w) hcv
  have fin : ∀ place, CP G place ps.toList qs → (∀ cells, Instr.fill place v.cells (ps.toList.map fun (i, x) => (i, a.eval x)) = some cells → P.built t (ps.map fun (i, x) => (i, a.eval x)).toList = some cells) → Tells P cx gob I w a.eval o (.agg cs) := by
    intro place hcp hb
    obtain ⟨arr', f1, f2, f3⟩ := setParts_vals hG h hcp hl hs hz1 hz2
    refine ⟨.agg arr', ?_, by simpa using f2.agg f3⟩
    rw [show o = { o with op := .build t ps } by cases o; simp_all]
    simp only [execOp]
    rw [Sem.run_bind, run_build w t _ arr' (hb arr' f1)]
    rfl
  have hmap : (ps.map fun (x : Nat × Operand) => (x.1, a.eval x.2)).toList = ps.toList.map fun x => (x.1, a.eval x.2) := by simp
  rcases hq with ⟨fs, hu, ha, hc⟩ | ⟨n, e, i, hu, hie, hc⟩
  · have ha' : (fs.toList.all fun f => (P.info? f.type).isSome) = true := by simpa [allInfo] using ha
    obtain ⟨places, hp1, hp2⟩ := places_list fs.toList ha'
    refine fin (places.toArray[·]?) (cParts_cp (P := P) (fun i f inf hf hi => ?_) _ _ hc) (fun cells hcells => ?_)
    · simpa using hp2 i f inf (by simpa using hf) hi
    · unfold Program.built
      simp only [hi, hu, hv, hp1]
      rw [← hcells]; congr 1
  · refine fin _ (cPartsA_cp _ _ hc) (fun cells hcells => ?_)
    unfold Program.built
    simp only [hi, hu, hv, hie]
    rw [← hcells]; congr 1

/-- An array's elements. -/
def gchunks (sz : Nat) (ag : Bool) : Nat → List GV → List GV
  | 0, _ => []
  | n + 1, l => (if ag then .agg (l.take sz) else (l.head?).getD (.dead (.tuple #[]))) :: gchunks sz ag n (l.drop sz)

theorem gchunks_era (sz : Nat) (ag : Bool) : ∀ (n : Nat) (l : List GV), (gchunks sz ag n l).map GV.era = chunks sz ag n (l.map GV.era)
  | 0, _ => rfl
  | n + 1, l => by
    simp only [gchunks, chunks, List.map_cons, gchunks_era sz ag n, List.map_drop]
    congr 1
    cases ag with
    | true => simp [GV.era, eraL_eq, List.map_take]
    | false => cases l <;> simp [GV.era]

theorem gchunks_len (sz : Nat) (ag : Bool) : ∀ (n : Nat) (l : List GV), (gchunks sz ag n l).length = n
  | 0, _ => rfl
  | n + 1, l => by simp [gchunks, gchunks_len sz ag n]

theorem gchunks_own (sz : Nat) (ag : Bool) (h1 : ag = true ∨ sz = 1) : ∀ (n : Nat) (l : List GV), l.length = n * sz → own.ownL (gchunks sz ag n l) = own.ownL l
  | 0, l, h => by
    have : l = [] := List.length_eq_zero_iff.1 (by omega)
    subst this; rfl
  | n + 1, l, h => by
    simp only [gchunks, GV.own.ownL]
    rw [gchunks_own sz ag h1 n _ (by rw [List.length_drop, h, Nat.add_mul]; omega)]
    have : own.ownL l = own.ownL (l.take sz) ++ own.ownL (l.drop sz) := by rw [← ownL_append, List.take_append_drop]
    rw [this]
    congr 1
    cases ag with
    | true => simp [GV.own]
    | false =>
      have hsz : sz = 1 := by simpa using h1
      subst hsz
      cases l with
      | nil => simp at h
      | cons x l => simp [GV.own.ownL]

theorem gchunks_get (sz : Nat) (ag : Bool) (h1 : ag = true ∨ sz = 1) : ∀ (n : Nat) (l : List GV), l.length = n * sz → (∀ x ∈ l, x.leafy = true) → ∀ i e, (gchunks sz ag n l)[i]? = some e →
    (GV.leafs e).length = sz ∧ (∀ k x, (GV.leafs e)[k]? = some x → l[i * sz + k]? = some x) ∧ (∀ {w : World} {I : Nat → Prop} {K : Nat → Nat → Prop}, (∀ x ∈ l, HT w I K x) → HT w I K e)
  | 0, l, h, _, i, e, he => by simp [gchunks] at he
  | n + 1, l, h, hl, i, e, he => by
    have hsl : sz ≤ l.length := by rw [h, Nat.add_mul]; omega
    cases i with
    | zero =>
      simp only [gchunks, List.getElem?_cons_zero, Option.some.injEq] at he
      cases ag with
      | true =>
        simp only [if_true] at he; subst he
        refine ⟨by simp [GV.leafs]; omega, fun k x hk => ?_, fun hT => .agg _ (fun c hc => hT c (List.mem_of_mem_take hc)) (fun c hc => hl c (List.mem_of_mem_take hc))⟩
        simp only [GV.leafs, List.getElem?_take] at hk
        split at hk
        · simpa using hk
        · cases hk
      | false =>
        have hsz : sz = 1 := by simpa using h1
        subst hsz
        cases l with
        | nil => simp at h
        | cons y l =>
          simp only [Bool.false_eq_true, if_false, List.head?_cons, Option.getD_some] at he
          subst he
          have hy : GV.leafs y = [y] := by
            have := hl y (by simp)
            cases y <;> simp [GV.leafy] at this <;> rfl
          rw [hy]
          refine ⟨rfl, fun k x hk => ?_, fun hT => hT y (by simp)⟩
          cases k with
          | zero => simpa using hk
          | succ k => simp at hk
    | succ i =>
      simp only [gchunks, List.getElem?_cons_succ] at he
      obtain ⟨g1, g2, g3⟩ := gchunks_get sz ag h1 n (l.drop sz) (by rw [List.length_drop, h, Nat.add_mul]; omega) (fun x hx => hl x (List.mem_of_mem_drop hx)) i e he
      refine ⟨g1, fun k x hk => ?_, fun hT => g3 (fun x hx => hT x (List.mem_of_mem_drop hx))⟩
      have := g2 k x hk
      rw [List.getElem?_drop] at this
      rw [Nat.add_mul, ← this]
      congr 1; omega

theorem Way.init (h : Inv cx gob I s a w) : Way cx gob I w gob [] I w [] [] := Way.start h.sto

theorem run_sliceBounds_none (P : Program) (w : World) (b : Bool) (n c : Nat) : (Instr.sliceBounds b n c none none none).run P w = .ok (0, n, c) w := by
  simp [Instr.sliceBounds]

theorem does_slarr (hG : GlobOK G cx) (h : Inv cx gob I s a w) {o : Oper} {t e : TypeId} {len : Nat} {x : Operand} (ho : o.op = .slice t x none none none) (ht : P.underlying t = some (.array len e)) {i : Ti} (hi : tiOf P e = some i)
    {y : Opr} (hx : cOpr G x = some y) {o' k0 : Nat} (hv : s.val y = some (.pref o' k0 [] 0 0)) {cs : List AV} (hn : nodeIn (s.obj o') k0 [] = some (.pt true (.agg cs))) (hlen : cs.length = len * i.n) (hag : i.ag = true ∨ i.n = 1) (ky : Nat) (f : Bool) :
    Does P cx gob I w a.eval o { v := .sref ky 0 [] 0 len, ch := [(ky, [.sl 1 f i.n (chunks i.n i.ag len cs)]), (o', (s.obj o').set k0 .dead)], kl := [⟨ky, none, false⟩, ⟨o', some k0, false⟩] } := by
  obtain ⟨d, fo, hu, hinf, rfl⟩ := tiOf_inv hi
  simp only at hlen hag ⊢
  have hR := (opr_val hG h hx hv).ref_inv (.inr ⟨_, _, _, _, _, rfl⟩)
  rw [h.era, nodeIn_era (h.sto.hol o')] at hn
  obtain ⟨g, hg, hge⟩ := map_some_inv hn
  have hTg := h.sto.node hg
  have hev : ∀ b off, a.eval x = .pointer (some ⟨b, off, none⟩) → (execOp a.eval o).run P w = .ok (.value (.slice (some ⟨b, off, none⟩) len len)) w := by
    intro b off hev
    rw [show o = { o with op := .slice t x none none none } by cases o; simp_all]
    simp only [execOp, Instr.sliceAt, hev, Option.map_none]
    by_cases hl0 : len = 0
    · subst hl0; simp [run_und ht, Instr.sureAddr, run_sliceBounds_none, run_size hinf]
    · simp [run_und ht, Instr.sureAddr, run_sliceBounds_none, run_size hinf, Addr.add]
  generalize hxe : a.eval x = xv at hR
  cases hR with
  | ps _ _ _ _ _ m fl' sz es b off0 cap0 hn' hi' => rw [hg] at hn'; simp only [Option.some.injEq] at hn'; subst hn'; simp [GV.era] at hge
  | pp _ _ _ _ ow el b off0 hn' =>
    rw [hg] at hn'; simp only [Option.some.injEq] at hn'; subst hn'
    simp only [GV.era, AV.pt.injEq] at hge
    obtain ⟨rfl, hel⟩ := hge
    simp only [Nat.add_zero] at hxe
    have hTe := hTg.pointee
    obtain ⟨gs, rfl, hgs⟩ : ∃ gs, el = .agg gs ∧ gs.map GV.era = cs := by
      cases hTe <;> simp [GV.era, eraL_eq] at hel
      exact ⟨_, rfl, hel⟩
    subst hgs
    rw [List.length_map] at hlen
    have hk : (gob o')[k0]? = some (.pt true (.agg gs) b off0) := by
      unfold gnodeIn at hg
      cases hq : (gob o')[k0]? with
      | none => simp [hq] at hg
      | some q => simp only [hq, gnodeAt, Option.some.injEq] at hg; rw [hg]
    have hlf : ∀ x ∈ gs, x.leafy = true := fun x hx => hTe.leafy (g := .agg gs) hx
    have hTl : ∀ x ∈ gs, HT w I cx.K x := fun x hx => hTe.leaf (g := .agg gs) hx
    have hget := gchunks_get fo.size (isAggD d) hag len gs hlen hlf
    have hown := gchunks_own fo.size (isAggD d) hag len gs hlen
    have hT' : HT w I cx.K (.sl 1 f fo.size (gchunks fo.size (isAggD d) len gs) b off0 len) := by
      cases hTg with
      | pt _ _ _ _ p1 p2 p3 p4 =>
        obtain ⟨⟨arr, T, ha, hs⟩, hkk⟩ := p4 rfl
        simp only [GV.leafs, hlen] at hs hkk
        refine .sl _ _ _ _ _ _ _ (by rw [gchunks_len]; exact Nat.le_refl _) (fun j e he => ⟨(hget j e he).1, fun k l hl => ?_⟩) (fun e he => ?_) (fun h => by simp [ownM] at h) (fun h => by cases h) (fun _ => ⟨⟨arr, T, ha, hs⟩, fun j hj => hkk j hj⟩) (fun h => by cases h)
        · have := p1 _ _ ((hget j e he).2.1 k l hl)
          rwa [← Nat.add_assoc] at this
        · obtain ⟨j, hj⟩ := List.mem_iff_getElem?.1 he
          exact (hget j e hj).2.2 hTl
    have hW := (Way.init h).moveRoot hk (by simp) (.sl 1 f fo.size (gchunks fo.size (isAggD d) len gs) b off0 len) (by simp [GV.own, ownM, hown]) hT' (.tuple #[])
    have hW2 := hW.place (w' := w) ⟨rfl, rfl, rfl, Nat.le_refl _, fun _ _ => rfl⟩ ky [.sl 1 f fo.size (gchunks fo.size (isAggD d) len gs) b off0 len] [] (by simpa [GV.own.ownL] using hW.sto.fnod) (fun b hb => .inl (by simpa [GV.own.ownL] using hb)) (fun x hx => by simp only [List.mem_singleton] at hx; subst hx; exact hT') (by simp)
    refine ⟨_, w, hev b off0 hxe, AM.upd (AM.upd gob o' ((gob o').set k0 (.dead (.tuple #[])))) ky [.sl 1 f fo.size (gchunks fo.size (isAggD d) len gs) b off0 len], I, ?_⟩
    have hr : RefOK (AM.upd (AM.upd gob o' ((gob o').set k0 (.dead (.tuple #[])))) ky [.sl 1 f fo.size (gchunks fo.size (isAggD d) len gs) b off0 len]) (.sref ky 0 [] 0 len) (.slice (some ⟨b, off0, none⟩) len len) := by
      have := RefOK.s (gob := AM.upd (AM.upd gob o' ((gob o').set k0 (.dead (.tuple #[])))) ky [.sl 1 f fo.size (gchunks fo.size (isAggD d) len gs) b off0 len]) ky 0 [] 0 len 1 f fo.size (gchunks fo.size (isAggD d) len gs) b off0 len len (by simp [gnodeIn, upd_same, gnodeAt]) (by rw [gchunks_len]; omega) (Nat.le_refl _) (by omega)
      simpa using this
    have := hW2.post (Val.ref hr)
    simp only [List.map_cons, List.map_nil, GV.era, eraL_eq, gchunks_era] at this
    rw [h.era]
    exact this

end
end Go.AM

/- AM, part 20: a store into an object. -/
namespace Go.AM
open GV

def gputElem (i k : Nat) (xs : List GV) : GV → Option GV
  | .sl m fl sz es b off cap => if m == 1 || m == 3 then (es[i]?).bind fun e => if k + xs.length ≤ (GV.leafs e).length then some (.sl m fl sz (es.set i (gputLeafs e k xs)) b off cap) else none else none
  | .pt true e b off => if i == 0 && k + xs.length ≤ (GV.leafs e).length then some (.pt true (gputLeafs e k xs) b off) else none
  | _ => none

theorem gputElem_era {w : World} {I : Nat → Prop} {K : Nat → Nat → Prop} {n : GV} (h : HT w I K n) (i k : Nat) (xs : List GV) : putElem i k (xs.map GV.era) n.era = (gputElem i k xs n).map GV.era := by
  cases h with
  | sl m fl sz es b off cap h1 h2 h3 h4 h5 h6 h7 =>
    simp only [GV.era, putElem, gputElem, eraL_eq, List.getElem?_map, List.length_map]
    split
    · cases he : es[i]? with
      | none => simp
      | some e =>
        have hT := h3 e (List.mem_of_getElem? he)
        simp only [Option.map_some, Option.bind_some, hT.leafs_era, List.length_map]
        split
        · simp [GV.era, eraL_eq, List.map_set, gputLeafs_era k xs hT.leafs_era hT.nref]
        · rfl
    · rfl
  | pt o e b off h1 h2 h3 h4 =>
    cases o with
    | false => simp [GV.era, putElem, gputElem]
    | true =>
      simp only [GV.era, putElem, gputElem, h2.leafs_era, List.length_map]
      split
      · simp [GV.era, gputLeafs_era k xs h2.leafs_era h2.nref]
      · rfl
  | nl m fl sz hm => simp [GV.era, putElem, gputElem]
  | _ => simp [GV.era, putElem, gputElem]

theorem leafs_gputs {e : GV} {k : Nat} {xs : List GV} (h : k + xs.length ≤ (GV.leafs e).length) (hl : ∀ x ∈ xs, x.leafy = true) : GV.leafs (gputLeafs e k xs) = (GV.leafs e).take k ++ xs ++ (GV.leafs e).drop (k + xs.length) := by
  have one : (GV.leafs e) = [e] → (∀ x, xs = [x] → gputLeafs e k xs = x) → (xs = [] → gputLeafs e k xs = e) → GV.leafs (gputLeafs e k xs) = (GV.leafs e).take k ++ xs ++ (GV.leafs e).drop (k + xs.length) := by
    intro h1 h2 h3
    rw [h1] at h ⊢
    rcases xs with _ | ⟨x, _ | ⟨y, z⟩⟩
    · rw [h3 rfl]; simp [h1]
    · have hk : k = 0 := by simp at h; omega
      subst hk
      rw [h2 x rfl]
      have := hl x (by simp)
      cases x <;> simp [GV.leafy] at this <;> simp [GV.leafs]
    · simp at h; omega
  cases e with
  | agg cs => simp [gputLeafs, GV.leafs]
  | _ => exact one rfl (fun x hx => by subst hx; rfl) (fun hx => by subst hx; rfl)

theorem splice_get {α : Type} {l xs : List α} {k j : Nat} (h : k + xs.length ≤ l.length) : (l.take k ++ xs ++ l.drop (k + xs.length))[j]? = if k ≤ j ∧ j < k + xs.length then xs[j - k]? else l[j]? := by
  simp only [List.append_assoc, List.getElem?_append, List.length_take, List.getElem?_take, List.getElem?_drop]
  rw [show min k l.length = k by omega]
  by_cases h1 : j < k
  · rw [if_pos h1, if_pos h1, if_neg (by omega)]
  · rw [if_neg h1]
    by_cases h2 : j < k + xs.length
    · rw [if_pos (by omega), if_pos (by omega)]
    · rw [if_neg (by omega), if_neg (by omega)]
      congr 1; omega

theorem HT.gputs {w w' : World} {I I' : Nat → Prop} {K : Nat → Nat → Prop} {e : GV} {k : Nat} {xs : List GV} (h : HT w I K e) (hk : k + xs.length ≤ (GV.leafs e).length) (hl : ∀ x ∈ xs, x.leafy = true) (hT : ∀ x ∈ xs, HT w' I' K x)
    (ho : ∀ c ∈ GV.leafs e, HT w' I' K c) : HT w' I' K (gputLeafs e k xs) := by
  have hlf := leafs_gputs hk hl
  cases e with
  | agg cs =>
    simp only [gputLeafs, GV.leafs] at hlf ⊢
    refine .agg _ (fun c hc => ?_) (fun c hc => ?_)
    · simp only [List.mem_append] at hc
      rcases hc with (hc | hc) | hc
      · exact ho c (List.mem_of_mem_take hc)
      · exact hT c hc
      · exact ho c (List.mem_of_mem_drop hc)
    · simp only [List.mem_append] at hc
      rcases hc with (hc | hc) | hc
      · exact h.leafy (g := .agg cs) (List.mem_of_mem_take hc)
      · exact hl c hc
      · exact h.leafy (g := .agg cs) (List.mem_of_mem_drop hc)
  | tup vs => cases h
  | ref a v => cases h
  | _ =>
    simp only [gputLeafs]
    match xs with
    | [] => exact ho _ (by simp [GV.leafs])
    | [x] => exact hT x (by simp)
    | x :: y :: z => simp [GV.leafs] at hk; omega

theorem gput_ntup {w : World} {I : Nat → Prop} {K : Nat → Nat → Prop} {e : GV} {k : Nat} {xs : List GV} (h : HT w I K e) (hl : ∀ x ∈ xs, x.leafy = true) : ∀ vs, gputLeafs e k xs ≠ .tup vs := by
  intro vs hv
  cases e with
  | agg cs => simp [gputLeafs] at hv
  | tup vs => cases h
  | ref a v => cases h
  | _ =>
    simp only [gputLeafs] at hv
    match xs, hv with
    | [], hv => simp at hv
    | [x], hv => simp only at hv; have := hl x (by simp); subst hv; simp [GV.leafy] at this
    | x :: y :: z, hv => simp at hv

/-- What an element with leaves anew owns. -/
theorem own_gputs {w : World} {I : Nat → Prop} {K : Nat → Nat → Prop} {e : GV} {k : Nat} {xs : List GV} (h : HT w I K e) (hk : k + xs.length ≤ (GV.leafs e).length) (hl : ∀ x ∈ xs, x.leafy = true) :
    ∃ mid kept, e.own.Perm (mid ++ kept) ∧ (gputLeafs e k xs).own.Perm (own.ownL xs ++ kept) := by
  have e1 : e.own = own.ownL (GV.leafs e) := own_leafs e h.ntup
  have e2 : (gputLeafs e k xs).own = own.ownL ((GV.leafs e).take k ++ xs ++ (GV.leafs e).drop (k + xs.length)) := by rw [← leafs_gputs hk hl]; exact own_leafs _ (gput_ntup h hl)
  have e3 : GV.leafs e = (GV.leafs e).take k ++ (((GV.leafs e).drop k).take xs.length ++ (GV.leafs e).drop (k + xs.length)) := by
    have : (GV.leafs e).drop (k + xs.length) = ((GV.leafs e).drop k).drop xs.length := by rw [List.drop_drop]
    rw [this, List.take_append_drop, List.take_append_drop]
  refine ⟨own.ownL (((GV.leafs e).drop k).take xs.length), own.ownL ((GV.leafs e).take k) ++ own.ownL ((GV.leafs e).drop (k + xs.length)), ?_, ?_⟩
  · rw [e1]
    conv => lhs; rw [e3]
    rw [ownL_append, ownL_append, ← List.append_assoc, ← List.append_assoc]
    exact List.Perm.append_right _ List.perm_append_comm
  · rw [e2, ownL_append, ownL_append, ← List.append_assoc]
    exact List.Perm.append_right _ List.perm_append_comm

theorem own_gputElem {w : World} {I : Nat → Prop} {K : Nat → Nat → Prop} {n n' : GV} {i k : Nat} {xs : List GV} (h : HT w I K n) (hp : gputElem i k xs n = some n') (hl : ∀ x ∈ xs, x.leafy = true) :
    ∃ mid kept, n.own.Perm (mid ++ kept) ∧ n'.own.Perm (own.ownL xs ++ kept) := by
  cases h with
  | sl m fl sz es b off cap h1 h2 h3 h4 h5 h6 h7 =>
    simp only [gputElem] at hp
    split at hp
    · rename_i hm
      obtain ⟨e, he, hp⟩ := bind_some_inv hp
      split at hp
      · rename_i hk
        simp only [Option.some.injEq] at hp; subst hp
        obtain ⟨mid, kept, P1, P2⟩ := own_gputs (h3 e (List.mem_of_getElem? he)) hk hl
        obtain ⟨rest, Q1, Q2, _⟩ := ownL_set he (gputLeafs e k xs)
        have hom : ownM m = true := hm
        refine ⟨mid, b :: (kept ++ rest), ?_, ?_⟩
        · simp only [GV.own, hom, if_true]
          refine ((Q1.trans (P1.append_right rest)).cons b).trans ?_
          rw [List.append_assoc]
          exact List.perm_middle.symm
        · simp only [GV.own, hom, if_true]
          refine ((Q2.trans (P2.append_right rest)).cons b).trans ?_
          rw [List.append_assoc]
          exact List.perm_middle.symm
      · cases hp
    · cases hp
  | pt o e b off h1 h2 h3 h4 =>
    cases o with
    | false => simp [gputElem] at hp
    | true =>
      simp only [gputElem] at hp
      split at hp
      · rename_i hk
        simp only [Bool.and_eq_true, decide_eq_true_eq] at hk
        simp only [Option.some.injEq] at hp; subst hp
        obtain ⟨mid, kept, P1, P2⟩ := own_gputs h2 hk.2 hl
        refine ⟨mid, b :: kept, ?_, ?_⟩
        · simp only [GV.own, if_true]
          exact (P1.cons b).trans List.perm_middle.symm
        · simp only [GV.own, if_true]
          exact (P2.cons b).trans List.perm_middle.symm
      · cases hp
  | _ => simp [gputElem] at hp

/-- Where the leaves of an element of a node stand. -/
def nodeAddr (i k : Nat) : GV → Option (Nat × Nat)
  | .sl _ _ sz _ b off _ => some (b, off + i * sz + k)
  | .pt _ _ b off => some (b, off + k)
  | _ => none

/-- **Leaves are written into a node.** -/
theorem node_put {w : World} {I : Nat → Prop} {K : Nat → Nat → Prop} {n n' : GV} {i k b at' : Nat} {xs : List GV} (h : HT w I K n) (hp : gputElem i k xs n = some n') (hA : nodeAddr i k n = some (b, at')) (hl : ∀ x ∈ xs, x.leafy = true)
    (hT : ∀ x ∈ xs, HT w I K x) (hnd : (n.own ++ own.ownL xs).Nodup) (hnI : ¬ I b) :
    b ∈ n.own ∧ (∃ arr T, w.heap[b]? = some (.cells arr T (0, 0)) ∧ at' + xs.length ≤ arr.size) ∧ (∀ j, j < xs.length → ¬ K b (at' + j)) ∧ HT (setCells w b at' (xs.map GV.cv)) I K n' ∧ n'.cv = n.cv ∧ Alike n n' := by
  have hturn := turn_setCells b (xs.map GV.cv) at' w
  have hIh : ∀ b', I b' → I b' ∧ (setCells w b at' (xs.map GV.cv)).heap[b']? = w.heap[b']? := fun b' hb' => ⟨hb', hturn.other b' (fun e => hnI (e ▸ hb'))⟩
  cases h with
  | sl m fl sz es b0 off cap h1 h2 h3 h4 h5 h6 h7 =>
    simp only [nodeAddr, Option.some.injEq, Prod.mk.injEq] at hA
    obtain ⟨rfl, rfl⟩ := hA
    simp only [gputElem] at hp
    split at hp
    · rename_i hm
      have hom : ownM m = true := hm
      obtain ⟨e, he, hp⟩ := bind_some_inv hp
      split at hp
      · rename_i hk
        simp only [Option.some.injEq] at hp; subst hp
        have hil := lt_of_get he
        have hel : (GV.leafs e).length = sz := (h2 i e he).1
        have hTe := h3 e (List.mem_of_getElem? he)
        have hmul : (i + 1) * sz ≤ es.length * sz := Nat.mul_le_mul_right _ hil
        rw [Nat.add_mul, Nat.one_mul] at hmul
        have hcapmul : es.length * sz ≤ cap * sz := Nat.mul_le_mul_right _ h1
        have hblk : ∃ arr T, w.heap[b0]? = some (.cells arr T (0, 0)) ∧ off + es.length * sz ≤ arr.size ∧ (m = 1 → off + cap * sz ≤ arr.size) ∧ (∀ j, j < es.length * sz → ¬ K b0 (off + j)) := by
          simp only [Bool.or_eq_true, beq_iff_eq] at hm
          rcases hm with rfl | rfl
          · obtain ⟨⟨arr, T, ha, hs⟩, hkk⟩ := h6 rfl
            exact ⟨arr, T, ha, by omega, fun _ => hs, fun j hj => hkk j (by omega)⟩
          · obtain ⟨⟨arr, T, ha, hs⟩, hkk⟩ := h7 rfl
            exact ⟨arr, T, ha, hs, (fun h => by cases h), hkk⟩
        obtain ⟨arr, T, ha, hs, hs1, hkk⟩ := hblk
        simp only [GV.own, hom, if_true, List.cons_append, List.nodup_cons, List.mem_append, not_or] at hnd
        obtain ⟨⟨hn1, hn2⟩, hn3⟩ := hnd
        obtain ⟨arr', ha', hs', hget⟩ := block_setCells (xs.map GV.cv) (off + i * sz + k) w arr ha (by rw [List.length_map]; omega)
        have hother : ∀ g : GV, HT w I K g → (∀ b' ∈ g.own, b' ≠ b0) → HT (setCells w b0 (off + i * sz + k) (xs.map GV.cv)) I K g := fun g hg hb => hg.mono hIh (fun _ _ _ h => h) (fun b' hb' => hturn.other b' (hb b' hb'))
        have hes : ∀ g ∈ es, ∀ b' ∈ g.own, b' ≠ b0 := fun g hg b' hb' e => hn1 (by subst e; rw [ownL_eq]; exact List.mem_flatMap.2 ⟨g, hg, hb'⟩)
        have hxs : ∀ g ∈ xs, ∀ b' ∈ g.own, b' ≠ b0 := fun g hg b' hb' e => hn2 (by subst e; rw [ownL_eq]; exact List.mem_flatMap.2 ⟨g, hg, hb'⟩)
        have hel' : ∀ c ∈ GV.leafs e, ∀ b' ∈ c.own, b' ≠ b0 := fun c hc b' hb' => hes e (List.mem_of_getElem? he) b' (by rw [own_leafs e hTe.ntup, ownL_eq]; exact List.mem_flatMap.2 ⟨c, hc, hb'⟩)
        have hlf := leafs_gputs hk hl
        have hTe' : HT (setCells w b0 (off + i * sz + k) (xs.map GV.cv)) I K (gputLeafs e k xs) := hTe.gputs hk hl (fun x hx => hother x (hT x hx) (hxs x hx)) (fun c hc => hother c (hTe.leaf hc) (hel' c hc))
        refine ⟨by simp [GV.own, hom], ⟨arr, T, ha, by omega⟩, fun j hj => ?_, ?_, by simp [GV.cv, lenL_eq], .sl _ _ _ _ _ _ _ _ _ _ (by simp)⟩
        · rw [show off + i * sz + k + j = off + (i * sz + k + j) by omega]
          exact hkk _ (by omega)
        · refine .sl m fl sz _ b0 off cap (by simpa using h1) (fun j x hj => ?_) (fun x hx => ?_) (fun h => by rw [hom] at h; cases h) (fun h => by subst h; simp [ownM] at hom) (fun hm1 => ⟨⟨arr', T, ha', by rw [hs']; exact hs1 hm1⟩, (h6 hm1).2⟩)
            (fun hm3 => by rw [List.length_set]; exact ⟨⟨arr', T, ha', by omega⟩, (h7 hm3).2⟩)
          · rw [List.getElem?_set] at hj
            split at hj
            · rename_i hij
              subst hij
              simp only [hil, if_true, Option.some.injEq] at hj; subst hj
              rw [hlf]
              refine ⟨by simp only [List.length_append, List.length_take, List.length_drop]; omega, fun q l hq => ?_⟩
              rw [splice_get hk] at hq
              rw [cell_block ha', hget]
              simp only [List.length_map]
              split at hq
              · rename_i hr
                rw [if_pos (by omega), show off + i * sz + q - (off + i * sz + k) = q - k by omega, List.getElem?_map, hq]; rfl
              · rename_i hr
                rw [if_neg (by omega), ← cell_block ha]
                exact (h2 i e he).2 q l hq
            · rename_i hij
              refine ⟨(h2 j x hj).1, fun q l hq => ?_⟩
              have hql : q < sz := (h2 j x hj).1 ▸ lt_of_get hq
              rw [cell_block ha', hget, if_neg, ← cell_block ha]
              · exact (h2 j x hj).2 q l hq
              · simp only [List.length_map]
                intro hh
                rcases Nat.lt_or_gt_of_ne hij with h' | h'
                · have : (i + 1) * sz ≤ j * sz := Nat.mul_le_mul_right _ h'
                  rw [Nat.add_mul, Nat.one_mul] at this; omega
                · have : (j + 1) * sz ≤ i * sz := Nat.mul_le_mul_right _ h'
                  rw [Nat.add_mul, Nat.one_mul] at this; omega
          · rcases List.mem_or_eq_of_mem_set hx with hx | rfl
            · exact hother x (h3 x hx) (hes x hx)
            · exact hTe'
      · cases hp
    · cases hp
  | pt o e b0 off h1 h2 h3 h4 =>
    simp only [nodeAddr, Option.some.injEq, Prod.mk.injEq] at hA
    obtain ⟨rfl, rfl⟩ := hA
    cases o with
    | false => simp [gputElem] at hp
    | true =>
      simp only [gputElem] at hp
      split at hp
      · rename_i hk
        simp only [Bool.and_eq_true, decide_eq_true_eq] at hk
        obtain ⟨_, hk⟩ := hk
        simp only [Option.some.injEq] at hp; subst hp
        obtain ⟨⟨arr, T, ha, hs⟩, hkk⟩ := h4 rfl
        simp only [GV.own, if_true, List.cons_append, List.nodup_cons, List.mem_append, not_or] at hnd
        obtain ⟨⟨hn1, hn2⟩, hn3⟩ := hnd
        obtain ⟨arr', ha', hs', hget⟩ := block_setCells (xs.map GV.cv) (off + k) w arr ha (by rw [List.length_map]; omega)
        have hother : ∀ g : GV, HT w I K g → (∀ b' ∈ g.own, b' ≠ b0) → HT (setCells w b0 (off + k) (xs.map GV.cv)) I K g := fun g hg hb => hg.mono hIh (fun _ _ _ h => h) (fun b' hb' => hturn.other b' (hb b' hb'))
        have hxs : ∀ g ∈ xs, ∀ b' ∈ g.own, b' ≠ b0 := fun g hg b' hb' e => hn2 (by subst e; rw [ownL_eq]; exact List.mem_flatMap.2 ⟨g, hg, hb'⟩)
        have hel' : ∀ c ∈ GV.leafs e, ∀ b' ∈ c.own, b' ≠ b0 := fun c hc b' hb' e' => hn1 (by subst e'; rw [own_leafs e h2.ntup, ownL_eq]; exact List.mem_flatMap.2 ⟨c, hc, hb'⟩)
        have hlf := leafs_gputs hk hl
        have hTe' : HT (setCells w b0 (off + k) (xs.map GV.cv)) I K (gputLeafs e k xs) := h2.gputs hk hl (fun x hx => hother x (hT x hx) (hxs x hx)) (fun c hc => hother c (h2.leaf hc) (hel' c hc))
        refine ⟨by simp [GV.own], ⟨arr, T, ha, by omega⟩, fun j hj => ?_, ?_, rfl, .pt _ _ _ _ _ _⟩
        · rw [Nat.add_assoc]; exact hkk _ (by omega)
        · refine .pt true _ b0 off (fun q l hq => ?_) hTe' (fun h => by cases h) (fun _ => ?_)
          · rw [hlf, splice_get hk] at hq
            rw [cell_block ha', hget]
            simp only [List.length_map]
            split at hq
            · rename_i hr
              rw [if_pos (by omega), show off + q - (off + k) = q - k by omega, List.getElem?_map, hq]; rfl
            · rename_i hr
              rw [if_neg (by omega), ← cell_block ha]
              exact h1 q l hq
          · have : (GV.leafs (gputLeafs e k xs)).length = (GV.leafs e).length := by rw [hlf]; simp only [List.length_append, List.length_take, List.length_drop]; omega
            rw [this]
            exact ⟨⟨arr', T, ha', by omega⟩, hkk⟩
      · cases hp
  | _ => simp [nodeAddr] at hA

/-- Numbers and their like lead nowhere. -/
theorem lit_nodes {g : GV} (h : isLit g.era = true) (hr : ∀ a v, g ≠ .ref a v) : ∀ q m, gnodeAt g q = some m → isNode m = false := by
  intro q m hm
  cases g <;> simp [GV.era, isLit] at h
  · cases q with
    | nil => simp only [gnodeAt, Option.some.injEq] at hm; subst hm; rfl
    | cons x q => simp [gnodeAt] at hm
  · exact absurd rfl (hr _ _)

theorem sim_put {w : World} {I : Nat → Prop} {K : Nat → Nat → Prop} {n n' : GV} {i k : Nat} {xs : List GV} (h : HT w I K n) (hp : gputElem i k xs n = some n') (hl : ∀ x ∈ xs, x.leafy = true)
    (hlit : ∀ e sz, (elemOf i n.era) = some (e, sz) → (((leafs e).drop k).take xs.length).all isLit = true) : Sim n n' := by
  have key : ∀ {e : GV}, HT w I K e → k + xs.length ≤ (GV.leafs e).length → ((((leafs e.era).drop k).take xs.length).all isLit = true) → ∀ k' q l m, gleafAt e k' = some l → gnodeAt l q = some m → isNode m = true → gleafAt (gputLeafs e k xs) k' = some l := by
    intro e hTe hk ha k' q l m hle hq hm
    unfold gleafAt at hle ⊢
    rw [leafs_gputs hk hl, splice_get hk]
    split
    · rename_i hr
      exfalso
      have hmem : l.era ∈ ((leafs e.era).drop k).take xs.length := by
        rw [hTe.leafs_era]
        refine List.mem_iff_getElem?.2 ⟨k' - k, ?_⟩
        rw [List.getElem?_take, if_pos (by omega), List.getElem?_drop, List.getElem?_map, show k + (k' - k) = k' by omega, hle]; rfl
      rw [List.all_eq_true] at ha
      have := lit_nodes (ha _ hmem) (hTe.leaf (List.mem_of_getElem? hle)).nref q m hq
      rw [hm] at this; cases this
    · exact hle
  cases h with
  | sl m fl sz es b off cap h1 h2 h3 h4 h5 h6 h7 =>
    simp only [gputElem] at hp
    split at hp
    · obtain ⟨e, he, hp⟩ := bind_some_inv hp
      split at hp
      · rename_i hk
        simp only [Option.some.injEq] at hp; subst hp
        intro q m' hq hnode
        cases q with
        | nil =>
          simp only [gnodeAt, Option.some.injEq] at hq; subst hq
          exact ⟨_, rfl, .sl _ _ _ _ _ _ _ _ _ _ (by simp)⟩
        | cons x q =>
          obtain ⟨j, k', z⟩ := x
          simp only [gnodeAt, List.getElem?_set] at hq ⊢
          by_cases hij : i = j
          · subst hij
            simp only [if_true, lt_of_get he, he] at hq ⊢
            cases hle : gleafAt e k' with
            | none => simp [hle] at hq
            | some l =>
              simp only [hle] at hq
              have := key (h3 e (List.mem_of_getElem? he)) hk (hlit e.era sz (by simp [GV.era, elemOf, eraL_eq, he])) k' q l m' hle hq hnode
              rw [this]
              exact ⟨m', hq, Alike.refl hnode⟩
          · simp only [hij, if_false]
            exact ⟨m', hq, Alike.refl hnode⟩
      · cases hp
    · cases hp
  | pt o e b off h1 h2 h3 h4 =>
    cases o with
    | false => simp [gputElem] at hp
    | true =>
      simp only [gputElem] at hp
      split at hp
      · rename_i hk
        simp only [Bool.and_eq_true, decide_eq_true_eq, beq_iff_eq] at hk
        obtain ⟨rfl, hk⟩ := hk
        simp only [Option.some.injEq] at hp; subst hp
        intro q m' hq hnode
        cases q with
        | nil =>
          simp only [gnodeAt, Option.some.injEq] at hq; subst hq
          exact ⟨_, rfl, .pt _ _ _ _ _ _⟩
        | cons x q =>
          obtain ⟨j, k', z⟩ := x
          simp only [gnodeAt] at hq ⊢
          cases hle : gleafAt e k' with
          | none => simp [hle] at hq
          | some l =>
            simp only [hle] at hq
            have := key h2 hk (hlit e.era (leafs e.era).length (by simp [GV.era, elemOf])) k' q l m' hle hq hnode
            rw [this]
            exact ⟨m', hq, Alike.refl hnode⟩
      · cases hp
  | _ => simp [gputElem] at hp

theorem alike_gmod {f : GV → Option GV} : ∀ (p : List Stp) (g g' n n' : GV), gnodeAt g p = some n → gmodAt f g p = some g' → f n = some n' → Alike n n' → isNode g = true → Alike g g'
  | [], g, g', n, n', hn, hm, hf, ha, _ => by
    simp only [gnodeAt, Option.some.injEq] at hn; subst hn
    simp only [gmodAt, hf, Option.some.injEq] at hm; subst hm
    exact ha
  | (i, k, z) :: p, g, g', n, n', hn, hm, hf, ha, hg => by
    cases g <;> simp [isNode] at hg
    · simp only [gmodAt] at hm
      split at hm
      · split at hm
        · split at hm
          · simp only [Option.some.injEq] at hm; subst hm
            exact .sl _ _ _ _ _ _ _ _ _ _ (by simp)
          · cases hm
        · cases hm
      · cases hm
    · simp only [gmodAt] at hm
      split at hm
      · split at hm
        · simp only [Option.some.injEq] at hm; subst hm
          exact .pt _ _ _ _ _ _
        · cases hm
      · cases hm

end Go.AM

/- AM, part 21: stores, as the machine does them. -/
namespace Go.AM
open GV

section
variable {cx : Cx} {gob0 gob : Nat → List GV} {I0 I : Nat → Prop} {w0 w : World} {fl : List GV} {c : Ch} {kl : List Kl}

theorem gmodIn_inv {f : GV → Option GV} {ls ls' : List GV} {k0 : Nat} {p : List Stp} (h : gmodIn f ls k0 p = some ls') : ∃ g g', ls[k0]? = some g ∧ gmodAt f g p = some g' ∧ ls' = ls.set k0 g' := by
  unfold gmodIn at h
  split at h
  · rename_i t ht
    split at h
    · rename_i t' ht'
      simp only [Option.some.injEq] at h
      exact ⟨t, t', ht, ht', h.symm⟩
    · cases h
  · cases h

theorem gmodAt_node {f : GV → Option GV} : ∀ (p : List Stp) (g g' n : GV), gnodeAt g p = some n → gmodAt f g p = some g' → ∃ n', f n = some n'
  | [], g, g', n, hn, hm => by
    simp only [gnodeAt, Option.some.injEq] at hn; subst hn
    exact ⟨g', hm⟩
  | (i, k, z) :: p, g, g', n, hn, hm => by
    cases g <;> simp only [gnodeAt] at hn <;> try (cases hn; done)
    · simp only [gmodAt] at hm
      split at hn
      · rename_i e he
        split at hn
        · rename_i l hl
          simp only [he, hl] at hm
          split at hm
          · rename_i l' hl'; exact gmodAt_node p l l' n hn hl'
          · cases hm
        · cases hn
      · cases hn
    · simp only [gmodAt] at hm
      split at hn
      · rename_i l hl
        simp only [hl] at hm
        split at hm
        · rename_i l' hl'; exact gmodAt_node p l l' n hn hl'
        · cases hm
      · cases hn

theorem own_node {w : World} {I : Nat → Prop} {K : Nat → Nat → Prop} : ∀ (p : List Stp) (g n : GV), HT w I K g → gnodeAt g p = some n → ∀ b ∈ n.own, b ∈ g.own
  | [], g, n, _, hn, b, hb => by simp only [gnodeAt, Option.some.injEq] at hn; subst hn; exact hb
  | (i, k, z) :: p, g, n, h, hn, b, hb => by
    cases h with
    | sl m fl sz es b0 off cap h1 h2 h3 h4 h5 h6 h7 =>
      simp only [gnodeAt] at hn
      split at hn
      · rename_i e he
        split at hn
        · rename_i l hl
          have hTe := h3 e (List.mem_of_getElem? he)
          have h' := own_node p l n (hTe.leaf (List.mem_of_getElem? hl)) hn b hb
          have : b ∈ own.ownL es := by
            rw [ownL_eq]
            refine List.mem_flatMap.2 ⟨e, List.mem_of_getElem? he, ?_⟩
            rw [own_leafs e hTe.ntup, ownL_eq]
            exact List.mem_flatMap.2 ⟨l, List.mem_of_getElem? hl, h'⟩
          simp only [GV.own]
          split <;> simp [this]
        · cases hn
      · cases hn
    | pt o e b0 off h1 h2 h3 h4 =>
      simp only [gnodeAt] at hn
      split at hn
      · rename_i l hl
        have h' := own_node p l n (h2.leaf (List.mem_of_getElem? hl)) hn b hb
        have : b ∈ e.own := by
          rw [own_leafs e h2.ntup, ownL_eq]
          exact List.mem_flatMap.2 ⟨l, List.mem_of_getElem? hl, h'⟩
        simp only [GV.own]
        split <;> simp [this]
      · cases hn
    | _ => simp [gnodeAt] at hn

theorem ownL_nodup_mem {l : List GV} (h : (own.ownL l).Nodup) {x : GV} (hx : x ∈ l) : x.own.Nodup := by
  obtain ⟨j, hj⟩ := List.mem_iff_getElem?.1 hx
  obtain ⟨rest, Q, _⟩ := ownL_set hj x
  exact (List.nodup_append.1 ((Q.nodup_iff).1 h)).1

theorem own_node_nodup {w : World} {I : Nat → Prop} {K : Nat → Nat → Prop} : ∀ (p : List Stp) (g n : GV), HT w I K g → gnodeAt g p = some n → g.own.Nodup → n.own.Nodup
  | [], g, n, _, hn, h => by simp only [gnodeAt, Option.some.injEq] at hn; subst hn; exact h
  | (i, k, z) :: p, g, n, h, hn, hd => by
    cases h with
    | sl m fl sz es b0 off cap h1 h2 h3 h4 h5 h6 h7 =>
      simp only [gnodeAt] at hn
      split at hn
      · rename_i e he
        split at hn
        · rename_i l hl
          have hTe := h3 e (List.mem_of_getElem? he)
          have : (own.ownL es).Nodup := by
            simp only [GV.own] at hd
            split at hd
            · exact (List.nodup_cons.1 hd).2
            · exact hd
          have he' := ownL_nodup_mem this (List.mem_of_getElem? he)
          rw [own_leafs e hTe.ntup] at he'
          exact own_node_nodup p l n (hTe.leaf (List.mem_of_getElem? hl)) hn (ownL_nodup_mem he' (List.mem_of_getElem? hl))
        · cases hn
      · cases hn
    | pt o e b0 off h1 h2 h3 h4 =>
      simp only [gnodeAt] at hn
      split at hn
      · rename_i l hl
        have he' : e.own.Nodup := by
          simp only [GV.own] at hd
          split at hd
          · exact (List.nodup_cons.1 hd).2
          · exact hd
        rw [own_leafs e h2.ntup] at he'
        exact own_node_nodup p l n (h2.leaf (List.mem_of_getElem? hl)) hn (ownL_nodup_mem he' (List.mem_of_getElem? hl))
      · cases hn
    | _ => simp [gnodeAt] at hn

theorem nodeAddr_own {w : World} {I : Nat → Prop} {K : Nat → Nat → Prop} {n n' : GV} {i k b at' : Nat} {xs : List GV} (h : HT w I K n) (hp : gputElem i k xs n = some n') (hA : nodeAddr i k n = some (b, at')) : b ∈ n.own := by
  cases h with
  | sl m fl sz es b0 off cap h1 h2 h3 h4 h5 h6 h7 =>
    simp only [nodeAddr, Option.some.injEq, Prod.mk.injEq] at hA
    simp only [gputElem] at hp
    split at hp
    · rename_i hm
      have hom : ownM m = true := hm
      simp [GV.own, hom, hA.1]
    · cases hp
  | pt o e b0 off h1 h2 h3 h4 =>
    simp only [nodeAddr, Option.some.injEq, Prod.mk.injEq] at hA
    cases o with
    | false => simp [gputElem] at hp
    | true => simp [GV.own, hA.1]
  | _ => simp [nodeAddr] at hA

/-- **A node of an object is changed where it stands**, its block with it. -/
theorem Way.change (h : Way cx gob0 I0 w0 gob fl I w c kl) {o k0 : Nat} {p : List Stp} {n n' : GV} {f : GV → Option GV} {ls' : List GV} (hn : gnodeIn (gob o) k0 p = some n) (hm : gmodIn f (gob o) k0 p = some ls') (hf : f n = some n')
    {w' : World} {b at' m : Nat} (hturn : Turn w w' b) (hb : b ∈ n.own) (hcells : ∀ j, (j < at' ∨ at' + m ≤ j) → w'.cell? ⟨b, j, none⟩ = w.cell? ⟨b, j, none⟩) (hK : ∀ j, j < m → ¬ cx.K b (at' + j))
    (hT' : HT w' I cx.K n') (hcv : n'.cv = n.cv) (hal : Alike n n') {mid kept : List Nat} (P1 : n.own.Perm (mid ++ kept)) (P2 : n'.own.Perm (own.ownL fl ++ kept))
    {ks : List Kl} (hks : ks = [⟨o, some k0, true⟩] ∨ (ks = [] ∧ Sim n n')) : Way cx gob0 I0 w0 (upd gob o ls') [] I w' ((o, ls'.map GV.era) :: c) (ks ++ kl) := by
  obtain ⟨g, g', hk, hg', rfl⟩ := gmodIn_inv hm
  have hnode := hal.isNode
  have hn0 : isNode n = true := by cases hal <;> rfl
  have leafy : ∀ x : GV, isNode x = true → x.leafy = true := fun x hx => by cases x <;> simp [isNode] at hx <;> rfl
  have hng : gnodeAt g p = some n := by unfold gnodeIn at hn; rw [hk] at hn; exact hn
  have hTg := h.sto.hol o g (List.mem_of_getElem? hk)
  have hbo : b ∈ own.ownL (gob o) := by
    have hbg : b ∈ g.own := by
      obtain ⟨rest, R1, _⟩ := gmod_main (I' := I) (w' := w) (K := cx.K) (fun b hb => ⟨hb, rfl⟩) p g g' n n' hTg hng hg' hf hcv (leafy _ hnode) (leafy _ hn0) (fun h0 => by rw [h0] at hb; cases hb)
      exact R1.mem_iff.2 (by simp [hb])
    rw [ownL_eq]; exact List.mem_flatMap.2 ⟨g, List.mem_of_getElem? hk, hbg⟩
  have hnI : ¬ I b := h.sto.nI o b hbo
  have hI : ∀ b', I b' → I b' ∧ w'.heap[b']? = w.heap[b']? := fun b' hb' => ⟨hb', hturn.other b' (fun e => hnI (e ▸ hb'))⟩
  obtain ⟨rest, R1, R2, _, _, R3⟩ := gmod_main (K := cx.K) hI p g g' n n' hTg hng hg' hf hcv (leafy _ hnode) (leafy _ hn0) (fun h0 => by rw [h0] at hb; cases hb)
  obtain ⟨r0, Q1, Q2, _⟩ := ownL_set hk g'
  have S1 : (own.ownL (gob o)).Perm (mid ++ (kept ++ (rest ++ r0))) := by
    refine (Q1.trans (R1.append_right r0)).trans (((P1.append_right rest).append_right r0).trans ?_)
    simp [List.append_assoc]
  have S2 : (own.ownL ((gob o).set k0 g')).Perm (own.ownL fl ++ (kept ++ (rest ++ r0))) := by
    refine (Q2.trans (R2.append_right r0)).trans (((P2.append_right rest).append_right r0).trans ?_)
    simp [List.append_assoc]
  have hall := h.sto.nodAll o
  have hall' : ((mid ++ (kept ++ (rest ++ r0))) ++ own.ownL fl).Nodup := ((S1.append_right _).nodup_iff).1 hall
  have hnod' : (own.ownL fl ++ (kept ++ (rest ++ r0))).Nodup := by
    rw [List.append_assoc] at hall'
    exact (List.perm_append_comm.nodup_iff).1 (List.nodup_append.1 hall').2.1
  have hS0 : (own.ownL (gob o)).Perm (n.own ++ (rest ++ r0)) := (Q1.trans (R1.append_right r0)).trans (by rw [List.append_assoc])
  have hndo := (hS0.nodup_iff).1 (h.sto.nod o)
  have hbrest : ∀ b' ∈ rest ++ r0, b' ≠ b := fun b' hb' e => (List.nodup_append.1 hndo).2.2 b hb b' hb' e.symm
  have hTg' : HT w' I cx.K g' := R3 (fun b' hb' => hturn.other b' (hbrest b' (by simp [hb']))) hT'
  have hothers : ∀ x ∈ gob o, (∀ b' ∈ x.own, b' ≠ b) → HT w' I cx.K x := fun x hx hb' => (h.sto.hol o x hx).mono hI (fun _ _ _ h => h) (fun b' hb'' => hturn.other b' (hb' b' hb''))
  refine ⟨?_, h.era.cons o _, ?_, fun b' hb' => ⟨(h.imm b' hb').1, (hturn.other b' (fun e => hnI (e ▸ (h.imm b' hb').1))).trans (h.imm b' hb').2⟩, by rw [hturn.size]; exact h.size⟩
  · refine h.sto.step o _ [] I w' ?_ ?_ ?_ (by simp) hI (fun b hb => .inl hb) (fun b' hb' hnm => ?_) (fun b' j hk' => ?_) hturn.os hturn.tape hturn.output (Nat.le_of_eq hturn.size.symm)
    · simp only [GV.own.ownL, List.append_nil]
      exact (S2.nodup_iff).2 hnod'
    · intro b' hb'
      simp only [GV.own.ownL, List.append_nil] at hb'
      rcases List.mem_append.1 (S2.mem_iff.1 hb') with h' | h'
      · exact .inl (List.mem_append.2 (.inr h'))
      · exact .inl (List.mem_append.2 (.inl (S1.mem_iff.2 (List.mem_append.2 (.inr h')))))
    · intro x hx
      obtain ⟨j, hj⟩ := List.mem_iff_getElem?.1 hx
      rw [List.getElem?_set] at hj
      split at hj
      · split at hj
        · simp only [Option.some.injEq] at hj; subst hj; exact hTg'
        · cases hj
      · rename_i hjk
        obtain ⟨r1, U1, _, U3⟩ := ownL_set hk (.dead (.tuple #[]))
        have hbg : b ∈ g.own := R1.mem_iff.2 (by simp [hb])
        have hnd1 := (U1.nodup_iff).1 (h.sto.nod o)
        exact hothers x (List.mem_of_getElem? hj) (fun b' hb' e => (List.nodup_append.1 hnd1).2.2 b hbg b' (U3 j x hj (fun e => hjk e.symm) b' hb') e.symm)
    · exact hturn.other b' (fun e => hnm (by subst e; simp [hbo]))
    · by_cases hbb : b' = b
      · subst hbb
        refine hcells j ?_
        rcases Nat.lt_or_ge j at' with h1 | h1
        · exact .inl h1
        · rcases Nat.lt_or_ge j (at' + m) with h2 | h2
          · exact absurd (by rwa [show at' + (j - at') = j by omega] : cx.K b' (at' + (j - at'))) (hK (j - at') (by omega))
          · exact .inr h2
      · simp only [World.cell?]; rw [hturn.other b' hbb]
  · refine h.pre.trans (k2 := ks) (Pres.upd fun k q m' hq hnode' hh => ?_)
    unfold gnodeIn at hq ⊢
    rw [List.getElem?_set]
    by_cases hkk : k0 = k
    · subst hkk
      rw [hk] at hq
      simp only at hq
      simp only [if_true, lt_of_get hk]
      rcases hks with rfl | ⟨rfl, hsim⟩
      · have hq0 : q = [] := by
          simp [Kl.hits] at hh
          exact hh
        subst hq0
        simp only [gnodeAt, Option.some.injEq] at hq ⊢
        subst hq
        exact ⟨g', rfl, alike_gmod p g g' n n' hng hg' hf hal hnode'⟩
      · exact (sim_gmod p g g' n n' hng hg' hf (leafy _ hnode) hsim).1 q m' hq hnode'
    · simp only [hkk, if_false]
      exact ⟨m', hq, Alike.refl hnode'⟩

end

section
variable {P : Program} {G : Globs} {cx : Cx} {gob : Nat → List GV} {I : Nat → Prop} {s : St} {a : Act} {w : World}

/-- The model's operation does what the machine's does, and tells nothing. -/
def DoesU (P : Program) (cx : Cx) (gob : Nat → List GV) (I : Nat → Prop) (w : World) (ρ : Operand → Value) (o : Oper) (e : Eff) : Prop :=
  ∃ w', (execOp ρ o).run P w = .ok .skip w' ∧ ∃ gob' I', OpPost cx gob I w e (.tuple #[]) w' gob' I'

theorem Val.nothing : Val cx gob I w (.tup []) (.tuple #[]) := (Vals.nil (cx := cx) (gob := gob) (I := I) (w := w)).tup

theorem depLeafs_solid {x : AV} {c c' : Ch} {kl kl' : List Kl} {ob : Nat → List AV} {r r' : List Nat} {ys : List AV} (h : (depLeafs (leafs x) c kl).run ob r = some ((ys, c', kl'), r')) : solid x = true := by
  cases x with
  | dead => simp [leafs, depLeafs, depLeaf, Lk.bind, Lk.run] at h
  | tup => simp [leafs, depLeafs, depLeaf, Lk.bind, Lk.run] at h
  | _ => rfl

theorem does_st (hG : GlobOK G cx) (h : Inv cx gob I s a w) {o : Oper} {t : TypeId} {xa xv : Operand} (ho : o.op = .store t xa xv) {i : Ti} (hi : tiOf P t = some i) {ya yv : Opr} (hxa : cOpr G xa = some ya) (hxv : cOpr G xv = some yv)
    {va vx : AV} (hva : s.val ya = some va) (hvx : s.val yv = some vx) {e : Eff} {r r' : List Nat} (hr : (stOp i.n va vx).run s.obj r = some (e, r')) : DoesU P cx gob I w a.eval o e := by
  obtain ⟨d, fo, hu, hinf, rfl⟩ := tiOf_inv hi
  have hA := opr_val hG h hxa hva
  have hX := opr_val hG h hxv hvx
  unfold stOp at hr
  split at hr
  · rename_i o' k0 p i k
    split at hr
    · rename_i hlen
      simp only [beq_iff_eq] at hlen
      simp only [Lk.run_bind] at hr
      obtain ⟨⟨⟨ys, c, kl⟩, r1⟩, hdep, hr⟩ := bind_some_inv hr
      simp only [Lk.run_bind] at hr
      obtain ⟨⟨ls, r2⟩, hask, hr⟩ := bind_some_inv hr
      obtain ⟨hlv, hlf⟩ := hX.leafs_vals (depLeafs_solid hdep)
      obtain ⟨gs, g1, I1, f1, f2, f3, f4, f5, f6⟩ := way_depLeafs h.era _ (Way.start h.sto) (by simp [Ded]) hlv hdep
      obtain ⟨hyl, hya⟩ := depLeafs_alive _ hdep
      rw [List.append_nil] at f4
      obtain ⟨r3, hask2⟩ := run_askC f4.era h.era o' r1
      rw [hask2] at hask
      simp only [Option.some.injEq, Prod.mk.injEq] at hask
      obtain ⟨rfl, _⟩ := hask
      simp only at hr
      split at hr
      · rename_i el sz hel
        split at hr
        · rename_i ls' hmod
          simp only [Lk.run, Option.some.injEq, Prod.mk.injEq] at hr
          obtain ⟨rfl, _⟩ := hr
          obtain ⟨nd, hnd, hel⟩ := bind_some_inv hel
          rw [nodeIn_era (f4.sto.hol o')] at hnd
          obtain ⟨n, hn, rfl⟩ := map_some_inv hnd
          have hTn := f4.sto.node hn
          have hR0 := hA.ref_inv (.inr ⟨_, _, _, _, _, rfl⟩)
          have hR : RefOK g1 (.pref o' k0 p i k) (a.eval xa) := by
            rcases way_ref f4 f5 hR0 rfl hn with h' | ⟨v, rfl⟩
            · exact h'
            · simp [GV.era, elemOf] at hel
          rw [← f1, gmodIn_era (gf := gputElem i k gs) (f4.sto.hol o') k0 p (fun n' hn' => gputElem_era (f4.sto.node hn') i k gs)] at hmod
          obtain ⟨gls, hgm, rfl⟩ := map_some_inv hmod
          obtain ⟨g, g', hk, hg', _⟩ := gmodIn_inv hgm
          have hng : gnodeAt g p = some n := by unfold gnodeIn at hn; rw [hk] at hn; exact hn
          obtain ⟨n', hp⟩ := gmodAt_node p g g' n hng hg'
          have haddr : ∃ b at', nodeAddr i k n = some (b, at') ∧ a.eval xa = .pointer (some ⟨b, at', none⟩) := by
            generalize a.eval xa = xav at hR
            cases hR with
            | ps _ _ _ _ _ m fl sz es b off0 cap0 hn' hi' =>
              rw [hn] at hn'; simp only [Option.some.injEq] at hn'; subst hn'
              exact ⟨b, _, rfl, rfl⟩
            | pp _ _ _ _ ow e b off0 hn' =>
              rw [hn] at hn'; simp only [Option.some.injEq] at hn'; subst hn'
              exact ⟨b, _, rfl, rfl⟩
          obtain ⟨b, at', haddr, hev⟩ := haddr
          have hmemn : ∀ b' ∈ n.own, b' ∈ own.ownL (g1 o') := fun b' hb' => by
            have hTg := f4.sto.hol o' g (List.mem_of_getElem? hk)
            rw [ownL_eq]
            refine List.mem_flatMap.2 ⟨g, List.mem_of_getElem? hk, ?_⟩
            exact own_node p g n hTg hng b' hb'
          have hnodn : (n.own ++ own.ownL gs).Nodup := by
            have h1 := f4.sto.nodAll o'
            rw [List.nodup_append] at h1 ⊢
            refine ⟨own_node_nodup p g n (f4.sto.hol o' g (List.mem_of_getElem? hk)) hng (ownL_nodup_mem h1.1 (List.mem_of_getElem? hk)), h1.2.1, fun x hx y hy => h1.2.2 x (hmemn x hx) y hy⟩
          have hnIb : ¬ I1 b := fun hIb => by
            have hbn : b ∈ n.own := nodeAddr_own hTn hp haddr
            exact f4.sto.nI o' b (hmemn b hbn) hIb
          obtain ⟨q1, ⟨arr, T, ha, hs⟩, q3, q4, q5, q6⟩ := node_put hTn hp haddr f3 (fun x hx => f4.sto.fhol x hx) hnodn hnIb
          obtain ⟨mid, kept, P1, P2⟩ := own_gputElem hTn hp f3
          have hgl : gs.length = fo.size := by
            have : ys.length = gs.length := by rw [← f1, List.length_map]
            omega
          have hcv : (a.eval xv).cells.toList = gs.map GV.cv := f2.symm
          have h1c : ((a.eval xv).cells.toList).all (·.oneCell') = true := by
            rw [hcv, List.all_eq_true]
            intro v hv
            obtain ⟨g0, hg0, rfl⟩ := List.mem_map.1 hv
            exact (f4.sto.fhol g0 hg0).oneCell (f3 g0 hg0) (hya _ (by rw [← f1]; exact List.mem_map_of_mem hg0))
          have hblk := block_setCells (gs.map GV.cv) at' w arr ha (by rw [List.length_map]; exact hs)
          obtain ⟨arr', ha', hs', hget⟩ := hblk
          have hW := f4.change hn hgm hp (turn_setCells b (gs.map GV.cv) at' w) q1 (m := gs.length) (fun j hj => by
            rw [cell_block ha', hget, if_neg (by rw [List.length_map]; omega), cell_block ha]) q3 q4 q5 q6 P1 P2 (ks := if ys.all isLit && (((leafs el).drop k).take fo.size).all isLit then [] else [⟨o', some k0, true⟩]) (by
            by_cases hc : (ys.all isLit && (((leafs el).drop k).take fo.size).all isLit) = true
            · rw [if_pos hc]
              refine .inr ⟨rfl, sim_put hTn hp f3 (fun e' sz' he' => ?_)⟩
              rw [hel] at he'
              simp only [Option.some.injEq, Prod.mk.injEq] at he'
              rw [← he'.1, hgl]
              simp only [Bool.and_eq_true] at hc
              exact hc.2
            · rw [if_neg hc]; exact .inl rfl)
          refine ⟨setCells w b at' (gs.map GV.cv), ?_, AM.upd g1 o' gls, I1, ?_⟩
          rotate_left
          · have := hW.post (Val.nothing)
            by_cases hc : (ys.all isLit && (((leafs el).drop k).take fo.size).all isLit) = true
            · simp only [hc, if_true, List.nil_append] at this ⊢
              exact this
            · simp only [hc, Bool.false_eq_true, if_false, List.singleton_append] at this ⊢
              exact this
          · rw [show o = { o with op := .store t xa xv } by rw [← ho]]
            simp only [execOp, Instr.storeAt, hev]
            have hst := run_storeCells (P := P) (b := b) (off0 := at') (gs.map GV.cv) 0 w arr ha (by rw [List.length_map]; omega) (by rw [← hcv]; exact h1c)
            simp only [Nat.add_zero] at hst
            have hsz : (a.eval xv).cells.size = fo.size := by rw [← Array.length_toList, hcv, List.length_map]; exact hgl
            have hsv : (storeVar t ⟨b, at', none⟩ (a.eval xv)).run P w = .ok () (setCells w b at' (gs.map GV.cv)) := by
              unfold storeVar
              rw [Sem.run_bind, run_size hinf]
              simp only [Result.andThen_ok]
              rw [if_neg (by rw [hsz]; simp), hcv]
              exact hst
            have hsa : (Instr.sureAddr (.pointer (some ⟨b, at', none⟩))).run P w = .ok ⟨b, at', none⟩ w := rfl
            rw [Sem.run_bind, Sem.run_bind, hsa]
            simp only [Result.andThen_ok]
            rw [hsv]
            rfl
        · simp [Lk.run] at hr
      · simp [Lk.run] at hr
    · simp [Lk.run] at hr
  · simp [Lk.run] at hr

end
end Go.AM

/- AM, part 22: appends. -/
namespace Go.AM
open GV

/-- What an append takes, as the model sees it. -/
def SrcV (w : World) (sz : Nat) (x : Value) (m : Nat) (news : List Value) : Prop :=
  news.length = m * sz ∧ ((x = .slice none 0 0 ∧ m = 0) ∨ ∃ ad c, x = .slice (some ad) m c ∧ ∀ j v, news[j]? = some v → w.cell? (ad.add j) = some v)

section
variable {P : Program} {w : World}

theorem SrcV.first {sz m : Nat} {x : Value} {news : List Value} (h : SrcV w sz x m news) : (Builtin.firstCells sz m x).run P w = .ok news.toArray w := by
  obtain ⟨hl, ⟨rfl, rfl⟩ | ⟨ad, c, rfl, hc⟩⟩ := h
  · have : news = [] := List.length_eq_zero_iff.1 (by omega)
    subst this; simp [Builtin.firstCells]
  · exact run_firstCells_some w sz m ad m c news hl hc

theorem SrcV.len {sz m : Nat} {x : Value} {news : List Value} (h : SrcV w sz x m news) : (Builtin.lenOf x).run P w = .ok m w := by
  obtain ⟨hl, ⟨rfl, rfl⟩ | ⟨ad, c, rfl, hc⟩⟩ := h <;> rfl

theorem SrcV.drew {sz m : Nat} {x : Value} {news : List Value} (h : SrcV w sz x m news) : SrcV w.drew sz x m news := h

theorem run_append_fit {t u ty e e2 : TypeId} {fo : TypeInfo} (ht : P.underlying t = some (.slice e)) (hu : P.underlying u = some (.slice e2)) (hi : P.info? e = some fo) {x : Value} {m : Nat} {news : List Value} (hx : SrcV w fo.size x m news)
    {b off n c : Nat} {arr : Array Value} {T : TypeId} (hb : w.heap[b]? = some (.cells arr T (0, 0))) (hfit : off + n * fo.size + news.length ≤ arr.size) (h1 : news.all (·.oneCell') = true) (hroom : n + m ≤ c) :
    (Builtin.append_ #[t, u] ty #[.slice (some ⟨b, off, none⟩) n c, x]).run P w = .ok (.slice (some ⟨b, off, none⟩) (n + m) c) (setCells w b (off + n * fo.size) news) := by
  have hst := run_storeCells (P := P) (off0 := off + n * fo.size) news 0 w arr hb (by omega) h1
  simp only [Nat.add_zero] at hst
  unfold Builtin.append_
  have h0 : (#[t, u] : Array TypeId)[0]? = some t := rfl
  have h1 : (#[t, u] : Array TypeId)[1]? = some u := rfl
  have h2 : (#[.slice (some ⟨b, off, none⟩) n c, x] : Array Value)[0]? = some (.slice (some ⟨b, off, none⟩) n c) := rfl
  have h3 : (#[.slice (some ⟨b, off, none⟩) n c, x] : Array Value)[1]? = some x := rfl
  simp only [h0, h1, h2, h3, Sem.run_bind, run_und ht, run_und hu, Result.andThen_ok, run_size hi, Sem.run_pure, Bool.false_eq_true, if_false, Bool.not_false, if_true, hx.len, hx.first, hroom, addr_add, hst]

theorem run_append_fit_nil {t u ty e e2 : TypeId} {fo : TypeInfo} (ht : P.underlying t = some (.slice e)) (hu : P.underlying u = some (.slice e2)) (hi : P.info? e = some fo) {x : Value} {news : List Value} (hx : SrcV w fo.size x 0 news) :
    (Builtin.append_ #[t, u] ty #[.slice none 0 0, x]).run P w = .ok (.slice none 0 0) w := by
  unfold Builtin.append_
  have h0 : (#[t, u] : Array TypeId)[0]? = some t := rfl
  have h1 : (#[t, u] : Array TypeId)[1]? = some u := rfl
  have h2 : (#[.slice none 0 0, x] : Array Value)[0]? = some (.slice none 0 0) := rfl
  have h3 : (#[.slice none 0 0, x] : Array Value)[1]? = some x := rfl
  simp only [h0, h1, h2, h3, Sem.run_bind, run_und ht, run_und hu, Result.andThen_ok, run_size hi, Sem.run_pure, Bool.false_eq_true, if_false, Bool.not_false, if_true, hx.len, hx.first, Nat.add_zero, Nat.le_refl]

theorem run_append_more {t u ty e e2 : TypeId} {fo : TypeInfo} {z : Value} (ht : P.underlying t = some (.slice e)) (hu : P.underlying u = some (.slice e2)) (hi : P.info? e = some fo) (hz : fo.zero = some z) {x : Value} {m : Nat} {news : List Value} (hx : SrcV w fo.size x m news)
    {base : Option Addr} {n c : Nat} {olds : List Value} (hold : (Builtin.firstCells fo.size n (.slice base n c)).run P w.drew = .ok olds.toArray w.drew) (hroom : c < n + m) (hb0 : 0 < fo.bytes) (hb : (n + m) * fo.bytes ≤ 140737488355328) :
    (Builtin.append_ #[t, u] ty #[.slice base n c, x]).run P w = .ok (.slice (some ⟨w.heap.size, 0, none⟩) (n + m) (grownCap w (n + m) c e))
      (w.drew.alloc (.cells (olds.toArray ++ news.toArray ++ Builtin.zeroCells z.cells (grownCap w (n + m) c e - (n + m))) e)) := by
  have hn : ¬ (n + m ≤ c) := by omega
  have hnm : n + m ≤ (n + m) * fo.bytes := Nat.le_mul_of_pos_right _ hb0
  have h63' : ¬ (9223372036854775807 < ((n : Int) + (m : Int))) := by omega
  have hgf := growslice_fits (need := n + m) (old := c) (bytes := fo.bytes) (by omega) hb
  have h48' : ¬ (281474976710656 < Builtin.nextslicecap (n + m) c * fo.bytes) := by omega
  have hf := hx.drew.first (P := P)
  have hl := hx.len (P := P)
  simp [Builtin.append_, run_und ht, run_und hu, sizeOf, typeInfo, zeroValue, hi, hz, hl, hn, h63', h48', Question.forced, hf, hold, newRow, grownCap]
  congr 2
  rw [← Array.append_assoc]
  congr 1
  simp

end

section
variable {cx : Cx} {gob0 gob : Nat → List GV} {I0 I : Nat → Prop} {w0 w : World} {fl : List GV} {c : Ch} {kl : List Kl}

/-- The cells of a row of elements. -/
def flatV (es : List GV) : List Value := es.flatMap fun e => (GV.leafs e).map GV.cv

theorem flatV_len {es : List GV} {sz : Nat} (h : ∀ e ∈ es, (GV.leafs e).length = sz) : (flatV es).length = es.length * sz := by
  induction es with
  | nil => simp [flatV]
  | cons e es ih =>
    have := ih (fun x hx => h x (by simp [hx]))
    unfold flatV at this ⊢
    simp only [List.flatMap_cons, List.length_append, List.length_map, h e (by simp), this, List.length_cons, Nat.add_mul]
    omega

theorem flatV_get {sz : Nat} : ∀ {es : List GV}, (∀ e ∈ es, (GV.leafs e).length = sz) → ∀ {i k : Nat} {e : GV}, es[i]? = some e → k < sz → (flatV es)[i * sz + k]? = ((GV.leafs e)[k]?).map GV.cv
  | [], _, i, k, e, he, _ => by simp at he
  | x :: es, h, i, k, e, he, hk => by
    have hx := h x (by simp)
    unfold flatV
    simp only [List.flatMap_cons]
    cases i with
    | zero =>
      simp only [List.getElem?_cons_zero, Option.some.injEq] at he; subst he
      rw [Nat.zero_mul, Nat.zero_add, List.getElem?_append_left (by simp; omega), List.getElem?_map]
    | succ i =>
      simp only [List.getElem?_cons_succ] at he
      rw [List.getElem?_append_right (by simp only [List.length_map, hx, Nat.add_mul]; omega)]
      rw [show (i + 1) * sz + k - ((GV.leafs x).map GV.cv).length = i * sz + k by simp only [List.length_map, hx, Nat.add_mul]; omega]
      exact flatV_get (fun y hy => h y (by simp [hy])) he hk

theorem flatV_cells {w : World} {b off sz : Nat} {es : List GV} (h : Cells w b off sz es) (h0 : 0 < sz) : ∀ j v, (flatV es)[j]? = some v → w.cell? ⟨b, off + j, none⟩ = some v := by
  have hs : ∀ e ∈ es, (GV.leafs e).length = sz := fun e he => by
    obtain ⟨i, hi⟩ := List.mem_iff_getElem?.1 he
    exact (h i e hi).1
  intro j v hj
  have hlt := lt_of_get hj
  rw [flatV_len hs] at hlt
  have hdiv : j / sz < es.length := (Nat.div_lt_iff_lt_mul h0).2 hlt
  have he : es[j / sz]? = some es[j / sz] := List.getElem?_eq_getElem hdiv
  have hmod := Nat.mod_lt j h0
  have hjj : j / sz * sz + j % sz = j := by rw [Nat.mul_comm]; exact Nat.div_add_mod j sz
  have hg := flatV_get hs he hmod
  rw [hjj, hj] at hg
  cases hl : (GV.leafs es[j / sz])[j % sz]? with
  | none => simp [hl] at hg
  | some l =>
    simp only [hl, Option.map_some, Option.some.injEq] at hg
    have := (h _ _ he).2 _ l hl
    rw [hg, ← this, Nat.add_assoc, hjj]

theorem flatV_cellsA {es : List GV} {sz : Nat} (h : ∀ e ∈ es, (GV.leafs e).length = sz) {arr : Array Value} (ha : ∀ (j : Nat) (v : Value), (flatV es)[j]? = some v → arr[j]? = some v) : CellsA arr sz es := by
  intro i e he
  have hs := h e (List.mem_of_getElem? he)
  refine ⟨hs, fun k l hl => ha _ _ ?_⟩
  rw [flatV_get h he (hs ▸ lt_of_get hl), hl]; rfl

theorem flatV_append (a b : List GV) : flatV (a ++ b) = flatV a ++ flatV b := by simp [flatV]

theorem Cells.sub {w : World} {b off sz : Nat} {es : List GV} (h : Cells w b off sz es) (d n : Nat) : Cells w b (off + d * sz) sz ((es.drop d).take n) := by
  intro i e he
  have := h _ e (get_drop_take he)
  refine ⟨this.1, fun k l hl => ?_⟩
  have := this.2 k l hl
  rw [Nat.add_mul] at this
  rwa [show off + d * sz + i * sz = off + (d * sz + i * sz) by omega]

/-- What an append takes: elements that stand nowhere. -/
theorem way_src {ob : Nat → List AV} (he : ∀ o, ob o = (gob0 o).map GV.era) (h : Way cx gob0 I0 w0 gob0 [] I0 w0 [] []) {sz : Nat} (h0 : 0 < sz) {x : AV} {xv : Value} (hx : Val cx gob0 I0 w0 x xv) {r r' : List Nat} {xs : List AV} {c' : Ch} {kl' : List Kl}
    (hr : (srcElems sz x []).run ob r = some ((xs, c', kl'), r')) :
    ∃ gxs gob' I', gxs.map GV.era = xs ∧ Way cx gob0 I0 w0 gob' gxs I' w0 c' kl' ∧ Ded kl' gob' ∧ (∀ b, I0 b → I' b) ∧ ((∀ e ∈ gxs, (GV.leafs e).length = sz) → SrcV w0 sz xv gxs.length (flatV gxs)) := by
  have own0 : ∀ {gs : List GV}, own.ownL gs = [] → (∀ g ∈ gs, HT w0 I0 cx.K g) → Way cx gob0 I0 w0 gob0 gs I0 w0 [] [] := fun h1 h2 => h.fewer (by rw [h1]; exact List.nodup_nil) (by rw [h1]; simp) h2
  have src : ∀ {gs : List GV} {b off n cap : Nat}, Cells w0 b off sz gs → gs.length = n → xv = .slice (some ⟨b, off, none⟩) n cap → ((∀ e ∈ gs, (GV.leafs e).length = sz) → SrcV w0 sz xv gs.length (flatV gs)) := by
    intro gs b off n cap hc hl hxv hs
    refine ⟨flatV_len hs, .inr ⟨_, _, by rw [hl]; exact hxv, fun j v hj => ?_⟩⟩
    rw [addr_add]
    exact flatV_cells hc h0 j v hj
  have nosrc : xv = .slice none 0 0 → ((∀ e ∈ ([] : List GV), (GV.leafs e).length = sz) → SrcV w0 sz xv ([] : List GV).length (flatV [])) := fun hxv _ => ⟨by simp [flatV], .inl ⟨hxv, rfl⟩⟩
  unfold srcElems at hr
  split at hr
  · simp only [Lk.run, Option.some.injEq, Prod.mk.injEq] at hr
    obtain ⟨⟨rfl, rfl, rfl⟩, _⟩ := hr
    exact ⟨[], gob0, I0, rfl, h, by simp [Ded], fun _ h => h, nosrc hx.lit_inv.1⟩
  · rename_i m f sz' es
    split at hr
    · simp [Lk.run] at hr
    · rename_i hm
      simp only [Lk.run, Option.some.injEq, Prod.mk.injEq] at hr
      obtain ⟨⟨rfl, rfl, rfl⟩, _⟩ := hr
      simp only [Bool.or_eq_true, bne_iff_ne, ne_eq, not_or, Decidable.not_not] at hm
      obtain ⟨hm, rfl⟩ := hm
      rcases hx.sl_inv with ⟨rfl, hxv, _⟩ | ⟨gs, b, off, cap, rfl, hxv, hT, ho⟩
      · exact ⟨[], gob0, I0, rfl, h, by simp [Ded], fun _ h => h, nosrc hxv⟩
      · have hom : ownM m = false := by
          simp only [ownM]; simpa [Bool.or_eq_true] using hm
        cases hT with
        | sl _ _ _ _ _ _ _ h1 h2 h3 h4 h5 h6 h7 =>
          exact ⟨gs, gob0, I0, rfl, own0 (h4 hom).2 h3, by simp [Ded], fun _ h => h, src h2 rfl hxv⟩
  · rename_i o k0 p off n
    have hR0 := hx.ref_inv (.inl ⟨_, _, _, _, _, rfl⟩)
    rw [Lk.run_bind] at hr
    obtain ⟨r2, hask2⟩ := run_askC h.era he o r
    rw [hask2, Option.bind_some] at hr
    split at hr
    · rename_i m f sz' es hnd
      simp only at hnd
      rw [nodeIn_era (h.sto.hol o)] at hnd
      obtain ⟨nd, hn, hge⟩ := map_some_inv hnd
      have hTn := h.sto.node hn
      cases hR0 with
      | s _ _ _ _ _ m' f' sz2 ges b off0 cap0 cap hn' hle hc hcap =>
        rw [hn] at hn'; simp only [Option.some.injEq] at hn'; subst hn'
        simp only [GV.era, AV.sl.injEq, eraL_eq] at hge
        obtain ⟨rfl, rfl, rfl, rfl⟩ := hge
        split at hr
        · simp [Lk.run] at hr
        · rename_i hsz
          simp only [Bool.or_eq_true, bne_iff_ne, ne_eq, not_or, Decidable.not_not, Bool.not_eq_true', decide_eq_false_iff_not] at hsz
          obtain ⟨rfl, _⟩ := hsz
          have hcells : Cells w0 b (off0 + off * sz2) sz2 ((ges.drop off).take n) := by
            cases hTn with
            | sl _ _ _ _ _ _ _ h1 h2 h3 h4 h5 h6 h7 => exact h2.sub off n
          have hlen : ((ges.drop off).take n).length = n := by simp; omega
          split at hr
          · rename_i hlit
            simp only [Lk.run, Option.some.injEq, Prod.mk.injEq] at hr
            obtain ⟨⟨rfl, rfl, rfl⟩, _⟩ := hr
            have hTs : ∀ g ∈ (ges.drop off).take n, HT w0 I0 cx.K g := fun g hg => hTn.elems g (List.mem_of_mem_drop (List.mem_of_mem_take hg))
            refine ⟨(ges.drop off).take n, gob0, I0, by rw [List.map_take, List.map_drop], own0 ?_ hTs, by simp [Ded], fun _ h => h, src hcells hlen rfl⟩
            rw [ownL_eq, List.flatMap_eq_nil_iff]
            intro g hg
            rw [List.all_eq_true] at hlit
            have := hlit g.era (by rw [← List.map_drop, ← List.map_take]; exact List.mem_map_of_mem hg)
            have hT := hTs g hg
            cases hT <;> simp [GV.era, isLit] at this <;> rfl
          · split at hr
            · rename_i hroot
              simp only [Lk.run, Option.some.injEq, Prod.mk.injEq] at hr
              obtain ⟨⟨rfl, rfl, rfl⟩, _⟩ := hr
              simp only [Bool.and_eq_true, beq_iff_eq, List.isEmpty_iff, List.length_map] at hroot
              obtain ⟨⟨⟨rfl, rfl⟩, rfl⟩, hl⟩ := hroot
              have hk : (gob0 o)[k0]? = some (.sl 1 f' sz2 ges b off0 cap0) := by
                unfold gnodeIn at hn
                cases hq : (gob0 o)[k0]? with
                | none => simp [hq] at hn
                | some q => simp only [hq, gnodeAt, Option.some.injEq] at hn; rw [hn]
              have hW := h.moveRoot hk (by simp) _ rfl hTn (.tuple #[])
              have hnd := hW.sto.fnod
              simp only [GV.own.ownL, GV.own, ownM, List.append_nil] at hnd
              have hW' := hW.fewer (fl' := ges) (List.nodup_cons.1 hnd).2 (fun b hb => by simp [GV.own.ownL, GV.own, ownM, hb]) hTn.elems
              refine ⟨ges, _, I0, rfl, hW', Ded.moveRoot (by simp [Ded]) hk (by simp) _, fun _ h => h, src (b := b) (off := off0) (cap := cap) ?_ hl (by simp)⟩
              cases hTn with
              | sl _ _ _ _ _ _ _ h1 h2 h3 h4 h5 h6 h7 => exact h2
            · simp only [Lk.run_bind] at hr
              obtain ⟨⟨⟨v, c1⟩, r3⟩, hf, hr⟩ := bind_some_inv hr
              split at hr
              · rename_i m3 f3 sz3 es3 hv
                simp only at hv; subst hv
                simp only [Lk.run, Option.some.injEq, Prod.mk.injEq] at hr
                obtain ⟨⟨rfl, rfl, rfl⟩, _⟩ := hr
                obtain ⟨gob', I', hF, hP, _⟩ := way_fres he _ h (by simp [Ded]) hx hf
                have hv3 : ∃ g3, g3.map GV.era = es3 ∧ own.ownL g3 = [] ∧ (∀ g ∈ g3, HT w0 I' cx.K g) ∧ ((∀ e ∈ g3, (GV.leafs e).length = sz2) → SrcV w0 sz2 (.slice (some ⟨b, off0 + off * sz2, none⟩) n cap) g3.length (flatV g3)) := by
                  obtain ⟨g, hge, hgv, hH, hgo⟩ := hP
                  have hT := hH.tree_of hgo (by rw [hge]; rfl)
                  cases hT with
                  | sl m4 f4 sz4 g3 b4 off4 cap4 h1 h2 h3 h4 h5 h6 h7 =>
                    simp only [GV.era, AV.sl.injEq, eraL_eq] at hge
                    obtain ⟨rfl, rfl, rfl, rfl⟩ := hge
                    simp only [GV.cv, lenL_eq, Value.slice.injEq, Option.some.injEq, Addr.mk.injEq, and_true] at hgv
                    obtain ⟨⟨rfl, rfl⟩, hl3, rfl⟩ := hgv
                    have ho3 : own.ownL g3 = [] := by
                      simp only [GV.own] at hgo
                      split at hgo
                      · cases hgo
                      · exact hgo
                    refine ⟨g3, rfl, ho3, h3, fun hs => ⟨flatV_len hs, .inr ⟨_, _, by rw [hl3], fun j v hj => ?_⟩⟩⟩
                    rw [addr_add]
                    have h2' : Cells w0 b4 (off0 + off * sz2) sz2 g3 := by
                      intro i e he
                      have hsz : (GV.leafs e).length = sz2 := hs e (List.mem_of_getElem? he)
                      have := h2 i e he
                      rw [hsz] at this
                      obtain ⟨rfl, this⟩ := this
                      exact ⟨hsz, this⟩
                    exact flatV_cells h2' h0 j v hj
                  | nl m4 f4 sz4 hm4 => simp [GV.cv] at hgv
                  | _ => simp [GV.era] at hge
                obtain ⟨g3, rfl, ho3, hT3, hs3⟩ := hv3
                exact ⟨g3, gob', I', rfl, hF.way.fewer (by rw [ho3]; exact List.nodup_nil) (by rw [ho3]; simp) hT3, by simp [Ded], hF.imm, hs3⟩
              · simp [Lk.run] at hr
    · simp [Lk.run] at hr
  · simp [Lk.run] at hr

end
end Go.AM

/- AM, part 23: appends, as the machine does them. -/
namespace Go.AM
open GV

section
variable {cx : Cx} {gob0 gob : Nat → List GV} {I0 I : Nat → Prop} {w0 w : World} {fl : List GV} {c : Ch} {kl : List Kl}

theorem ownL_sublist {l l' : List GV} (h : l.Sublist l') : (own.ownL l).Sublist (own.ownL l') := by
  induction h with
  | slnil => exact List.Sublist.refl _
  | cons a _ ih => simp only [GV.own.ownL]; exact ih.trans (List.sublist_append_right _ _)
  | cons_cons a _ ih => simp only [GV.own.ownL]; exact ih.append_left _

theorem gmodAt_some {f : GV → Option GV} {n' : GV} : ∀ (p : List Stp) (g n : GV), gnodeAt g p = some n → f n = some n' → ∃ g', gmodAt f g p = some g'
  | [], g, n, hn, hf => by simp only [gnodeAt, Option.some.injEq] at hn; subst hn; exact ⟨n', hf⟩
  | (i, k, z) :: p, g, n, hn, hf => by
    cases g <;> simp only [gnodeAt] at hn <;> try (cases hn; done)
    · split at hn
      · rename_i e he
        split at hn
        · rename_i l hl
          obtain ⟨l', hl'⟩ := gmodAt_some p l n hn hf
          exact ⟨_, by simp only [gmodAt, he, hl, hl']; rfl⟩
        · cases hn
      · cases hn
    · split at hn
      · rename_i l hl
        obtain ⟨l', hl'⟩ := gmodAt_some p l n hn hf
        exact ⟨_, by simp only [gmodAt, hl, hl']; rfl⟩
      · cases hn

/-- **A node leaves the store**, wherever it stands. -/
theorem Way.moveOut (h : Way cx gob0 I0 w0 gob fl I w c kl) {o k0 : Nat} {p : List Stp} {n : GV} {ls : List AV} (hn : gnodeIn (gob o) k0 p = some n) (hnode : isNode n = true) (hm : modIn (fun _ => some .dead) ((gob o).map GV.era) k0 p = some ls) :
    ∃ gob', Way cx gob0 I0 w0 gob' (n :: fl) I w ((o, ls) :: c) (⟨o, some k0, !p.isEmpty⟩ :: kl) := by
  have hlf : n.leafy = true := by cases n <;> simp [isNode] at hnode <;> rfl
  rw [gmodIn_era (gf := fun n => some (.dead n.cv)) (h.sto.hol o) k0 p (fun n' _ => by simp [GV.era])] at hm
  obtain ⟨gls, hgm, rfl⟩ := map_some_inv hm
  obtain ⟨g, g', hk, hg', rfl⟩ := gmodIn_inv hgm
  have hng : gnodeAt g p = some n := by unfold gnodeIn at hn; rw [hk] at hn; exact hn
  have hTg := h.sto.hol o g (List.mem_of_getElem? hk)
  obtain ⟨rest, R1, R2, _, _, R3⟩ := gmod_main (I' := I) (w' := w) (K := cx.K) (fun b hb => ⟨hb, rfl⟩) p g g' n (.dead n.cv) hTg hng hg' rfl rfl rfl hlf (fun _ => rfl)
  simp only [GV.own, List.nil_append] at R2
  obtain ⟨r0, Q1, Q2, _⟩ := ownL_set hk g'
  have S1 : (own.ownL (gob o)).Perm (n.own ++ (rest ++ r0)) := (Q1.trans (R1.append_right r0)).trans (by rw [List.append_assoc])
  have S2 : (own.ownL ((gob o).set k0 g')).Perm (rest ++ r0) := Q2.trans (R2.append_right r0)
  have hperm : (own.ownL ((gob o).set k0 g') ++ own.ownL (n :: fl)).Perm (own.ownL (gob o) ++ own.ownL fl) := by
    simp only [GV.own.ownL]
    refine (S2.append_right _).trans (List.Perm.trans ?_ (S1.append_right (own.ownL fl)).symm)
    rw [← List.append_assoc]
    exact List.Perm.append_right _ List.perm_append_comm
  have hTg' := R3 (fun _ _ => rfl) (.dead _)
  refine ⟨upd gob o ((gob o).set k0 g'), ?_, h.era.cons o _, ?_, h.imm, h.size⟩
  · refine h.sto.step o _ (n :: fl) I w ((hperm.nodup_iff).2 (h.sto.nodAll o)) (fun b hb => .inl (hperm.mem_iff.1 hb)) (fun x hx => ?_) (fun x hx => ?_) (fun b hb => ⟨hb, rfl⟩) (fun b hb => .inl hb) (fun _ _ _ => rfl) (fun _ _ _ => rfl) rfl rfl rfl (Nat.le_refl _)
    · rcases List.mem_or_eq_of_mem_set hx with hx | rfl
      · exact h.sto.hol o x hx
      · exact hTg'
    · rcases List.mem_cons.1 hx with rfl | hx
      · exact h.sto.node hn
      · exact h.sto.fhol x hx
  · refine h.pre.trans (k2 := [⟨o, some k0, !p.isEmpty⟩]) (Pres.upd fun k q m hq hnode' hh => ?_)
    unfold gnodeIn at hq ⊢
    rw [List.getElem?_set]
    by_cases hkk : k0 = k
    · subst hkk
      rw [hk] at hq
      simp only at hq
      simp only [if_true, lt_of_get hk]
      cases p with
      | nil => simp [Kl.hits] at hh
      | cons x p =>
        have hq0 : q = [] := by simp [Kl.hits] at hh; exact hh
        subst hq0
        simp only [gnodeAt, Option.some.injEq] at hq
        subst hq
        refine ⟨g', by simp [gnodeAt], ?_⟩
        obtain ⟨i, k', z⟩ := x
        cases g <;> simp [isNode] at hnode'
        · simp only [gmodAt] at hg'
          split at hg'
          · split at hg'
            · split at hg'
              · simp only [Option.some.injEq] at hg'; subst hg'
                exact .sl _ _ _ _ _ _ _ _ _ _ (by simp)
              · cases hg'
            · cases hg'
          · cases hg'
        · simp only [gmodAt] at hg'
          split at hg'
          · split at hg'
            · simp only [Option.some.injEq] at hg'; subst hg'
              exact .pt _ _ _ _ _ _
            · cases hg'
          · cases hg'
    · simp only [hkk, if_false]
      exact ⟨m, hq, Alike.refl hnode'⟩

/-- An object is put into the store, a block of what stood nowhere being written. -/
theorem Way.place2 (h : Way cx gob0 I0 w0 gob fl I w c kl) {w' : World} {b0 : Nat} (ht : Turn w w' b0) (hb0 : b0 ∈ own.ownL fl) (hK : ∀ j, cx.K b0 j → w'.cell? ⟨b0, j, none⟩ = w.cell? ⟨b0, j, none⟩) (ky : Nat) (ls : List GV) (hnod : (own.ownL ls).Nodup)
    (hsub : ∀ b ∈ own.ownL ls, b ∈ own.ownL fl) (hls : ∀ g ∈ ls, HT w' I cx.K g) : Way cx gob0 I0 w0 (upd gob ky ls) [] I w' ((ky, ls.map GV.era) :: c) (⟨ky, none, false⟩ :: kl) := by
  have hnI := h.sto.fnI b0 hb0
  have hI : ∀ b, I b → w'.heap[b]? = w.heap[b]? := fun b hb => ht.other b (fun e => hnI (e ▸ hb))
  refine ⟨?_, h.era.cons ky ls, ?_, fun b hb => ⟨(h.imm b hb).1, (hI b (h.imm b hb).1).trans (h.imm b hb).2⟩, by rw [ht.size]; exact h.size⟩
  · refine h.sto.step ky ls [] I w' (by simpa [GV.own.ownL] using hnod) (fun b hb => ?_) hls (by simp) (fun b hb => ⟨hb, hI b hb⟩) (fun b hb => .inl hb) (fun b hb hnm => ?_) (fun b j hk => ?_) ht.os ht.tape ht.output (Nat.le_of_eq ht.size.symm)
    · simp only [GV.own.ownL, List.append_nil] at hb
      exact .inl (List.mem_append.2 (.inr (hsub b hb)))
    · exact ht.other b (fun e => hnm (by subst e; simp [hb0]))
    · by_cases hb : b = b0
      · subst hb; exact hK j hk
      · simp only [World.cell?]; rw [ht.other b hb]
  · refine h.pre.trans (Pres.upd (kl := [⟨ky, none, false⟩]) fun k p n hn hnode hh => ?_)
    simp [Kl.hits] at hh

end

section
variable {P : Program} {G : Globs} {cx : Cx} {gob : Nat → List GV} {I : Nat → Prop} {s : St} {a : Act} {w : World}

theorem get_append_toArray {a b : List Value} {z : Array Value} {j : Nat} {v : Value} (h : (a ++ b)[j]? = some v) : (a.toArray ++ b.toArray ++ z)[j]? = some v := by
  have hlt := lt_of_get h
  rw [Array.getElem?_append_left (by simpa using hlt), List.append_toArray, List.getElem?_toArray]
  exact h

theorem does_app (hG : GlobOK G cx) (h : Inv cx gob I s a w) {o : Oper} {cl : Call} (ho : o.op = .call cl) (hb : cl.callee = .builtin .append) {t u e e2 : TypeId} {xs xx : Operand} (hts : cl.argTypes.toList = [t, u]) (has : cl.args.toList = [xs, xx])
    (ht : P.underlying t = some (.slice e)) (hu : P.underlying u = some (.slice e2)) {i : Ti} (hi : tiOf P e = some i) {z : AV} (hz : zeroA P e = some z) (hzl : (leafs z).length = i.n) (h0 : 0 < i.n) (hby : 0 < i.bytes)
    {ys yx : Opr} (hxs : cOpr G xs = some ys) (hxx : cOpr G xx = some yx) {vs vx : AV} (hvs : s.val ys = some vs) (hvx : s.val yx = some vx) {ky : Nat} {f : Bool} {ef : Eff} {r r' : List Nat}
    (hr : (appOp ky f i.n i.bytes vs vx).run s.obj r = some (ef, r')) : Does P cx gob I w a.eval o ef := by
  obtain ⟨d, fo, hue, hinf, rfl⟩ := tiOf_inv hi
  obtain ⟨inf, zv, hi', hzv, hcv⟩ := zeroA_inv hz
  rw [hinf] at hi'; simp only [Option.some.injEq] at hi'; subst hi'
  obtain ⟨gz, rfl, rfl, hTz, _, _⟩ := cvA_val (w := w) (I := I) (K := cx.K) 3 zv z hcv
  have hzc : gz.cv.cells.size = fo.size := by rw [hTz.cv_cells (cvA_alive hcv)]; rw [hTz.leafs_era, List.length_map] at hzl; simpa using hzl
  have hS := opr_val hG h hxs hvs
  have hX := opr_val hG h hxx hvx
  have hrun : ∀ x w', (Builtin.append_ #[t, u] o.type #[a.eval xs, a.eval xx]).run P w = .ok x w' → (execOp a.eval o).run P w = .ok (.value x) w' := by
    intro x w' hx
    rw [run_call_builtin ho hb]
    have e1 : cl.args = #[xs, xx] := by rw [← has]
    have e2 : cl.argTypes = #[t, u] := by rw [← hts]
    rw [e1, e2]
    simp only [builtin, List.map_toArray, List.map_cons, List.map_nil] at hx ⊢
    rw [Sem.run_bind, hx]; rfl
  simp only at hr h0 hby
  unfold appOp at hr
  rw [Lk.run_bind] at hr
  obtain ⟨⟨⟨ax, c, kl⟩, r1⟩, hsrc, hr⟩ := bind_some_inv hr
  obtain ⟨gxs, gob1, I1, rfl, hW, hD, hIm, hsv⟩ := way_src h.era (Way.start h.sto) h0 hX hsrc
  simp only at hr
  split at hr
  · simp [Lk.run] at hr
  rename_i hall
  simp only [Bool.not_eq_true', Bool.not_eq_false, List.all_map, List.all_eq_true, Function.comp_apply, Bool.and_eq_true, beq_iff_eq] at hall
  have hTx : ∀ g ∈ gxs, HT w I1 cx.K g := hW.sto.fhol
  have hxl : ∀ g ∈ gxs, (GV.leafs g).length = fo.size := fun g hg => by
    have := (hall g hg).2
    rwa [(hTx g hg).leafs_era, List.length_map] at this
  have hsv := hsv hxl
  have h1c : (flatV gxs).all (·.oneCell') = true := by
    rw [List.all_eq_true]
    intro v hv
    unfold flatV at hv
    obtain ⟨g, hg, hv⟩ := List.mem_flatMap.1 hv
    obtain ⟨l, hl, rfl⟩ := List.mem_map.1 hv
    have hT := hTx g hg
    refine (hT.leaf hl).oneCell (hT.leafy hl) ?_
    have := (hall g hg).1 l.era (by rw [hT.leafs_era]; exact List.mem_map_of_mem hl)
    intro e; rw [e] at this; simp [live] at this
  have hxlen : (flatV gxs).length = gxs.length * fo.size := flatV_len hxl
  -- what the growing arm comes to
  have grow : ∀ {gobx : Nat → List GV} {olds : List GV} {cc : Ch} {kk : List Kl} {base : Option Addr} {n cp : Nat}, Way cx gob I w gobx (olds ++ gxs) I1 w cc kk → (∀ g ∈ olds, (GV.leafs g).length = fo.size) → olds.length = n →
      (Builtin.firstCells fo.size n (.slice base n cp)).run P w.drew = .ok (flatV olds).toArray w.drew → a.eval xs = .slice base n cp → cp < n + gxs.length → (n + gxs.length) * fo.bytes ≤ most →
      Does P cx gob I w a.eval o { v := .sref ky 0 [] 0 (n + gxs.length), ch := (ky, [.sl 1 f fo.size ((olds ++ gxs).map GV.era)]) :: cc, kl := ⟨ky, none, false⟩ :: kk } := by
    intro gobx olds cc kk base n cp hWx hol hn hfc hev hcp hmost
    have hr1 := run_append_more (P := P) (w := w) (ty := o.type) ht hu hinf hzv hsv hfc hcp hby (by simp only [most] at hmost; omega)
    have hge := grownCap_ge w (n + gxs.length) cp e
    have hls : ∀ g ∈ olds ++ gxs, (GV.leafs g).length = fo.size := fun g hg => by
      rcases List.mem_append.1 hg with h' | h'
      · exact hol g h'
      · exact hxl g h'
    obtain ⟨gob', k1, k2⟩ := newRow_way hWx (Grow.drew w (.cells ((flatV olds).toArray ++ (flatV gxs).toArray ++ Builtin.zeroCells gz.cv.cells (grownCap w (n + gxs.length) cp e - (n + gxs.length))) e)) (heap_alloc_new w.drew _)
      (sz := fo.size) (cap := grownCap w (n + gxs.length) cp e) (flatV_cellsA hls (fun j v hj => get_append_toArray (by rw [← flatV_append]; exact hj))) (by rw [List.length_append, hn]; exact hge)
      (by
        simp only [Array.size_append, List.size_toArray, size_zeroCells, hzc, hxlen, flatV_len hol, hn, ← Nat.add_mul]
        exact Nat.mul_le_mul_right _ (by omega)) ky f
    refine ⟨_, _, hrun _ _ (by rw [hev]; exact hr1), gob', I1, ?_⟩
    exact k1.post (sref_new k2 (by rw [List.length_append, hn]; exact Nat.le_refl _) hge (Nat.le_refl _))
  split at hr
  · -- onto nil
    have hev := hS.lit_inv.1
    split at hr
    · rename_i hemp
      simp only [Lk.run, Option.some.injEq, Prod.mk.injEq] at hr
      obtain ⟨rfl, _⟩ := hr
      have hg0 : gxs = [] := by simpa using hemp
      subst hg0
      refine ⟨.slice none 0 0, w, hrun _ _ (by rw [hev]; exact run_append_fit_nil ht hu hinf hsv), gob1, I1, hW.post (Val.lit rfl)⟩
    · rename_i hemp
      split at hr
      · rename_i hmost
        simp only [Lk.run, Option.some.injEq, Prod.mk.injEq] at hr
        obtain ⟨rfl, _⟩ := hr
        have hpos : 0 < gxs.length := by
          cases gxs with
          | nil => simp at hemp
          | cons => simp
        rw [List.length_map] at hmost ⊢
        have := grow (olds := []) (base := none) (n := 0) (cp := 0) hW (by simp) rfl (by simp [flatV, Builtin.firstCells]) hev (by omega) (by simpa using hmost)
        simpa using this
      · simp [Lk.run] at hr
  · rename_i m f2 sz' es
    split at hr
    · rename_i hcond
      simp only [Lk.run, Option.some.injEq, Prod.mk.injEq] at hr
      obtain ⟨rfl, _⟩ := hr
      simp only [Bool.and_eq_true, beq_iff_eq, Bool.not_eq_true', decide_eq_true_eq, List.length_map] at hcond
      obtain ⟨⟨⟨rfl, rfl⟩, hemp⟩, hmost⟩ := hcond
      have hpos : 0 < gxs.length := by
        cases gxs with
        | nil => simp at hemp
        | cons => simp
      rcases hS.sl_inv with ⟨rfl, hev, _⟩ | ⟨gs, b, off, cap, rfl, hev, hT, hown⟩
      · have := grow (olds := []) (base := none) (n := 0) (cp := 0) hW (by simp) rfl (by simp [flatV, Builtin.firstCells]) hev (by omega) (by simpa using hmost)
        simpa using this
      · have hT1 := hT.mono hW.imm (fun _ _ _ h => h) (fun _ _ => rfl)
        cases hT1 with
        | sl _ _ _ _ _ _ _ h1 h2 h3 h4 h5 h6 h7 =>
          have hgo : own.ownL gs = [] := (h4 rfl).2
          have hcl := h5 rfl
          subst hcl
          rw [List.length_map] at hmost
          have hgl : ∀ g ∈ gs, (GV.leafs g).length = fo.size := fun g hg => by
            obtain ⟨j, hj⟩ := List.mem_iff_getElem?.1 hg
            exact (h2 j g hj).1
          have hW2 := hW.fewer (fl' := gs ++ gxs) (by rw [ownL_append, hgo]; exact hW.sto.fnod) (fun b hb => by rw [ownL_append, hgo] at hb; exact hb) (fun g hg => by
            rcases List.mem_append.1 hg with h' | h'
            · exact h3 g h'
            · exact hTx g h')
          have := grow (olds := gs) (base := some ⟨b, off, none⟩) (n := gs.length) (cp := gs.length) hW2 hgl rfl (run_firstCells_some w.drew fo.size gs.length _ _ _ _ (flatV_len hgl) (fun j v hj => by
            rw [addr_add]; exact flatV_cells h2 h0 j v hj)) hev (by omega) hmost
          simpa using this
    · simp [Lk.run] at hr
  · rename_i o' k0 p off n _
    have hR0 := hS.ref_inv (.inl ⟨_, _, _, _, _, rfl⟩)
    rw [Lk.run_bind] at hr
    obtain ⟨r2, hask2⟩ := run_askC hW.era h.era o' r1
    rw [hask2, Option.bind_some] at hr
    split at hr
    · rename_i f2 sz' es hnd
      simp only at hnd
      rw [nodeIn_era (hW.sto.hol o')] at hnd
      obtain ⟨nd, hn, hge⟩ := map_some_inv hnd
      have hR : RefOK gob1 (.sref o' k0 p off n) (a.eval xs) := by
        rcases way_ref hW hD hR0 rfl hn with h' | ⟨v, rfl⟩
        · exact h'
        · simp [GV.era] at hge
      have hTn := hW.sto.node hn
      generalize hev : a.eval xs = sv at hR
      cases hR with
      | s _ _ _ _ _ m' f' sz2 ges b off0 cap0 cap hn' hle hc hcap =>
        rw [hn] at hn'; simp only [Option.some.injEq] at hn'; subst hn'
        simp only [GV.era, AV.sl.injEq, eraL_eq] at hge
        obtain ⟨rfl, rfl, rfl, rfl⟩ := hge
        split at hr
        · rename_i hcond
          simp only [Bool.and_eq_true, beq_iff_eq, decide_eq_true_eq, List.length_map] at hcond
          obtain ⟨⟨rfl, _⟩, hmost⟩ := hcond
          split at hr
          · rename_i ls' hmod
            simp only [Lk.run, Option.some.injEq, Prod.mk.injEq] at hr
            obtain ⟨rfl, _⟩ := hr
            obtain ⟨gob2, hW2⟩ := hW.moveOut hn rfl hmod
            have hlen : ((ges.drop off).take n).length = n := by simp; omega
            have hTn0 := hTn
            cases hTn0 with
            | sl _ _ _ _ _ _ _ h1 h2 h3 h4 h5 h6 h7 =>
            have hsubn : ∀ g ∈ (ges.drop off).take n, g ∈ ges := fun g hg => List.mem_of_mem_drop (List.mem_of_mem_take hg)
            have hgl : ∀ g ∈ (ges.drop off).take n, (GV.leafs g).length = fo.size := fun g hg => by
              obtain ⟨j, hj⟩ := List.mem_iff_getElem?.1 (hsubn g hg)
              exact (h2 j g hj).1
            have hnd2 := hW2.sto.fnod
            simp only [GV.own.ownL, GV.own, ownM, beq_self_eq_true, Bool.true_or, if_true, List.cons_append, List.nodup_cons, List.mem_append, not_or] at hnd2
            obtain ⟨⟨hb1, hb2⟩, hnd3⟩ := hnd2
            have hsl : (own.ownL ((ges.drop off).take n)).Sublist (own.ownL ges) := by
              exact ownL_sublist ((List.take_sublist _ _).trans (List.drop_sublist _ _))
            have hnd4 : (own.ownL ((ges.drop off).take n) ++ own.ownL gxs).Nodup := (hsl.append_right _).nodup hnd3
            have hmapeq : List.take n (List.drop off (List.map era ges)) ++ List.map era gxs = (((ges.drop off).take n) ++ gxs).map GV.era := by rw [List.map_append, List.map_take, List.map_drop]
            have hcells := h2.sub off n
            rw [List.length_map, hmapeq]
            by_cases hfit : n + gxs.length ≤ cap
            · -- in place
              obtain ⟨⟨arr, T, ha, hs⟩, hkk⟩ := h6 rfl
              have hmul : (off + cap) * fo.size ≤ cap0 * fo.size := Nat.mul_le_mul_right _ hcap
              have hmul2 : (n + gxs.length) * fo.size ≤ cap * fo.size := Nat.mul_le_mul_right _ hfit
              rw [Nat.add_mul] at hmul hmul2
              have hfitA : off0 + off * fo.size + n * fo.size + (flatV gxs).length ≤ arr.size := by rw [hxlen]; omega
              have hrun1 := run_append_fit (P := P) (w := w) (ty := o.type) ht hu hinf hsv ha hfitA h1c hfit
              obtain ⟨arr', ha', hs', hget⟩ := block_setCells (flatV gxs) (off0 + off * fo.size + n * fo.size) w arr ha hfitA
              have hturn := turn_setCells b (flatV gxs) (off0 + off * fo.size + n * fo.size) w
              have hbI : ¬ I1 b := hW2.sto.fnI b (by simp [GV.own.ownL, GV.own, ownM])
              have hother : ∀ g : GV, HT w I1 cx.K g → b ∉ g.own → HT (setCells w b (off0 + off * fo.size + n * fo.size) (flatV gxs)) I1 cx.K g := fun g hg hbg =>
                hg.mono (fun b' hb' => ⟨hb', hturn.other b' (fun e => hbI (e ▸ hb'))⟩) (fun _ _ _ h => h) (fun b' hb' => hturn.other b' (fun e => hbg (e ▸ hb')))
              have hT' : HT (setCells w b (off0 + off * fo.size + n * fo.size) (flatV gxs)) I1 cx.K (.sl 1 f fo.size (((ges.drop off).take n) ++ gxs) b (off0 + off * fo.size) cap) := by
                refine .sl _ _ _ _ _ _ _ (by rw [List.length_append, hlen]; exact hfit) (fun j x hj => ?_) (fun g hg => ?_) (fun h => by simp [ownM] at h) (fun h => by cases h) (fun _ => ⟨⟨arr', T, ha', by omega⟩, fun j hj => ?_⟩) (fun h => by cases h)
                · rw [List.getElem?_append] at hj
                  split at hj
                  · rename_i hjn
                    refine ⟨(hcells j x hj).1, fun k l hl => ?_⟩
                    have hkl : k < fo.size := (hcells j x hj).1 ▸ lt_of_get hl
                    rw [hlen] at hjn
                    have : (j + 1) * fo.size ≤ n * fo.size := Nat.mul_le_mul_right _ hjn
                    rw [Nat.add_mul, Nat.one_mul] at this
                    rw [cell_block ha', hget, if_neg (by omega), ← cell_block ha]
                    exact (hcells j x hj).2 k l hl
                  · rename_i hjn
                    rw [hlen] at hj hjn
                    have hjl := lt_of_get hj
                    refine ⟨hxl x (List.mem_of_getElem? hj), fun k l hl => ?_⟩
                    have hkl : k < fo.size := hxl x (List.mem_of_getElem? hj) ▸ lt_of_get hl
                    have hfg := flatV_get hxl hj hkl
                    rw [hl] at hfg
                    have hjm : j * fo.size = n * fo.size + (j - n) * fo.size := by rw [← Nat.add_mul]; congr 1; omega
                    have hm3 : (j - n + 1) * fo.size ≤ gxs.length * fo.size := Nat.mul_le_mul_right _ hjl
                    rw [Nat.add_mul, Nat.one_mul] at hm3
                    rw [cell_block ha', hget, if_pos (by rw [hxlen]; omega)]
                    rw [show off0 + off * fo.size + j * fo.size + k - (off0 + off * fo.size + n * fo.size) = (j - n) * fo.size + k by omega, hfg]; rfl
                · rcases List.mem_append.1 hg with h' | h'
                  · refine hother g (h3 g (hsubn g h')) (fun hbg => hb1 ?_)
                    rw [ownL_eq]; exact List.mem_flatMap.2 ⟨g, hsubn g h', hbg⟩
                  · refine hother g (hTx g h') (fun hbg => hb2 ?_)
                    rw [ownL_eq]; exact List.mem_flatMap.2 ⟨g, h', hbg⟩
                · have := hkk (off * fo.size + j) (by omega)
                  rwa [← Nat.add_assoc] at this
              have hW3 := hW2.place2 hturn (by simp [GV.own.ownL, GV.own, ownM]) (fun j hj => by
                rw [cell_block ha', hget, cell_block ha]
                split
                · rename_i hh
                  exfalso
                  have := hkk (j - off0) (by rw [hxlen] at hh; omega)
                  rw [show off0 + (j - off0) = j by omega] at this
                  exact this hj
                · rfl) ky [.sl 1 f fo.size (((ges.drop off).take n) ++ gxs) b (off0 + off * fo.size) cap] (by
                simp only [GV.own.ownL, GV.own, ownM, beq_self_eq_true, Bool.true_or, if_true, List.append_nil, ownL_append, List.nodup_cons, List.mem_append, not_or]
                exact ⟨⟨fun hm => hb1 (hsl.subset hm), hb2⟩, hnd4⟩) (fun b' hb' => by
                simp only [GV.own.ownL, GV.own, ownM, beq_self_eq_true, Bool.true_or, if_true, List.append_nil, ownL_append, List.mem_cons, List.mem_append, List.cons_append] at hb' ⊢
                rcases hb' with h' | h' | h'
                · exact .inl h'
                · exact .inr (.inl (hsl.subset h'))
                · exact .inr (.inr h')) (fun g hg => by simp only [List.mem_singleton] at hg; subst hg; exact hT')
              have hr3 : RefOK (AM.upd gob2 ky [.sl 1 f fo.size (((ges.drop off).take n) ++ gxs) b (off0 + off * fo.size) cap]) (.sref ky 0 [] 0 (n + gxs.length)) (.slice (some ⟨b, off0 + off * fo.size, none⟩) (n + gxs.length) cap) := by
                have := RefOK.s (gob := AM.upd gob2 ky [.sl 1 f fo.size (((ges.drop off).take n) ++ gxs) b (off0 + off * fo.size) cap]) ky 0 [] 0 (n + gxs.length) 1 f fo.size (((ges.drop off).take n) ++ gxs) b (off0 + off * fo.size) cap cap (by simp [gnodeIn, upd_same, gnodeAt]) (by rw [List.length_append, hlen]; omega) hfit (by omega)
                simpa using this
              refine ⟨_, _, hrun _ _ (by rw [hev]; exact hrun1), AM.upd gob2 ky [.sl 1 f fo.size (((ges.drop off).take n) ++ gxs) b (off0 + off * fo.size) cap], I1, ?_⟩
              have := hW3.post (Val.ref hr3)
              simpa [GV.era, eraL_eq] using this
            · -- elsewhere
              have hW3 := hW2.fewer (fl' := ((ges.drop off).take n) ++ gxs) (by rw [ownL_append]; exact hnd4) (fun b' hb' => by
                simp only [GV.own.ownL, GV.own, ownM, beq_self_eq_true, Bool.true_or, if_true, ownL_append, List.mem_cons, List.mem_append, List.cons_append] at hb' ⊢
                rcases hb' with h' | h'
                · exact .inr (.inl (hsl.subset h'))
                · exact .inr (.inr h')) (fun g hg => by
                rcases List.mem_append.1 hg with h' | h'
                · exact h3 g (hsubn g h')
                · exact hTx g h')
              exact grow hW3 hgl hlen (run_firstCells_some w.drew fo.size n _ _ _ _ (by rw [flatV_len hgl, hlen]) (fun j v hj => by
                rw [addr_add]; exact flatV_cells hcells h0 j v hj)) hev (by omega) hmost
          · simp [Lk.run] at hr
        · simp [Lk.run] at hr
    · simp [Lk.run] at hr
  · simp [Lk.run] at hr

end
end Go.AM

/- AM, part 24: slices of slices; copies. -/
namespace Go.AM
open GV

section
variable {P : Program} {G : Globs} {cx : Cx} {gob : Nat → List GV} {I : Nat → Prop} {s : St} {a : Act} {w : World}

/-- A bound and its value. -/
inductive Bd : Option AV → Option Value → Prop where
  | none : Bd none none
  | some (v : AV) (x : Value) : (∀ n, natOf v = Option.some n → ∃ k, x = .int k n) → Bd (Option.some v) (Option.some x)

theorem bd_of (hG : GlobOK G cx) (h : Inv cx gob I s a w) {x : Option Operand} {y : Option Opr} {v : Option AV} (hc : cOpt G x = some y) (hv : optv s.val y = some v) : Bd v (x.map a.eval) := by
  cases x with
  | none =>
    simp only [cOpt, Option.some.injEq] at hc; subst hc
    simp only [optv, Option.some.injEq] at hv; subst hv
    exact .none
  | some x =>
    simp only [cOpt] at hc
    obtain ⟨z, hz, rfl⟩ := map_some_inv hc
    simp only [optv] at hv
    obtain ⟨u, hu, rfl⟩ := map_some_inv hv
    exact .some _ _ (fun n hn => natOf_val (opr_val hG h hz hu) hn)

theorem run_sliceBound {k : IntKind} {n y : Nat} (hn : n ≤ y) (code : BoundsCode) (w : World) : (Instr.sliceBound (.int k n) y code).run P w = .ok n w := by
  unfold Instr.sliceBound
  simp only [asIntOf, Sem.run_bind, Sem.run_pure, Result.andThen_ok]
  rw [if_pos (by omega)]
  simp

theorem run_bounds {n cap : Nat} (hnc : n ≤ cap) {lo hi mx : Option AV} {xl xh xm : Option Value} (hl : Bd lo xl) (hh : Bd hi xh) (hm : Bd mx xm) {l h : Nat} {t : Option Nat} (hb : bounds n lo hi mx = some (l, h, t)) (w : World) :
    (Instr.sliceBounds true n cap xl xh xm).run P w = .ok (l, h, t.getD cap) w ∧ l ≤ h ∧ h ≤ n ∧ (∀ m, t = some m → h ≤ m ∧ m ≤ n) := by
  unfold bounds at hb
  obtain ⟨m', hm', hb⟩ := bind_some_inv hb
  obtain ⟨h', hh', hb⟩ := bind_some_inv hb
  obtain ⟨l', hl', hb⟩ := bind_some_inv hb
  rw [Option.ite_none_right_eq_some] at hb
  obtain ⟨hc, hb⟩ := hb
  · simp only [Option.some.injEq, Prod.mk.injEq] at hb
    obtain ⟨rfl, rfl, rfl⟩ := hb
    simp only [Bool.and_eq_true, decide_eq_true_eq] at hc
    obtain ⟨⟨hlh, hhn⟩, hmm⟩ := hc
    refine ⟨?_, hlh, hhn, fun m hm => by subst hm; simpa using hmm⟩
    unfold Instr.sliceBounds
    cases hm with
    | none =>
      simp only [Option.some.injEq] at hm'; subst hm'
      cases hh with
      | none =>
        simp only [Option.isNone_none, if_true, Option.some.injEq] at hh'; subst hh'
        cases hl with
        | none =>
          simp only [Option.some.injEq] at hl'; subst hl'
          simp [Sem.run_bind]
        | some v x hx =>
          obtain ⟨k, rfl⟩ := hx l' hl'
          simp [Sem.run_bind, run_sliceBound hlh]
      | some v x hx =>
        obtain ⟨k, rfl⟩ := hx h' hh'
        cases hl with
        | none =>
          simp only [Option.some.injEq] at hl'; subst hl'
          simp [Sem.run_bind, run_sliceBound (Nat.le_trans hhn hnc)]
        | some v x hx =>
          obtain ⟨k, rfl⟩ := hx l' hl'
          simp [Sem.run_bind, run_sliceBound (Nat.le_trans hhn hnc), run_sliceBound hlh]
    | some vm xm hxm =>
      obtain ⟨m, hm2, rfl⟩ := map_some_inv hm'
      simp only [Bool.and_eq_true, decide_eq_true_eq] at hmm
      obtain ⟨km, rfl⟩ := hxm m hm2
      cases hh with
      | none => simp at hh'
      | some v x hx =>
        obtain ⟨k, rfl⟩ := hx h' hh'
        cases hl with
        | none =>
          simp only [Option.some.injEq] at hl'; subst hl'
          simp [Sem.run_bind, run_sliceBound (Nat.le_trans hmm.2 hnc), run_sliceBound hmm.1]
        | some v x hx =>
          obtain ⟨k, rfl⟩ := hx l' hl'
          simp [Sem.run_bind, run_sliceBound (Nat.le_trans hmm.2 hnc), run_sliceBound hmm.1, run_sliceBound hlh]

theorem run_slice_val {t e : TypeId} {fo : TypeInfo} (ht : P.underlying t = some (.slice e)) (hi : P.info? e = some fo) {p : Option Addr} {n cap : Nat} {xl xh xm : Option Value} {l h m : Nat} (hb : (Instr.sliceBounds true n cap xl xh xm).run P w = .ok (l, h, m) w) :
    (Instr.sliceAt t (.slice p n cap) xl xh xm).run P w = .ok (.slice (if m = l then p else p.map (·.add (l * fo.size))) (h - l) (m - l)) w := by
  unfold Instr.sliceAt
  rw [Sem.run_bind, run_und ht]
  simp only [Result.andThen_ok]
  unfold Instr.slice
  rw [Sem.run_bind, run_und ht]
  simp only [Result.andThen_ok]
  rw [Sem.run_bind, hb]
  simp only [Result.andThen_ok]
  rw [Sem.run_bind, run_size hi]
  rfl

theorem does_slc (hG : GlobOK G cx) (hI : Inv cx gob I s a w) {o : Oper} {t e : TypeId} {x : Operand} {lo hi mx : Option Operand} (ho : o.op = .slice t x lo hi mx) (ht : P.underlying t = some (.slice e)) {fo : TypeInfo} (hinf : P.info? e = some fo)
    {y : Opr} {yl yh ym : Option Opr} (hx : cOpr G x = some y) (hl : cOpt G lo = some yl) (hh : cOpt G hi = some yh) (hm : cOpt G mx = some ym) {vx : AV} {vl vh vm : Option AV} (hvx : s.val y = some vx) (hvl : optv s.val yl = some vl) (hvh : optv s.val yh = some vh)
    (hvm : optv s.val ym = some vm) {ef : Eff} {r r' : List Nat} (hr : (slcLk fo.size vx vl vh vm).run s.obj r = some (ef, r')) : Does P cx gob I w a.eval o ef := by
  have hX := opr_val hG hI hx hvx
  have bl := bd_of hG hI hl hvl
  have bh := bd_of hG hI hh hvh
  have bm := bd_of hG hI hm hvm
  have hrun : ∀ {p : Option Addr} {n cap l h m : Nat}, a.eval x = .slice p n cap → (Instr.sliceBounds true n cap (lo.map a.eval) (hi.map a.eval) (mx.map a.eval)).run P w = .ok (l, h, m) w →
      (execOp a.eval o).run P w = .ok (.value (.slice (if m = l then p else p.map (·.add (l * fo.size))) (h - l) (m - l))) w := by
    intro p n cap l h m hev hb
    rw [show o = { o with op := .slice t x lo hi mx } by rw [← ho]]
    simp only [execOp, hev]
    rw [Sem.run_bind, run_slice_val ht hinf hb]
    rfl
  unfold slcLk at hr
  split at hr
  · have hev := hX.lit_inv.1
    rw [Lk.run_of] at hr
    obtain ⟨e1, he1, hr⟩ := map_some_inv hr
    obtain ⟨⟨l, h, t'⟩, hb, rfl⟩ := map_some_inv he1
    simp only [Prod.mk.injEq] at hr
    obtain ⟨rfl, _⟩ := hr
    obtain ⟨hb1, hlh, hhn, htm⟩ := run_bounds (P := P) (Nat.le_refl 0) bl bh bm hb w
    have h0 : h = 0 := by omega
    have l0 : l = 0 := by omega
    subst h0; subst l0
    have ht0 : t'.getD 0 = 0 := by
      cases t' with
      | none => rfl
      | some m => have := htm m rfl; simp; omega
    rw [ht0] at hb1
    have := hrun hev hb1
    exact ⟨_, w, this, gob, I, OpPost.pure hI.sto (by simpa using Val.lit (x := .slice none 0 0) rfl)⟩
  · rename_i m f sz es
    split at hr
    · simp [Lk.run] at hr
    rename_i hcond
    simp only [Bool.or_eq_true, bne_iff_ne, ne_eq, not_or, Decidable.not_not] at hcond
    obtain ⟨hown, rfl⟩ := hcond
    have hom : ownM m = false := by simp only [ownM]; simpa [Bool.or_eq_true] using hown
    rw [Lk.run_of] at hr
    obtain ⟨e1, he1, hr⟩ := map_some_inv hr
    obtain ⟨⟨l, h, t'⟩, hb, rfl⟩ := map_some_inv he1
    simp only [Prod.mk.injEq] at hr
    obtain ⟨rfl, _⟩ := hr
    have hm' : ∀ b : Bool, ownM (if b = true then 2 else 0) = false := fun b => by cases b <;> rfl
    rcases hX.sl_inv with ⟨rfl, hev, _⟩ | ⟨gs, b, off, cap, rfl, hev, hT, ho'⟩
    · obtain ⟨hb1, hlh, hhn, htm⟩ := run_bounds (P := P) (Nat.le_refl 0) bl bh bm hb w
      have h0 : h = 0 := by simpa using hhn
      have l0 : l = 0 := by omega
      subst h0; subst l0
      have ht0 : t'.getD 0 = 0 := by
        cases t' with
        | none => rfl
        | some m => have := htm m rfl; simp at this ⊢; omega
      rw [ht0] at hb1
      have := hrun hev hb1
      refine ⟨_, w, this, gob, I, OpPost.pure hI.sto ?_⟩
      have hv := Val.tree (gob := gob) (w := w) (I := I) (cx := cx) (g := .nl (if (t' == some 0 || (t'.isNone && m == 2 && 0 == ([] : List AV).length)) = true then 2 else 0) f fo.size) (.nl _ _ _ (hm' _)) rfl
      simpa [GV.era, GV.cv] using hv
    · rw [List.length_map] at hb
      have hT0 := hT
      cases hT with
      | sl _ _ _ _ _ _ _ h1 h2 h3 h4 h5 h6 h7 =>
        obtain ⟨hb1, hlh, hhn, htm⟩ := run_bounds (P := P) h1 bl bh bm hb w
        have hex := hrun hev hb1
        refine ⟨_, w, hex, gob, I, OpPost.pure hI.sto ?_⟩
        have hM : h ≤ t'.getD cap := by
          cases t' with
          | none => simp; omega
          | some m => simp; exact (htm m rfl).1
        have hlen : ((gs.drop l).take (h - l)).length = h - l := by simp; omega
        have hown2 : own.ownL ((gs.drop l).take (h - l)) = [] := by
          have := (h4 hom).2
          rw [ownL_eq, List.flatMap_eq_nil_iff] at this ⊢
          exact fun e he => this e (List.mem_of_mem_drop (List.mem_of_mem_take he))
        generalize hbb : (t' == some h || (t'.isNone && m == 2 && h == (gs.map GV.era).length)) = bb
        have hT' : HT w I cx.K (.sl (if bb = true then 2 else 0) f fo.size ((gs.drop l).take (h - l)) b (if t'.getD cap = l then off else off + l * fo.size) (t'.getD cap - l)) := by
          refine .sl _ _ _ _ _ _ _ (by rw [hlen]; omega) ?_ (fun g hg => h3 g (List.mem_of_mem_drop (List.mem_of_mem_take hg))) (fun _ => ⟨(h4 hom).1, hown2⟩) (fun hm2 => ?_) (fun hm1 => absurd hm1 (by cases bb <;> simp)) (fun hm1 => absurd hm1 (by cases bb <;> simp))
          · by_cases hMl : t'.getD cap = l
            · have : h - l = 0 := by omega
              rw [this]
              intro i e he; simp at he
            · rw [if_neg hMl]; exact h2.sub l (h - l)
          · rw [hlen]
            cases bb with
            | false => simp at hm2
            | true =>
              simp only [Bool.or_eq_true, beq_iff_eq, Bool.and_eq_true, List.length_map] at hbb
              rcases hbb with rfl | ⟨⟨ht0, rfl⟩, rfl⟩
              · simp
              · cases t' with
                | none => simp only [Option.getD_none]; rw [h5 rfl]
                | some m => simp at ht0
        have hv := Val.tree (gob := gob) hT' (by simp only [GV.own, hm' bb, Bool.false_eq_true, if_false]; exact hown2)
        have e1 : (GV.sl (if bb = true then 2 else 0) f fo.size ((gs.drop l).take (h - l)) b (if t'.getD cap = l then off else off + l * fo.size) (t'.getD cap - l)).era = .sl (if bb = true then 2 else 0) f fo.size (((gs.map GV.era).drop l).take (h - l)) := by
          simp only [GV.era, eraL_eq, List.map_take, List.map_drop]
        have e2 : (GV.sl (if bb = true then 2 else 0) f fo.size ((gs.drop l).take (h - l)) b (if t'.getD cap = l then off else off + l * fo.size) (t'.getD cap - l)).cv = .slice (if t'.getD cap = l then some ⟨b, off, none⟩ else (some ⟨b, off, none⟩ : Option Addr).map (·.add (l * fo.size))) (h - l) (t'.getD cap - l) := by
          simp only [GV.cv, lenL_eq, hlen]
          by_cases hMl : t'.getD cap = l
          · simp [hMl]
          · simp [hMl, addr_add]
        rw [e1, e2] at hv
        exact hv
  · rename_i o' k0 p off n
    have hR := hX.ref_inv (.inl ⟨_, _, _, _, _, rfl⟩)
    simp only [Lk.run] at hr
    split at hr
    · rename_i m f sz es hnd
      rw [hI.era, nodeIn_era (hI.sto.hol o')] at hnd
      obtain ⟨nd, hn, hge⟩ := map_some_inv hnd
      have hTn := hI.sto.node hn
      split at hr
      · simp [Lk.run] at hr
      rename_i hsz
      simp only [bne_iff_ne, ne_eq, Decidable.not_not] at hsz
      subst hsz
      generalize hev : a.eval x = sv at hR
      cases hR with
      | s _ _ _ _ _ m' f' sz2 ges b off0 cap0 cap hn' hle hc hcap =>
        rw [hn] at hn'; simp only [Option.some.injEq] at hn'; subst hn'
        simp only [GV.era, AV.sl.injEq, eraL_eq] at hge
        obtain ⟨rfl, rfl, rfl, rfl⟩ := hge
        split at hr
        · rename_i l h hb
          obtain ⟨hb1, hlh, hhn, htm⟩ := run_bounds (P := P) hc bl bh bm hb w
          split at hr
          · rename_i hcond
            simp only [Lk.run, Option.some.injEq, Prod.mk.injEq] at hr
            obtain ⟨rfl, _⟩ := hr
            have hex := hrun hev hb1
            simp only [Bool.or_eq_true, beq_iff_eq, decide_eq_true_eq] at hcond
            refine ⟨_, w, hex, gob, I, OpPost.pure hI.sto (Val.ref ?_)⟩
            have hR2 := RefOK.s (gob := gob) o' k0 p (off + l) (h - l) m' f' fo.size ges b off0 cap0 (cap - l) hn (by omega) (by omega) (by omega)
            have : (if (none : Option Nat).getD cap = l then (some ⟨b, off0 + off * fo.size, none⟩ : Option Addr) else (some ⟨b, off0 + off * fo.size, none⟩ : Option Addr).map (·.add (l * fo.size))) = some ⟨b, off0 + (off + l) * fo.size, none⟩ := by
              rw [Nat.add_mul]
              split
              · rename_i hcl
                simp only [Option.getD_none] at hcl
                rcases hcond with rfl | hlt
                · simp
                · omega
              · simp [addr_add, Nat.add_assoc]
            rw [this]
            exact hR2
          · simp [Lk.run] at hr
        · rename_i l h t'' hb
          obtain ⟨hb1, hlh, hhn, htm⟩ := run_bounds (P := P) hc bl bh bm hb w
          split at hr
          · rename_i hth
            simp only [beq_iff_eq] at hth
            subst hth
            rw [Lk.run_bind] at hr
            obtain ⟨⟨⟨v, c⟩, r1⟩, hf, hr⟩ := bind_some_inv hr
            split at hr
            · rename_i m3 f3 sz3 es3 hv
              simp only at hv; subst hv
              simp only [Lk.run, Option.some.injEq, Prod.mk.injEq] at hr
              obtain ⟨rfl, _⟩ := hr
              have hR2 := RefOK.s (gob := gob) o' k0 p (off + l) (t'' - l) m' f' fo.size ges b off0 cap0 (t'' - l) hn (by omega) (by omega) (by omega)
              obtain ⟨gob', I', hF, hP, _⟩ := way_fres hI.era _ (Way.start hI.sto) (by simp [Ded]) (Val.ref hR2) hf
              have hex := hrun hev hb1
              simp only [Option.getD_some] at hex
              refine ⟨_, w, hex, gob', I', hF.way.post ?_⟩
              obtain ⟨g, hge, hgv, hH, hgo⟩ := hP
              have hT := hH.tree_of hgo (by rw [hge]; rfl)
              cases hT with
              | sl m4 f4 sz4 g3 b4 off4 cap4 h1 h2 h3 h4 h5 h6 h7 =>
                simp only [GV.era, AV.sl.injEq, eraL_eq] at hge
                obtain ⟨rfl, rfl, rfl, rfl⟩ := hge
                simp only [GV.cv, lenL_eq, Value.slice.injEq, Option.some.injEq, Addr.mk.injEq, and_true] at hgv
                obtain ⟨⟨rfl, rfl⟩, hl3, rfl⟩ := hgv
                have hom4 : ownM m4 = false := by
                  cases hom4 : ownM m4 with
                  | false => rfl
                  | true => simp [GV.own, hom4] at hgo
                have hT' : HT w I' cx.K (.sl 2 f4 sz4 g3 b4 (if t'' = l then off0 + off * fo.size else off0 + (off + l) * fo.size) (t'' - l)) := by
                  refine .sl _ _ _ _ _ _ _ (by omega) ?_ h3 (fun _ => h4 hom4) (fun _ => by omega) (fun h => by cases h) (fun h => by cases h)
                  by_cases hMl : t'' = l
                  · have : g3 = [] := List.length_eq_zero_iff.1 (by omega)
                    subst this
                    intro i e he; simp at he
                  · rw [if_neg hMl]; exact h2
                have hv := Val.tree (gob := gob') hT' (by simp [GV.own, ownM, (h4 hom4).2])
                have e2 : (GV.sl 2 f4 sz4 g3 b4 (if t'' = l then off0 + off * fo.size else off0 + (off + l) * fo.size) (t'' - l)).cv = .slice (if t'' = l then some ⟨b4, off0 + off * fo.size, none⟩ else (some ⟨b4, off0 + off * fo.size, none⟩ : Option Addr).map (·.add (l * fo.size))) (t'' - l) (t'' - l) := by
                  simp only [GV.cv, lenL_eq, hl3]
                  by_cases hMl : t'' = l
                  · simp [hMl]
                  · simp [hMl, addr_add, Nat.add_mul, Nat.add_assoc]
                rw [e2] at hv
                simpa [GV.era, eraL_eq] using hv
              | nl m4 f4 sz4 hm4 => simp [GV.cv] at hgv
              | _ => simp [GV.era] at hge
            · simp [Lk.run] at hr
          · simp [Lk.run] at hr
        · simp [Lk.run] at hr
    · simp [Lk.run] at hr
  · simp [Lk.run] at hr

end
end Go.AM

/- AM, part 25: copies. -/
namespace Go.AM
open GV

section
variable {P : Program} {G : Globs} {cx : Cx} {gob : Nat → List GV} {I : Nat → Prop} {s : St} {a : Act} {w : World}

theorem srcElems_kl {sz : Nat} {x : AV} {ob : Nat → List AV} {r r' : List Nat} {xs : List AV} {kl : List Kl} (h : (srcElems sz x []).run ob r = some ((xs, [], kl), r')) : kl = [] := by
  unfold srcElems at h
  split at h
  · simp only [Lk.run, Option.some.injEq, Prod.mk.injEq] at h; exact h.1.2.2.symm
  · split at h
    · simp [Lk.run] at h
    · simp only [Lk.run, Option.some.injEq, Prod.mk.injEq] at h; exact h.1.2.2.symm
  · rw [Lk.run_bind] at h
    obtain ⟨⟨ls, r1⟩, _, h⟩ := bind_some_inv h
    split at h
    · split at h
      · simp [Lk.run] at h
      · split at h
        · simp only [Lk.run, Option.some.injEq, Prod.mk.injEq] at h; exact h.1.2.2.symm
        · split at h
          · simp [Lk.run] at h
          · rw [Lk.run_bind] at h
            obtain ⟨⟨v, r2⟩, _, h⟩ := bind_some_inv h
            split at h
            · simp only [Lk.run, Option.some.injEq, Prod.mk.injEq] at h; exact h.1.2.2.symm
            · simp [Lk.run] at h
    · simp [Lk.run] at h
  · simp [Lk.run] at h

theorem run_copy {t u ty e : TypeId} {fo : TypeInfo} (ht : P.underlying t = some (.slice e)) (hi : P.info? e = some fo) (hsz : fo.size = 1) {x : Value} {m : Nat} {news : List Value} (hx : SrcV w 1 x m news)
    {b off n c : Nat} {arr : Array Value} {T : TypeId} (hb : w.heap[b]? = some (.cells arr T (0, 0))) (hfit : off + min m n ≤ arr.size) (h1 : (news.take (min m n)).all (·.oneCell') = true) :
    (Builtin.copy_ #[t, u] ty #[.slice (some ⟨b, off, none⟩) n c, x]).run P w = .ok (.int .i64 (min m n : Nat)) (setCells w b off (news.take (min m n))) := by
  have hlen : (news.take (min m n)).length = min m n := by rw [List.length_take, hx.1]; omega
  have hfirst : (Builtin.firstCells 1 (min m n) x).run P w = .ok (news.take (min m n)).toArray w := by
    obtain ⟨hl, ⟨rfl, rfl⟩ | ⟨ad, c, rfl, hc⟩⟩ := hx
    · have : news = [] := List.length_eq_zero_iff.1 (by omega)
      subst this; simp [Builtin.firstCells]
    · refine run_firstCells_some w 1 (min m n) ad m c _ (by rw [hlen, Nat.mul_one]) (fun j v hj => ?_)
      rw [List.getElem?_take] at hj
      split at hj
      · exact hc j v hj
      · cases hj
  have hst := run_storeCells (P := P) (off0 := off) (news.take (min m n)) 0 w arr hb (by rw [hlen]; omega) h1
  simp only [Nat.add_zero] at hst
  unfold Builtin.copy_
  have e0 : (#[t, u] : Array TypeId)[0]? = some t := rfl
  have e2 : (#[.slice (some ⟨b, off, none⟩) n c, x] : Array Value)[0]? = some (.slice (some ⟨b, off, none⟩) n c) := rfl
  have e3 : (#[.slice (some ⟨b, off, none⟩) n c, x] : Array Value)[1]? = some x := rfl
  have hnm : Nat.min m n = min m n := rfl
  simp only [e0, e2, e3, Sem.run_bind, run_und ht, Result.andThen_ok, run_size hi, Sem.run_pure, hx.len, hnm, hsz, hfirst, hst, goInt]

def gcopy (off n : Nat) (xs : List GV) : GV → Option GV
  | .sl md f sz es b o cap => if sz == 1 && (md == 1 || md == 3) && off + n ≤ es.length && (xs.map GV.era).all isLit && (((es.map GV.era).drop off).take n).all isLit then
      some (.sl md f sz (es.take off ++ xs.take n ++ es.drop (off + (xs.take n).length)) b o cap) else none
  | _ => none

theorem lits_own {K : Nat → Nat → Prop} {es : List GV} (hT : ∀ g ∈ es, HT w I K g) (h : (es.map GV.era).all isLit = true) : own.ownL es = [] := by
  rw [ownL_eq, List.flatMap_eq_nil_iff]
  intro g hg
  rw [List.all_eq_true] at h
  have := h g.era (List.mem_map_of_mem hg)
  have hT := hT g hg
  cases hT <;> simp [GV.era, isLit] at this <;> rfl

theorem does_copy (hG : GlobOK G cx) (h : Inv cx gob I s a w) {o : Oper} {cl : Call} (ho : o.op = .call cl) (hb : cl.callee = .builtin .copy) {t u e : TypeId} {xs xx : Operand} (hts : cl.argTypes.toList = [t, u]) (has : cl.args.toList = [xs, xx])
    (ht : P.underlying t = some (.slice e)) {i : Ti} (hi : tiOf P e = some i) (hsz : i.n = 1) {ys yx : Opr} (hxs : cOpr G xs = some ys) (hxx : cOpr G xx = some yx) {vs vx : AV} (hvs : s.val ys = some vs) (hvx : s.val yx = some vx) {ef : Eff} {r r' : List Nat}
    (hr : (copyOp vs vx).run s.obj r = some (ef, r')) : Does P cx gob I w a.eval o ef := by
  obtain ⟨d, fo, hue, hinf, rfl⟩ := tiOf_inv hi
  simp only at hsz
  have hS := opr_val hG h hxs hvs
  have hX := opr_val hG h hxx hvx
  have hrun : ∀ x w', (Builtin.copy_ #[t, u] o.type #[a.eval xs, a.eval xx]).run P w = .ok x w' → (execOp a.eval o).run P w = .ok (.value x) w' := by
    intro x w' hx
    rw [run_call_builtin ho hb]
    have e1 : cl.args = #[xs, xx] := by rw [← has]
    have e2 : cl.argTypes = #[t, u] := by rw [← hts]
    rw [e1, e2]
    simp only [builtin, List.map_toArray, List.map_cons, List.map_nil] at hx ⊢
    rw [Sem.run_bind, hx]; rfl
  unfold copyOp at hr
  split at hr
  · rename_i o' k0 p off n
    rw [Lk.run_bind] at hr
    obtain ⟨⟨⟨ax, c, kl⟩, r1⟩, hsrc, hr⟩ := bind_some_inv hr
    simp only at hr
    split at hr
    · simp [Lk.run] at hr
    rename_i hc
    have hc0 : c = [] := by simpa using hc
    subst hc0
    have := srcElems_kl hsrc
    subst this
    obtain ⟨gxs, gob1, I1, rfl, hW, hD, hIm, hsv⟩ := way_src h.era (Way.start h.sto) (by omega : 0 < 1) hX hsrc
    simp only [Lk.run] at hr
    have hob : s.obj o' = (gob1 o').map GV.era := by rw [h.era]; exact hW.era o'
    rw [hob] at hr
    have hmodera : ∀ n', gnodeIn (gob1 o') k0 p = some n' → (match n'.era with
        | .sl md fl sz es => if sz == 1 && (md == 1 || md == 3) && off + n ≤ es.length && (gxs.map GV.era).all isLit && ((es.drop off).take n).all isLit then
            some (AV.sl md fl sz (es.take off ++ (gxs.map GV.era).take n ++ es.drop (off + ((gxs.map GV.era).take n).length))) else none
        | _ => none) = (gcopy off n gxs n').map GV.era := by
      intro n' hn'
      have hT := hW.sto.node hn'
      cases hT with
      | sl m f sz es b0 off0 cap0 h1 h2 h3 h4 h5 h6 h7 =>
        simp only [GV.era, gcopy, eraL_eq, List.length_map]
        split
        · simp only [Option.map_some, GV.era, eraL_eq, List.map_append, List.map_take, List.map_drop, List.length_take, List.length_map]
        · rfl
      | nl m f sz hm =>
        simp only [GV.era, gcopy]
        rw [if_neg]
        · rfl
        · intro hh
          simp only [Bool.and_eq_true] at hh
          have := hh.1.1.1.2
          rw [show (m == 1 || m == 3) = ownM m from rfl, hm] at this
          exact absurd this (by simp)
      | _ => simp [GV.era, gcopy]
    rw [gmodIn_era (gf := gcopy off n gxs) (hW.sto.hol o') k0 p hmodera] at hr
    cases hgm : gmodIn (gcopy off n gxs) (gob1 o') k0 p with
    | none => rw [hgm] at hr; simp [Lk.run] at hr
    | some gls =>
      rw [hgm] at hr
      simp only [Option.map_some, Lk.run, Option.some.injEq, Prod.mk.injEq] at hr
      obtain ⟨rfl, _⟩ := hr
      have hR0 := hS.ref_inv (.inl ⟨_, _, _, _, _, rfl⟩)
      have hR : RefOK gob1 (.sref o' k0 p off n) (a.eval xs) := hW.pre.ref hR0 (by simp)
      generalize hev : a.eval xs = sv at hR
      cases hR with
      | s _ _ _ _ _ m f' sz2 ges b off0 cap0 cap hn hle hcc hcap =>
        obtain ⟨g, g', hk, hg', _⟩ := gmodIn_inv hgm
        have hng : gnodeAt g p = some (.sl m f' sz2 ges b off0 cap0) := by unfold gnodeIn at hn; rw [hk] at hn; exact hn
        obtain ⟨n', hp⟩ := gmodAt_node p g g' _ hng hg'
        have hTn := hW.sto.node hn
        have hp0 := hp
        simp only [gcopy] at hp
        split at hp
        · rename_i hcond
          simp only [Option.some.injEq] at hp
          simp only [Bool.and_eq_true, Bool.or_eq_true, beq_iff_eq, decide_eq_true_eq] at hcond
          obtain ⟨⟨⟨⟨rfl, hown⟩, _⟩, hl1⟩, hl2⟩ := hcond
          have hom : ownM m = true := by
            simpa [ownM] using hown
          have hTn0 := hTn
          cases hTn0 with
          | sl _ _ _ _ _ _ _ h1 h2 h3 h4 h5 h6 h7 =>
          have hblk : ∃ arr T, w.heap[b]? = some (.cells arr T (0, 0)) ∧ off0 + ges.length ≤ arr.size ∧ (m = 1 → off0 + cap0 * 1 ≤ arr.size) ∧ (∀ j, j < ges.length → ¬ cx.K b (off0 + j)) := by
            rcases hown with rfl | rfl
            · obtain ⟨⟨arr, T, ha, hs⟩, hkk⟩ := h6 rfl
              exact ⟨arr, T, ha, by omega, fun _ => hs, fun j hj => hkk j (by omega)⟩
            · obtain ⟨⟨arr, T, ha, hs⟩, hkk⟩ := h7 rfl
              exact ⟨arr, T, ha, by omega, (fun h => by cases h), fun j hj => hkk j (by omega)⟩
          obtain ⟨arr, T, ha, hs, hs1, hkk⟩ := hblk
          have hTx : ∀ x ∈ gxs, HT w I1 cx.K x := hW.sto.fhol
          have hlitx : ∀ x ∈ gxs, isLit x.era = true := fun x hx => by
            rw [List.all_eq_true] at hl1
            exact hl1 x.era (List.mem_map_of_mem hx)
          have hlite : ∀ x ∈ (ges.drop off).take n, isLit x.era = true := fun x hx => by
            rw [List.all_eq_true] at hl2
            refine hl2 x.era ?_
            rw [← List.map_drop, ← List.map_take]; exact List.mem_map_of_mem hx
          have hlf1 : ∀ {x : GV}, HT w I1 cx.K x → isLit x.era = true → GV.leafs x = [x] ∧ x.own = [] ∧ x.cv.oneCell' = true := by
            intro x hT hl
            cases hT <;> simp [GV.era, isLit] at hl
            rename_i v hg
            exact ⟨rfl, rfl, by cases v <;> simp [ground] at hg <;> rfl⟩
          have hflat : flatV gxs = gxs.map GV.cv := by
            unfold flatV
            have : ∀ l : List GV, (∀ x ∈ l, GV.leafs x = [x]) → (l.flatMap fun e => (GV.leafs e).map GV.cv) = l.map GV.cv := by
              intro l
              induction l with
              | nil => intro _; rfl
              | cons x l ih => intro hl; simp only [List.flatMap_cons, List.map_cons, hl x (by simp), ih (fun y hy => hl y (by simp [hy]))]; rfl
            exact this gxs (fun x hx => (hlf1 (hTx x hx) (hlitx x hx)).1)
          have hsv' := hsv (fun x hx => by rw [(hlf1 (hTx x hx) (hlitx x hx)).1]; rfl)
          rw [hflat] at hsv'
          have hq : (gxs.take n).length = min gxs.length n := by rw [List.length_take]; omega
          have h1c : (((gxs.map GV.cv).take (min gxs.length n)).all (·.oneCell')) = true := by
            rw [List.all_eq_true]
            intro v hv
            obtain ⟨x, hx, rfl⟩ := List.mem_map.1 (List.mem_of_mem_take hv)
            exact (hlf1 (hTx x hx) (hlitx x hx)).2.2
          have hfitA : off0 + off * 1 + min gxs.length n ≤ arr.size := by omega
          have hr1 := run_copy (P := P) (u := u) (ty := o.type) (c := cap) ht hinf hsz hsv' ha hfitA h1c
          have htk : (gxs.map GV.cv).take (min gxs.length n) = (gxs.take n).map GV.cv := by
            rw [List.map_take]
            rcases Nat.le_total gxs.length n with hle' | hle'
            · rw [Nat.min_eq_left hle', List.take_of_length_le (by simp), List.take_of_length_le (by simpa using hle')]
            · rw [Nat.min_eq_right hle']
          rw [htk] at hr1
          obtain ⟨arr', ha', hs', hget⟩ := block_setCells ((gxs.take n).map GV.cv) (off0 + off * 1) w arr ha (by rw [List.length_map, hq]; exact hfitA)
          have hturn := turn_setCells b ((gxs.take n).map GV.cv) (off0 + off * 1) w
          have hbn : b ∈ (GV.sl m f' 1 ges b off0 cap0).own := by simp [GV.own, hom]
          have hbo : b ∈ own.ownL (gob1 o') := by
            rw [ownL_eq]
            exact List.mem_flatMap.2 ⟨g, List.mem_of_getElem? hk, own_node p g _ (hW.sto.hol o' g (List.mem_of_getElem? hk)) hng b hbn⟩
          have hbI : ¬ I1 b := hW.sto.nI o' b hbo
          have hndn := own_node_nodup p g _ (hW.sto.hol o' g (List.mem_of_getElem? hk)) hng (ownL_nodup_mem (hW.sto.nod o') (List.mem_of_getElem? hk))
          simp only [GV.own, hom, if_true, List.nodup_cons] at hndn
          have hother : ∀ x : GV, HT w I1 cx.K x → b ∉ x.own → HT (setCells w b (off0 + off * 1) ((gxs.take n).map GV.cv)) I1 cx.K x := fun x hg hbg =>
            hg.mono (fun b' hb' => ⟨hb', hturn.other b' (fun e => hbI (e ▸ hb'))⟩) (fun _ _ _ h => h) (fun b' hb' => hturn.other b' (fun e => hbg (e ▸ hb')))
          have hoe : ∀ x ∈ ges, b ∉ x.own := fun x hx hb => hndn.1 (by rw [ownL_eq]; exact List.mem_flatMap.2 ⟨x, hx, hb⟩)
          have hsp : off + (gxs.take n).length ≤ ges.length := by rw [hq]; omega
          have hnlen : (ges.take off ++ gxs.take n ++ ges.drop (off + (gxs.take n).length)).length = ges.length := by
            simp only [List.length_append, List.length_take, List.length_drop]; omega
          have hT' : HT (setCells w b (off0 + off * 1) ((gxs.take n).map GV.cv)) I1 cx.K n' := by
            rw [← hp]
            refine .sl m f' 1 _ b off0 cap0 (by rw [hnlen]; exact h1) (fun j x hj => ?_) (fun x hx => ?_) (fun h => by rw [hom] at h; cases h) (fun h => by subst h; simp [ownM] at hom) (fun hm1 => ⟨⟨arr', T, ha', by have := hs1 hm1; omega⟩, (h6 hm1).2⟩) (fun hm3 => by rw [hnlen]; exact ⟨⟨arr', T, ha', by omega⟩, (h7 hm3).2⟩)
            · rw [splice_get hsp] at hj
              rw [hq] at hj
              split at hj
              · rename_i hr
                have hxm : x ∈ gxs := List.mem_of_mem_take (List.mem_of_getElem? hj)
                have hl1 := (hlf1 (hTx x hxm) (hlitx x hxm)).1
                rw [hl1]
                refine ⟨rfl, fun k l hl => ?_⟩
                have hk0 : k = 0 := by
                  cases k with
                  | zero => rfl
                  | succ k => simp at hl
                subst hk0
                simp only [List.getElem?_cons_zero, Option.some.injEq] at hl; subst hl
                rw [cell_block ha', hget, if_pos (by rw [List.length_map, hq]; omega), List.getElem?_map, show off0 + j * 1 + 0 - (off0 + off * 1) = j - off by omega, hj]; rfl
              · rename_i hr
                refine ⟨(h2 j x hj).1, fun k l hl => ?_⟩
                have hkl : k < 1 := (h2 j x hj).1 ▸ lt_of_get hl
                rw [cell_block ha', hget, if_neg (by rw [List.length_map, hq]; omega), ← cell_block ha]
                exact (h2 j x hj).2 k l hl
            · simp only [List.mem_append] at hx
              rcases hx with (hx | hx) | hx
              · exact hother x (h3 x (List.mem_of_mem_take hx)) (hoe x (List.mem_of_mem_take hx))
              · have hxm := List.mem_of_mem_take hx
                exact hother x (hTx x hxm) (by rw [(hlf1 (hTx x hxm) (hlitx x hxm)).2.1]; simp)
              · exact hother x (h3 x (List.mem_of_mem_drop hx)) (hoe x (List.mem_of_mem_drop hx))
          have hsplit : ges = ges.take off ++ ((ges.drop off).take (gxs.take n).length ++ ges.drop (off + (gxs.take n).length)) := by
            have : ges.drop (off + (gxs.take n).length) = (ges.drop off).drop (gxs.take n).length := by rw [List.drop_drop]
            rw [this, List.take_append_drop, List.take_append_drop]
          have hown' : n'.own = (GV.sl m f' 1 ges b off0 cap0).own := by
            rw [← hp]
            simp only [GV.own, hom, if_true]
            congr 1
            conv => rhs; rw [hsplit]
            rw [ownL_append, ownL_append, ownL_append, ownL_append]
            have e1 : own.ownL (gxs.take n) = [] := by
              rw [ownL_eq, List.flatMap_eq_nil_iff]
              exact fun x hx => (hlf1 (hTx x (List.mem_of_mem_take hx)) (hlitx x (List.mem_of_mem_take hx))).2.1
            have e2 : own.ownL ((ges.drop off).take (gxs.take n).length) = [] := by
              rw [ownL_eq, List.flatMap_eq_nil_iff]
              intro x hx
              have hx2 : x ∈ (ges.drop off).take n := by
                obtain ⟨j, hj⟩ := List.mem_iff_getElem?.1 hx
                rw [List.getElem?_take] at hj
                split at hj
                · rename_i hjl
                  refine List.mem_iff_getElem?.2 ⟨j, ?_⟩
                  rw [List.getElem?_take, if_pos (by rw [hq] at hjl; omega)]; exact hj
                · cases hj
              exact (hlf1 (h3 x (List.mem_of_mem_drop (List.mem_of_mem_take hx2))) (hlite x hx2)).2.1
            rw [e1, e2]
            simp
          have hsim : Sim (.sl m f' 1 ges b off0 cap0) n' := by
            rw [← hp]
            intro qq mm hqq hnode
            cases qq with
            | nil =>
              simp only [gnodeAt, Option.some.injEq] at hqq; subst hqq
              exact ⟨_, rfl, .sl _ _ _ _ _ _ _ _ _ _ hnlen⟩
            | cons x qq =>
              obtain ⟨j, k', z⟩ := x
              simp only [gnodeAt] at hqq ⊢
              rw [splice_get hsp]
              by_cases hr : off ≤ j ∧ j < off + (gxs.take n).length
              · exfalso
                cases hge : ges[j]? with
                | none => simp [hge] at hqq
                | some x =>
                  simp only [hge] at hqq
                  have hx2 : x ∈ (ges.drop off).take n := by
                    refine List.mem_iff_getElem?.2 ⟨j - off, ?_⟩
                    rw [List.getElem?_take, if_pos (by rw [hq] at hr; omega), List.getElem?_drop, show off + (j - off) = j by omega]; exact hge
                  have hTxx := h3 x (List.mem_of_getElem? hge)
                  have hl := hlf1 hTxx (hlite x hx2)
                  cases hle' : gleafAt x k' with
                  | none => simp [hle'] at hqq
                  | some l =>
                    simp only [hle'] at hqq
                    unfold gleafAt at hle'
                    rw [hl.1] at hle'
                    have hlx : l = x := by
                      cases k' with
                      | zero => simpa using hle'.symm
                      | succ k' => simp at hle'
                    subst hlx
                    have := lit_nodes (hlite l hx2) hTxx.nref qq mm hqq
                    rw [hnode] at this; cases this
              · rw [if_neg hr]
                exact ⟨mm, hqq, Alike.refl hnode⟩
          have hW0 := hW.fewer (fl' := []) List.nodup_nil (by simp [GV.own.ownL]) (by simp)
          have hW2 := hW0.change hn hgm hp0 hturn hbn (at' := off0 + off * 1) (m := min gxs.length n) (fun j hj => by
            rw [cell_block ha', hget, if_neg (by rw [List.length_map, hq]; omega), cell_block ha]) (fun j hj => by
              have := hkk (off + j) (by omega)
              rwa [show off0 + (off + j) = off0 + off * 1 + j by omega] at this) hT' (by rw [← hp]; simp only [GV.cv, lenL_eq, hnlen]) (by rw [← hp]; exact .sl _ _ _ _ _ _ _ _ _ _ hnlen) (mid := []) (kept := (GV.sl m f' 1 ges b off0 cap0).own) (by simp) (by rw [hown']; simp [GV.own.ownL]) (ks := []) (.inr ⟨rfl, hsim⟩)
          refine ⟨_, _, hrun _ _ (by rw [hev]; exact hr1), AM.upd gob1 o' gls, I1, ?_⟩
          have := hW2.post (Val.lit (x := .int .i64 (min gxs.length n : Nat)) rfl)
          simpa using this
        · cases hp
  · simp [Lk.run] at hr

end
end Go.AM
