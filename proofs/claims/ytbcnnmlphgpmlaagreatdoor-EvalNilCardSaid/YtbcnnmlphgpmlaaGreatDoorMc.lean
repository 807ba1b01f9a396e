/-
  This text proves what its parts' remarks say, of the abstract machine (part Mc); no condition stands ahead of the claim's statement.
-/
import Derived.Test.YtbcnnmlphgpmlaaGreatDoorMb
import Derived.Laws.Externs
import Derived.Lib.Mul64
import Derived.Laws.Bits64b

/- AM, part 26: calls. -/
namespace Go.AM
open GV

abbrev K0 : Nat → Nat → Prop := fun _ _ => False

theorem HV.weakK {w : World} {I : Nat → Prop} {K K' : Nat → Nat → Prop} {R : AV → Value → Prop} {g : GV} (h : HV w I K R g) (ho : g.own = []) : HV w I K' R g := by
  induction h with
  | tree g h => exact .tree g (h.weakK ho)
  | ref a v h => exact .ref a v h
  | agg cs _ hl ih =>
    simp only [GV.own, ownL_eq, List.flatMap_eq_nil_iff] at ho
    exact .agg cs (fun c hc => ih c hc (ho c hc)) hl
  | tup cs _ ih =>
    simp only [GV.own, ownL_eq, List.flatMap_eq_nil_iff] at ho
    exact .tup cs (fun c hc => ih c hc (ho c hc))
  | fn f a b _ _ iha ihb =>
    simp only [GV.own, ownL_eq, List.append_eq_nil_iff, List.flatMap_eq_nil_iff] at ho
    exact .fn f a b (fun c hc => iha c hc (ho.1 c hc)) (fun c hc => ihb c hc (ho.2 c hc))

theorem Pv.weakK {w : World} {I : Nat → Prop} {K K' : Nat → Nat → Prop} {v : AV} {x : Value} (h : Pv w I K v x) : Pv w I K' v x := by
  obtain ⟨g, h1, h2, h3, h4⟩ := h
  exact ⟨g, h1, h2, h3.weakK h4, h4⟩

theorem Pvs.weakK {w : World} {I : Nat → Prop} {K K' : Nat → Nat → Prop} {vs : List AV} {xs : List Value} (h : Pvs w I K vs xs) : Pvs w I K' vs xs := by
  obtain ⟨gs, h1, h2, h3, h4⟩ := h
  refine ⟨gs, h1, h2, fun g hg => (h3 g hg).weakK ?_, h4⟩
  rw [ownL_eq, List.flatMap_eq_nil_iff] at h4
  exact h4 g hg

/-- What is between the worlds at a call's begin and end. -/
structure Ends (w : World) (I : Nat → Prop) (w' : World) (I' : Nat → Prop) : Prop where
  grow : Grow w w'
  imm : ∀ b, I b → I' b
  new : ∀ b, I' b → I b ∨ w.heap.size ≤ b
  lt : ∀ b, I' b → b < w'.heap.size

def GlobI (G : Globs) (w : World) (I : Nat → Prop) : Prop := ∀ g e, getA G g = some e → ∃ t, t.era = e ∧ t.own = [] ∧ HT w I K0 (.pt false t g 0)

/-- What a call comes to. -/
def Ended (w : World) (I : Nat → Prop) (r : AV) (v : Value) (w' : World) : Prop := ∃ I', Ends w I w' I' ∧ Pv w' I' K0 r v

/-- **A call answers as the machine's does.** -/
def CallOK (P : Program) (G : Globs) (f : FuncId) (args : List AV) (r : AV) : Prop :=
  ∀ (w : World) (I : Nat → Prop) (xs : List Value), GlobI G w I → (∀ b, I b → b < w.heap.size) → Pvs w I K0 args xs →
    (∃ v w', (callFunc f xs.toArray).run P w = .ok (.value v) w' ∧ Ended w I r v w') ∨
    ((callFunc f xs.toArray).run P w = .ok (.enter f xs.toArray) w ∧ Calls P f xs.toArray w fun e w' => ∃ v, e = .returned v ∧ Ended w I r v w')

theorem run_callFunc {P : Program} {f : FuncId} {fn : Func} {c : Code} (hf : P.funcs[f]? = some fn) (hb : fn.body = some c) (hn : fn.name ≠ "runtime.NumGoroutine") (args : Array Value) (w : World) : (callFunc f args).run P w = .ok (.enter f args) w := by
  unfold callFunc
  have h1 : (fn.name == "runtime.NumGoroutine") = false := by simpa using hn
  simp [hf, hb, hn]

section
variable {P : Program} {G : Globs} {cx : Cx} {gob : Nat → List GV} {I : Nat → Prop} {s : St} {a : Act} {w : World}

/-- The model's operation does what the machine's does. -/
def OpOK (P : Program) (cx : Cx) (gob : Nat → List GV) (I : Nat → Prop) (w : World) (a : Act) (o : Oper) (e : Eff) : Prop :=
  ∀ (next : Act → World → Prop) (Q : Exit → Act → World → Prop), (∀ x w' gob' I', OpPost cx gob I w e x w' gob' I' → next (a.put o.dst x) w') → o.wp P a w next Q

theorem Does.ok {o : Oper} {e : Eff} (h : Does P cx gob I w a.eval o e) : OpOK P cx gob I w a o e := by
  obtain ⟨x, w', h1, gob', I', h2⟩ := h
  intro next Q hn
  unfold Oper.wp
  rw [h1, Oper.upon_value]
  exact hn _ _ _ _ h2

theorem DoesU.ok {o : Oper} {e : Eff} (h : DoesU P cx gob I w a.eval o e) : OpOK P cx gob I w a o e := by
  obtain ⟨w', h1, gob', I', h2⟩ := h
  intro next Q hn
  unfold Oper.wp
  rw [h1, Oper.upon_skip]
  exact hn _ _ _ _ h2

theorem Tells.ok {o : Oper} {v : AV} (h : Tells P cx gob I w a.eval o v) (hs : Sto cx gob I w) : OpOK P cx gob I w a o { v } := (h.does hs).ok

theorem StoF.grow (h : Sto cx gob I w) {w' : World} {I' : Nat → Prop} (hg : Grow w w') (hI : ∀ b, I b → I' b) (hn : ∀ b, I' b → I b ∨ w.heap.size ≤ b) (hl : ∀ b, I' b → b < w'.heap.size) : Sto cx gob I' w' := by
  have hI2 : ∀ b, I b → I' b ∧ w'.heap[b]? = w.heap[b]? := fun b hb => ⟨hI b hb, hg.old b (h.Ilt b hb)⟩
  have hlt : ∀ b, b ∈ own.ownL (gob 0) → b < w.heap.size := fun b hb => by
    rw [ownL_eq] at hb
    obtain ⟨g, hg, hb⟩ := List.mem_flatMap.1 hb
    exact (h.hol 0 g hg).lt b hb
  have := h.step 0 (gob 0) [] I' w' (by simpa [GV.own.ownL] using h.nod 0) (fun b hb => .inl hb) (fun g hg' => (h.hol 0 g hg').mono hI2 (fun _ _ _ h => h) (fun b hb => hg.old b ((h.hol 0 g hg').lt b hb))) (by simp) hI2
    (fun b hb => by
      rcases hn b hb with h' | h'
      · exact .inl h'
      · refine .inr ⟨.inr h', hl b hb, fun hm => ?_⟩
        simp only [GV.own.ownL, List.append_nil] at hm
        have := hlt b hm
        omega) (fun b hb _ => hg.old b hb) (fun b j hk => by
      have := hg.old b (Nat.lt_of_lt_of_le (h.Kold b j hk) h.size)
      simp only [World.cell?]; rw [this]) hg.os hg.tape hg.output hg.size
  have e : upd gob 0 (gob 0) = gob := by
    funext x
    by_cases hx : x = 0
    · subst hx; rw [upd_same]
    · rw [upd_other _ _ hx]
  rwa [e] at this

/-- Arguments told as they stand. -/
theorem resolve_val (hs : Sto cx gob I w) {ob : Nat → List AV} (he : ∀ o, ob o = (gob o).map GV.era) : (x : AV) → {xv : Value} → Val cx gob I w x xv → {r r' : List Nat} → {v : AV} → (resolve [] x).run ob r = some (v, r') →
    ∃ I2, (∀ b, I b → I2 b) ∧ (∀ b, I2 b → b < w.heap.size) ∧ Pv w I2 cx.K v xv ∧ (leafyA x = true → leafyA v = true) := by
  have one : ∀ (vs : List AV) {xs : List Value}, (∀ x ∈ vs, ∀ {xv : Value}, Val cx gob I w x xv → ∀ {r r' : List Nat} {v : AV}, (resolve [] x).run ob r = some (v, r') →
      ∃ I2, (∀ b, I b → I2 b) ∧ (∀ b, I2 b → b < w.heap.size) ∧ Pv w I2 cx.K v xv ∧ (leafyA x = true → leafyA v = true)) → Vals cx gob I w vs xs → ∀ {r r' : List Nat} {us : List AV}, (resolve.resolveL [] vs).run ob r = some (us, r') →
      ∃ I2, (∀ b, I b → I2 b) ∧ (∀ b, I2 b → b < w.heap.size) ∧ Pvs w I2 cx.K us xs ∧ ((∀ x ∈ vs, leafyA x = true) → ∀ u ∈ us, leafyA u = true) := by
    intro vs xs hall hv
    induction hv with
    | nil =>
      intro r r' us hr
      simp only [resolve.resolveL, Lk.run, Option.some.injEq, Prod.mk.injEq] at hr
      obtain ⟨rfl, _⟩ := hr
      exact ⟨I, fun _ h => h, hs.Ilt, Pvs.nil, by simp⟩
    | cons v x vs xs hx _ ih =>
      intro r r' us hr
      simp only [resolve.resolveL, Lk.run_bind] at hr
      obtain ⟨⟨u, r1⟩, h1, hr⟩ := bind_some_inv hr
      obtain ⟨⟨us', r2⟩, h2, hr⟩ := bind_some_inv hr
      simp only [Lk.run, Option.some.injEq, Prod.mk.injEq] at hr
      obtain ⟨rfl, _⟩ := hr
      obtain ⟨I1, a1, a2, a3, a4⟩ := hall v (by simp) hx h1
      obtain ⟨I2, b1, b2, b3, b4⟩ := ih (fun x hx => hall x (by simp [hx])) h2
      refine ⟨fun b => I1 b ∨ I2 b, fun b hb => .inl (a1 b hb), fun b hb => hb.elim (a2 b) (b2 b), Pvs.cons (Pv.mono a3 (fun b hb => ⟨.inl hb, rfl⟩)) (Pvs.mono b3 (fun b hb => ⟨.inr hb, rfl⟩)), fun hl u hu => ?_⟩
      rcases List.mem_cons.1 hu with rfl | hu
      · exact a4 (hl v (by simp))
      · exact b4 (fun y hy => hl y (by simp [hy])) u hu
  intro x
  induction x using AV.rec (motive_2 := fun vs => ∀ x ∈ vs, ∀ {xv : Value}, Val cx gob I w x xv → ∀ {r r' : List Nat} {v : AV}, (resolve [] x).run ob r = some (v, r') →
      ∃ I2, (∀ b, I b → I2 b) ∧ (∀ b, I2 b → b < w.heap.size) ∧ Pv w I2 cx.K v xv ∧ (leafyA x = true → leafyA v = true)) with
  | dead => intro xv hx r r' v hr; simp [resolve, Lk.run] at hr
  | lit y =>
    intro xv hx r r' v hr
    simp only [resolve, Lk.run, Option.some.injEq, Prod.mk.injEq] at hr
    obtain ⟨rfl, _⟩ := hr
    obtain ⟨rfl, hg⟩ := hx.lit_inv
    exact ⟨I, fun _ h => h, hs.Ilt, ⟨.lit _, rfl, rfl, .tree _ (.lit _ hg), rfl⟩, fun h => h⟩
  | agg cs ih =>
    intro xv hx r r' v hr
    obtain ⟨xs, rfl, hv, hl⟩ := hx.agg_inv
    simp only [resolve, Lk.run_bind] at hr
    obtain ⟨⟨us, r1⟩, h1, hr⟩ := bind_some_inv hr
    simp only [Lk.run, Option.some.injEq, Prod.mk.injEq] at hr
    obtain ⟨rfl, _⟩ := hr
    obtain ⟨I2, a1, a2, a3, a4⟩ := one cs ih hv h1
    exact ⟨I2, a1, a2, a3.agg (a4 hl), fun h => by simp [leafyA] at h⟩
  | tup cs ih =>
    intro xv hx r r' v hr
    obtain ⟨xs, rfl, hv⟩ := hx.tup_inv
    simp only [resolve, Lk.run_bind] at hr
    obtain ⟨⟨us, r1⟩, h1, hr⟩ := bind_some_inv hr
    simp only [Lk.run, Option.some.injEq, Prod.mk.injEq] at hr
    obtain ⟨rfl, _⟩ := hr
    obtain ⟨I2, a1, a2, a3, a4⟩ := one cs ih hv h1
    exact ⟨I2, a1, a2, a3.tup, fun h => by simp [leafyA] at h⟩
  | fn f p q ihp ihq =>
    intro xv hx r r' v hr
    obtain ⟨xs, ys, rfl, hva, hvb⟩ := hx.fn_inv
    simp only [resolve, Lk.run_bind] at hr
    obtain ⟨⟨us, r1⟩, h1, hr⟩ := bind_some_inv hr
    obtain ⟨⟨us2, r2⟩, h2, hr⟩ := bind_some_inv hr
    simp only [Lk.run, Option.some.injEq, Prod.mk.injEq] at hr
    obtain ⟨rfl, _⟩ := hr
    obtain ⟨I1, a1, a2, a3, a4⟩ := one p ihp hva h1
    obtain ⟨I2, b1, b2, b3, b4⟩ := one q ihq hvb h2
    exact ⟨fun b => I1 b ∨ I2 b, fun b hb => .inl (a1 b hb), fun b hb => hb.elim (a2 b) (b2 b), Pvs.fn (Pvs.mono a3 (fun b hb => ⟨.inl hb, rfl⟩)) (Pvs.mono b3 (fun b hb => ⟨.inr hb, rfl⟩)), fun _ => rfl⟩
  | sl m f sz es ih =>
    intro xv hx r r' v hr
    simp only [resolve, Lk.run, Option.some.injEq, Prod.mk.injEq] at hr
    obtain ⟨rfl, _⟩ := hr
    refine ⟨I, fun _ h => h, hs.Ilt, ?_, fun h => h⟩
    rcases hx.sl_inv with ⟨rfl, rfl, hm⟩ | ⟨gs, b, off, cap, rfl, rfl, hT, ho⟩
    · exact Pv.tree (g := .nl m f sz) (.nl _ _ _ hm) rfl
    · have := Pv.tree hT ho
      simpa [GV.era, GV.cv, eraL_eq, lenL_eq] using this
  | pt o e ih =>
    intro xv hx r r' v hr
    simp only [resolve, Lk.run, Option.some.injEq, Prod.mk.injEq] at hr
    obtain ⟨rfl, _⟩ := hr
    refine ⟨I, fun _ h => h, hs.Ilt, ?_, fun h => h⟩
    obtain ⟨g, b, off, rfl, rfl, hT, ho⟩ := hx.pt_inv
    exact Pv.tree hT ho
  | sref o k0 p off n =>
    intro xv hx r r' v hr
    have hR := hx.ref_inv (.inl ⟨_, _, _, _, _, rfl⟩)
    simp only [resolve, askC, Ch.get, Lk.bind, Lk.run, Lk.run_of, he] at hr
    obtain ⟨u, h1, hr⟩ := map_some_inv hr
    simp only [Prod.mk.injEq] at hr
    obtain ⟨rfl, _⟩ := hr
    rw [nodeIn_era (hs.hol o)] at h1
    cases hR with
    | s _ _ _ _ _ m fl' sz es b off0 cap0 cap hn hle hc hcap =>
      rw [hn] at h1
      simp only [Option.map_some, Option.bind_some] at h1
      have hT := hs.node hn
      have hF := hT.frz (I' := fun b' => I b' ∨ b' ∈ (GV.sl m fl' sz es b off0 cap0).own) (fun b hb => .inl hb) (fun b hb => .inr hb)
      have hv := view_val hT hF hle hc h1
      exact ⟨fun b' => I b' ∨ b' ∈ (GV.sl m fl' sz es b off0 cap0).own, fun b hb => Or.inl hb, fun b hb => Or.elim hb (hs.Ilt b) (hT.lt b), hv.1, fun _ => hv.2⟩
  | pref o k0 p i k =>
    intro xv hx r r' v hr
    have hR := hx.ref_inv (.inr ⟨_, _, _, _, _, rfl⟩)
    simp only [resolve, askC, Ch.get, Lk.bind, Lk.run, Lk.run_of, he] at hr
    obtain ⟨u, h1, hr⟩ := map_some_inv hr
    simp only [Prod.mk.injEq] at hr
    obtain ⟨rfl, _⟩ := hr
    rw [nodeIn_era (hs.hol o)] at h1
    cases hR with
    | ps _ _ _ _ _ m fl' sz es b off0 cap0 hn hi =>
      rw [hn] at h1
      simp only [Option.map_some, Option.bind_some, GV.era, varOf] at h1
      cases h1
    | pp _ _ _ _ ow e b off0 hn =>
      rw [hn] at h1
      simp only [Option.map_some, Option.bind_some] at h1
      have hT := hs.node hn
      have hF := hT.frz (I' := fun b' => I b' ∨ b' ∈ (GV.pt ow e b off0).own) (fun b hb => .inl hb) (fun b hb => .inr hb)
      obtain ⟨_, rfl, hv, hl⟩ := var_val hT hF h1
      exact ⟨fun b' => I b' ∨ b' ∈ (GV.pt ow e b off0).own, fun b hb => Or.inl hb, fun b hb => Or.elim hb (hs.Ilt b) (hT.lt b), by simpa using hv, fun _ => hl⟩
  | nil => rename_i y hy xv hx r r' v hr; cases hy
  | cons e es ih1 ih2 =>
    rename_i y hy xv hx r r' v hr
    rcases List.mem_cons.1 hy with rfl | hy
    · exact ih1 hx hr
    · exact ih2 _ hy hx hr

theorem resolveL_vals (hs : Sto cx gob I w) {ob : Nat → List AV} (he : ∀ o, ob o = (gob o).map GV.era) : ∀ (vs : List AV) {xs : List Value}, Vals cx gob I w vs xs → ∀ {r r' : List Nat} {us : List AV}, (resolve.resolveL [] vs).run ob r = some (us, r') →
    ∃ I2, (∀ b, I b → I2 b) ∧ (∀ b, I2 b → b < w.heap.size) ∧ Pvs w I2 cx.K us xs := by
  intro vs xs hv
  induction hv with
  | nil =>
    intro r r' us hr
    simp only [resolve.resolveL, Lk.run, Option.some.injEq, Prod.mk.injEq] at hr
    obtain ⟨rfl, _⟩ := hr
    exact ⟨I, fun _ h => h, hs.Ilt, Pvs.nil⟩
  | cons v x vs xs hx _ ih =>
    intro r r' us hr
    simp only [resolve.resolveL, Lk.run_bind] at hr
    obtain ⟨⟨u, r1⟩, h1, hr⟩ := bind_some_inv hr
    obtain ⟨⟨us', r2⟩, h2, hr⟩ := bind_some_inv hr
    simp only [Lk.run, Option.some.injEq, Prod.mk.injEq] at hr
    obtain ⟨rfl, _⟩ := hr
    obtain ⟨I1, a1, a2, a3, a4⟩ := resolve_val hs he v hx h1
    obtain ⟨I2, b1, b2, b3⟩ := ih h2
    exact ⟨fun b => I1 b ∨ I2 b, fun b hb => .inl (a1 b hb), fun b hb => hb.elim (a2 b) (b2 b), Pvs.cons (Pv.mono a3 (fun b hb => ⟨.inl hb, rfl⟩)) (Pvs.mono b3 (fun b hb => ⟨.inr hb, rfl⟩))⟩

theorem flat_val {w0 w1 : World} {I0 I1 : Nat → Prop} {K : Nat → Nat → Prop} {R : AV → Value → Prop} {g : GV} (h : HV w0 I0 K (fun _ _ => False) g) (hf : flat g.era = true) : HV w1 I1 K R g := by
  have list : ∀ l : List GV, (∀ c ∈ l, flat c.era = true → HV w1 I1 K R c) → flat.flatL (era.eraL l) = true → ∀ c ∈ l, HV w1 I1 K R c := by
    intro l
    induction l with
    | nil => intro _ _ c hc; cases hc
    | cons a l ih =>
      intro h1 h3 c hc
      simp only [GV.era.eraL, flat.flatL, Bool.and_eq_true] at h3
      rcases List.mem_cons.1 hc with rfl | hc
      · exact h1 c (by simp) h3.1
      · exact ih (fun c hc => h1 c (by simp [hc])) h3.2 c hc
  have listT : ∀ l : List GV, (∀ c ∈ l, flat c.era = true → HT w1 I1 K c) → flat.flatL (era.eraL l) = true → ∀ c ∈ l, HT w1 I1 K c := by
    intro l
    induction l with
    | nil => intro _ _ c hc; cases hc
    | cons a l ih =>
      intro h1 h3 c hc
      simp only [GV.era.eraL, flat.flatL, Bool.and_eq_true] at h3
      rcases List.mem_cons.1 hc with rfl | hc
      · exact h1 c (by simp) h3.1
      · exact ih (fun c hc => h1 c (by simp [hc])) h3.2 c hc
  have tree : ∀ {g : GV}, HT w0 I0 K g → flat g.era = true → HT w1 I1 K g := by
    intro g h
    induction h with
    | lit v h => intro _; exact .lit v h
    | agg cs _ hl ih => intro hf; simp only [GV.era, flat] at hf; exact .agg cs (listT cs ih hf) hl
    | _ => intro hf; simp [GV.era, flat] at hf
  induction h with
  | tree g h => exact .tree g (tree h hf)
  | ref a v h => exact h.elim
  | agg cs _ hl ih => simp only [GV.era, flat] at hf; exact .agg cs (list cs ih hf) hl
  | tup cs _ ih => simp only [GV.era, flat] at hf; exact .tup cs (list cs ih hf)
  | fn f a b _ _ _ _ => simp [GV.era, flat] at hf

/-- **A call.** -/
theorem call_ok {E : Env} {cf : CallF} (hG : GlobOK G cx) (h : Inv cx gob I s a w) {o : Oper} {cl : Call} (ho : o.op = .call cl) {fo : Operand} (hb : cl.callee = .value fo) {yf : Opr} {yas : List Opr} (hf : cOpr G fo = some yf) (has : cOprs G cl.args.toList = some yas)
    {f : Nat} {first cap vs : List AV} (hvf : s.val yf = some (.fn (.func f) first cap)) (hvs : vals s.val yas = some vs) (hcf : ∀ f args r, cf f args = some r → CallOK P G f args r) {e : Eff} {r r' : List Nat}
    (hr : (callOp E cf f (first ++ vs ++ cap)).run s.obj r = some (e, r')) : OpOK P cx gob I w a o e := by
  obtain ⟨xf, yc, hev, h1, h2⟩ := (opr_val hG h hf hvf).fn_inv
  have hall := (h1.append (oprs_vals hG h _ _ _ has hvs)).append h2
  have hexec : execOp a.eval o = callFunc f (xf ++ cl.args.toList.map a.eval ++ yc).toArray := by
    rw [show o = { o with op := .call cl } by rw [← ho]]
    simp only [execOp, Go.resolve, hb, hev, Deferred.ofValue, invoke]
    have : (xf.toArray ++ cl.args.map a.eval ++ yc.toArray) = (xf ++ cl.args.toList.map a.eval ++ yc).toArray := by
      apply Array.toList_inj.1; simp
    rw [← this]
    rfl
  have fin : ∀ {r : AV} {I2 : Nat → Prop} {us : List AV}, cf f us = some r → (∀ b, I b → I2 b) → (∀ b, I2 b → b < w.heap.size) → Pvs w I2 cx.K us (xf ++ cl.args.toList.map a.eval ++ yc) →
      (∀ v w' I', Ends w I2 w' I' → Pv w' I' K0 r v → ∃ gob' I'', OpPost cx gob I w e v w' gob' I'') → OpOK P cx gob I w a o e := by
    intro r I2 us hc hI hlt hp hpost next Q hn
    have hGI : GlobI G w I2 := fun g e he => by
      obtain ⟨t, t1, t2, t3⟩ := hG g e he
      have hown : (GV.pt false t g 0).own = [] := by simp [GV.own, t2]
      exact ⟨t, t1, t2, t3.mono (fun b hb => ⟨hI b (h.sto.I0I b hb), h.sto.I0h b hb⟩) (fun _ _ _ h => h) (fun b hb => by rw [hown] at hb; cases hb)⟩
    unfold Oper.wp
    rw [hexec]
    rcases hcf f us r hc w I2 _ hGI hlt hp.weakK with ⟨v, w', hr, I', hE, hv⟩ | ⟨hr, hcalls⟩
    · rw [hr, Oper.upon_value]
      obtain ⟨gob', I'', hP⟩ := hpost v w' I' hE hv
      exact hn _ _ _ _ hP
    · rw [hr, Oper.upon_enter]
      refine hcalls.mono (fun e' w' he' => ?_)
      obtain ⟨v, rfl, I', hE, hv⟩ := he'
      obtain ⟨gob', I'', hP⟩ := hpost v w' I' hE hv
      exact hn _ _ _ _ hP
  unfold callOp at hr
  split at hr
  · rw [Lk.run_bind] at hr
    obtain ⟨⟨us, r1⟩, hres, hr⟩ := bind_some_inv hr
    obtain ⟨I2, a1, a2, a3⟩ := resolveL_vals h.sto h.era _ hall hres
    simp only at hr
    split at hr
    · rename_i rv hcr
      split at hr
      · rename_i hfl
        simp only [Lk.run, Option.some.injEq, Prod.mk.injEq] at hr
        obtain ⟨rfl, _⟩ := hr
        refine fin hcr a1 a2 a3 (fun v w' I' hE hv => ⟨gob, I, fun _ => rfl, h.sto.grow hE.grow (fun _ h => h) (fun b hb => .inl hb) (fun b hb => Nat.lt_of_lt_of_le (h.sto.Ilt b hb) hE.grow.size), fun b hb => ⟨hb, hE.grow.old b (h.sto.Ilt b hb)⟩, fun _ _ h _ => h, ?_⟩)
        obtain ⟨g, g1, g2, g3, g4⟩ := hv.weakK (K' := cx.K)
        exact ⟨g, g1, g2, flat_val g3 (by rw [g1]; exact hfl), g4⟩
      · simp [Lk.run] at hr
    · simp [Lk.run] at hr
  · rw [Lk.run_bind] at hr
    obtain ⟨⟨⟨us, c⟩, r1⟩, hres, hr⟩ := bind_some_inv hr
    obtain ⟨gob1, I1, hF, hP, _⟩ := way_fresL h.era _ (Way.start h.sto) (by simp [Ded]) hall hres
    simp only at hr
    split at hr
    · rename_i rv hcr
      simp only [Lk.run, Option.some.injEq, Prod.mk.injEq] at hr
      obtain ⟨rfl, _⟩ := hr
      refine fin hcr hF.imm hF.way.sto.Ilt hP (fun v w' I' hE hv => ⟨gob1, I', ?_⟩)
      have hst := hF.way.sto.grow hE.grow hE.imm hE.new hE.lt
      have hW : Way cx gob I w gob1 [] I' w' c [] := ⟨hst, hF.way.era, hF.way.pre, fun b hb => ⟨hE.imm b (hF.imm b hb), hE.grow.old b (hF.way.sto.Ilt b (hF.imm b hb))⟩, hE.grow.size⟩
      exact hW.post (hv.weakK (K' := cx.K)).val
    · simp [Lk.run] at hr

end
end Go.AM

/- AM, part 27: every operation that the machine carries out. -/
namespace Go.AM
open GV

section
variable {P : Program} {G : Globs} {cx : Cx} {gob : Nat → List GV} {I : Nat → Prop} {s : St} {a : Act} {w : World}

theorem run_of_inv {α : Type} {x : Option α} {ob : Nat → List AV} {r r' : List Nat} {y : α} (h : (Lk.of x).run ob r = some (y, r')) : x = some y := by
  rw [Lk.run_of] at h
  obtain ⟨z, hz, h⟩ := map_some_inv h
  simp only [Prod.mk.injEq] at h
  rw [hz, h.1]

theorem run_fail {α : Type} {ob : Nat → List AV} {r r' : List Nat} {y : α} (h : (Lk.fail : Lk α).run ob r = some (y, r')) : False := by
  simp [Lk.run] at h

theorem run_done {α : Type} {x : α} {ob : Nat → List AV} {r r' : List Nat} {y : α} (h : (Lk.done x).run ob r = some (y, r')) : x = y := by
  simp only [Lk.run, Option.some.injEq, Prod.mk.injEq] at h
  exact h.1

theorem eff_of {f : Option AV} {e : Eff} (h : f.map (fun v => ({ v } : Eff)) = some e) : ∃ v, f = some v ∧ e = { v } := by
  obtain ⟨v, hv, rfl⟩ := map_some_inv h
  exact ⟨v, hv, rfl⟩

/-- **Every operation.** -/
theorem op_sound {E : Env} {cf : CallF} (hG : GlobOK G cx) (h : Inv cx gob I s a w) (hcf : ∀ f args r, cf f args = some r → CallOK P G f args r) {o : Oper} {iop : IOp} (hc : compOp P G o.op = some iop) {ky : Nat} {e : Eff} {rd : List Nat}
    (hr : (semOp E cf ky iop s.val).run s.obj [] = some (e, rd)) : OpOK P cx gob I w a o e := by
  cases hop : o.op with
  | move x =>
    rw [hop] at hc; simp only [compOp] at hc
    obtain ⟨y, hy, rfl⟩ := map_some_inv hc
    simp only [semOp] at hr
    obtain ⟨v, hv, rfl⟩ := eff_of (run_of_inv hr)
    exact (tells_mv hG h (.inl hop) hy hv).ok h.sto
  | assign x =>
    rw [hop] at hc; simp only [compOp] at hc
    obtain ⟨y, hy, rfl⟩ := map_some_inv hc
    simp only [semOp] at hr
    obtain ⟨v, hv, rfl⟩ := eff_of (run_of_inv hr)
    exact (tells_mv hG h (.inr hop) hy hv).ok h.sto
  | pick c x z =>
    rw [hop] at hc; simp only [compOp] at hc
    obtain ⟨yc, hyc, hc⟩ := bind_some_inv hc
    obtain ⟨yx, hyx, hc⟩ := bind_some_inv hc
    obtain ⟨yz, hyz, rfl⟩ := map_some_inv hc
    simp only [semOp] at hr
    split at hr
    · rename_i t ht
      obtain ⟨v, hv, rfl⟩ := eff_of (run_of_inv hr)
      exact (tells_pick hG h hop hyc hyx hyz ht hv).ok h.sto
    · exact (run_fail hr).elim
  | alloc t =>
    rw [hop] at hc; simp only [compOp] at hc
    obtain ⟨z, hz, rfl⟩ := map_some_inv hc
    simp only [semOp] at hr
    have := run_done hr; subst this
    exact (does_new h hop hz ky).ok
  | box t x =>
    rw [hop] at hc; simp only [compOp] at hc
    obtain ⟨i, hi, hc⟩ := bind_some_inv hc
    obtain ⟨y, hy, rfl⟩ := map_some_inv hc
    simp only [semOp] at hr
    split at hr
    · rename_i v hv
      split at hr
      · rw [Lk.run_bind] at hr
        obtain ⟨⟨⟨z, c, kl⟩, r1⟩, hd, hr⟩ := bind_some_inv hr
        have := run_done hr; subst this
        exact (does_box hG h hop hy hv hd).ok
      · exact (run_fail hr).elim
    · exact (run_fail hr).elim
  | build t ps =>
    rw [hop] at hc; simp only [compOp] at hc
    obtain ⟨z, hz, hc⟩ := bind_some_inv hc
    have fin : ∀ qs, iop = .build (leafs z) qs → ((∃ fs, P.underlying t = some (.struct fs) ∧ allInfo P fs = true ∧ cParts P G fs ps.toList = some qs) ∨ (∃ n e i, P.underlying t = some (.array n e) ∧ P.info? e = some i ∧ cPartsA G i.size ps.toList = some qs)) → OpOK P cx gob I w a o e := by
      intro qs hqs hq
      subst hqs
      simp only [semOp] at hr
      have hr := run_of_inv hr
      obtain ⟨l, hl, hr⟩ := bind_some_inv hr
      obtain ⟨cs, hcs, rfl⟩ := map_some_inv hr
      exact (tells_build hG h hop hz hq hl hcs).ok h.sto
    split at hc
    · rename_i fs hu
      split at hc
      · rename_i ha
        obtain ⟨qs, hqs, rfl⟩ := map_some_inv hc
        exact fin qs rfl (.inl ⟨fs, hu, ha, hqs⟩)
      · cases hc
    · rename_i n el hu
      split at hc
      · rename_i i hi
        obtain ⟨qs, hqs, rfl⟩ := map_some_inv hc
        exact fin qs rfl (.inr ⟨n, el, i, hu, hi, hqs⟩)
      · cases hc
    · cases hc
  | buildSlice t len ps =>
    rw [hop] at hc; simp only [compOp] at hc
    split at hc
    · rename_i el hu
      obtain ⟨i, hi, hc⟩ := bind_some_inv hc
      obtain ⟨z, hz, hc⟩ := bind_some_inv hc
      split at hc
      · rename_i hcond
        obtain ⟨qs, hqs, rfl⟩ := map_some_inv hc
        simp only [Bool.and_eq_true, decide_eq_true_eq, beq_iff_eq] at hcond
        simp only [semOp] at hr
        rw [Lk.run_bind] at hr
        obtain ⟨⟨⟨es, c, kl⟩, r1⟩, hd, hr⟩ := bind_some_inv hr
        have := run_done hr; subst this
        exact (does_bsl hG h hop hu hi hz hcond.2 hcond.1.2 hcond.1.1 hqs hd ky i.flat).ok
      · cases hc
    · cases hc
  | load t x =>
    rw [hop] at hc; simp only [compOp] at hc
    obtain ⟨i, hi, hc⟩ := bind_some_inv hc
    obtain ⟨y, hy, rfl⟩ := map_some_inv hc
    simp only [semOp] at hr
    split at hr
    · rename_i v hv
      obtain ⟨h1, h2, h3⟩ := tells_ld hG h hop hi hy hv hr
      have : e = { v := e.v } := by cases e; simp_all
      rw [this]
      exact h3.ok h.sto
    · exact (run_fail hr).elim
  | store t x z =>
    rw [hop] at hc; simp only [compOp] at hc
    obtain ⟨i, hi, hc⟩ := bind_some_inv hc
    obtain ⟨yx, hyx, hc⟩ := bind_some_inv hc
    obtain ⟨yz, hyz, rfl⟩ := map_some_inv hc
    simp only [semOp] at hr
    split at hr
    · rename_i va vx hva hvx
      exact (does_st hG h hop hi hyx hyz hva hvx hr).ok
    · exact (run_fail hr).elim
  | nilCheck x =>
    rw [hop] at hc; simp only [compOp] at hc
    obtain ⟨y, hy, rfl⟩ := map_some_inv hc
    simp only [semOp] at hr
    split at hr
    · rename_i v hv
      split at hr
      · have := run_done hr; subst this
        exact (tells_nilc hG h hop hy hv (.inl ⟨_, _, _, _, _, rfl⟩)).ok h.sto
      · have := run_done hr; subst this
        exact (tells_nilc hG h hop hy hv (.inr (.inl ⟨_, _, rfl⟩))).ok h.sto
      · have := run_done hr; subst this
        exact (tells_nilc hG h hop hy hv (.inr (.inr ⟨_, _, _, rfl⟩))).ok h.sto
      · exact (run_fail hr).elim
    · exact (run_fail hr).elim
  | binOp op t x z t' =>
    rw [hop] at hc; simp only [compOp] at hc
    obtain ⟨yx, hyx, hc⟩ := bind_some_inv hc
    obtain ⟨yz, hyz, hc⟩ := bind_some_inv hc
    have fin : ∀ k d, iop = .bin k op yx yz → P.underlying t = some d → (k = 0 ∨ (k = 1 ∧ d = .bool) ∨ (k = 2 ∧ ∃ e, d = .pointer e) ∨ (k = 3 ∧ ∃ e, d = .slice e) ∨ (k = 4 ∧ ∃ p r v, d = .func p r v)) → OpOK P cx gob I w a o e := by
      intro k d hio hd hk
      subst hio
      simp only [semOp] at hr
      have hr := run_of_inv hr
      obtain ⟨u, hu, hr⟩ := bind_some_inv hr
      obtain ⟨v, hv, hr⟩ := bind_some_inv hr
      obtain ⟨q, hq, rfl⟩ := map_some_inv hr
      exact (tells_bin hG h hop hyx hyz hd hk hu hv hq).ok h.sto
    split at hc
    · rename_i hu; cases hc; exact fin _ _ rfl hu (.inl rfl)
    · rename_i hu; cases hc; exact fin _ _ rfl hu (.inr (.inl ⟨rfl, rfl⟩))
    · rename_i hu; cases hc; exact fin _ _ rfl hu (.inr (.inr (.inl ⟨rfl, _, rfl⟩)))
    · rename_i hu; cases hc; exact fin _ _ rfl hu (.inr (.inr (.inr (.inl ⟨rfl, _, rfl⟩))))
    · rename_i hu; cases hc; exact fin _ _ rfl hu (.inr (.inr (.inr (.inr ⟨rfl, _, _, _, rfl⟩))))
    · cases hc
  | unOp op t x =>
    rw [hop] at hc; simp only [compOp] at hc
    obtain ⟨y, hy, rfl⟩ := map_some_inv hc
    simp only [semOp] at hr
    have hr := run_of_inv hr
    obtain ⟨u, hu, hr⟩ := bind_some_inv hr
    obtain ⟨v, hv, rfl⟩ := map_some_inv hr
    exact (tells_un hG h hop hy hu hv).ok h.sto
  | convert t u x =>
    rw [hop] at hc; simp only [compOp] at hc
    split at hc
    · rename_i k1 k2 ht hu
      obtain ⟨y, hy, rfl⟩ := map_some_inv hc
      simp only [semOp] at hr
      split at hr
      · rename_i k n hv
        have := run_done hr; subst this
        exact (tells_conv hG h hop hy ht hu hv).ok h.sto
      · exact (run_fail hr).elim
    · cases hc
  | makeFunc f fs cs =>
    rw [hop] at hc
    cases f with
    | func f =>
      simp only [compOp] at hc
      obtain ⟨yf, hyf, hc⟩ := bind_some_inv hc
      obtain ⟨yc, hyc, rfl⟩ := map_some_inv hc
      simp only [semOp] at hr
      have hr := run_of_inv hr
      obtain ⟨u, hu, hr⟩ := bind_some_inv hr
      obtain ⟨v, hv, rfl⟩ := map_some_inv hr
      exact (tells_mkfn hG h hop hyf hyc hu hv).ok h.sto
    | _ => simp [compOp] at hc
  | makeSlice t l c =>
    rw [hop] at hc; simp only [compOp] at hc
    split at hc
    · rename_i el hu
      obtain ⟨i, hi, hc⟩ := bind_some_inv hc
      obtain ⟨z, hz, hc⟩ := bind_some_inv hc
      obtain ⟨yl, hyl, hc⟩ := bind_some_inv hc
      obtain ⟨yc, hyc, hc⟩ := bind_some_inv hc
      split at hc
      · rename_i hcond
        simp only [Bool.and_eq_true, decide_eq_true_eq, beq_iff_eq] at hcond
        simp only [Option.some.injEq] at hc; subst hc
        simp only [semOp] at hr
        split at hr
        · rename_i n m hn hm
          split at hr
          · rename_i hb
            simp only [Bool.and_eq_true, decide_eq_true_eq] at hb
            have := run_done hr; subst this
            exact (does_mksl hG h hop hu hi hz hcond.1.2 hyl hyc hn hm hb.1.1 hb.1.2 hb.2 ky i.flat).ok
          · exact (run_fail hr).elim
        · exact (run_fail hr).elim
      · cases hc
    · cases hc
  | slice t x lo hi mx =>
    rw [hop] at hc; simp only [compOp] at hc
    split at hc
    · rename_i el hu
      obtain ⟨i, hinf, hc⟩ := bind_some_inv hc
      obtain ⟨y, hy, hc⟩ := bind_some_inv hc
      obtain ⟨yl, hyl, hc⟩ := bind_some_inv hc
      obtain ⟨yh, hyh, hc⟩ := bind_some_inv hc
      obtain ⟨ym, hym, rfl⟩ := map_some_inv hc
      simp only [semOp] at hr
      split at hr
      · rename_i vx vl vh vm hvx hvl hvh hvm
        exact (does_slc hG h hop hu hinf hy hyl hyh hym hvx hvl hvh hvm hr).ok
      · exact (run_fail hr).elim
    · rename_i n el hu
      split at hc
      · obtain ⟨i, hi, hc⟩ := bind_some_inv hc
        obtain ⟨y, hy, rfl⟩ := map_some_inv hc
        simp only [semOp] at hr
        split at hr
        · rename_i o' k0 hv
          simp only [Lk.run] at hr
          split at hr
          · rename_i cs hn
            split at hr
            · rename_i hcond
              simp only [Bool.and_eq_true, Bool.or_eq_true, beq_iff_eq] at hcond
              have := run_done hr; subst this
              exact (does_slarr hG h hop hu hi hy hv hn hcond.1 hcond.2 ky i.flat).ok
            · exact (run_fail hr).elim
          · exact (run_fail hr).elim
        · exact (run_fail hr).elim
      · cases hc
    · cases hc
  | fieldAddr t x j =>
    rw [hop] at hc; simp only [compOp] at hc
    split at hc
    · rename_i fs hu
      split at hc
      · rename_i f hf
        obtain ⟨i, hi, hc⟩ := bind_some_inv hc
        split at hc
        · rename_i hn
          obtain ⟨y, hy, rfl⟩ := map_some_inv hc
          simp only [semOp] at hr
          split at hr
          · rename_i o' k0 p i' k hv
            have := run_done hr; subst this
            exact (tells_fa hG h hop hu hf hi hn hy hv (.inl ⟨_, _, _, _, _, rfl, rfl⟩)).ok h.sto
          · rename_i e' hv
            have hr := run_of_inv hr
            obtain ⟨q, hq, rfl⟩ := map_some_inv hr
            exact (tells_fa hG h hop hu hf hi hn hy hv (.inr ⟨_, _, rfl, hq, rfl⟩)).ok h.sto
          · exact (run_fail hr).elim
        · cases hc
      · cases hc
    · cases hc
  | field t x j =>
    rw [hop] at hc; simp only [compOp] at hc
    split at hc
    · rename_i fs hu
      split at hc
      · rename_i f hf
        obtain ⟨i, hi, hc⟩ := bind_some_inv hc
        obtain ⟨y, hy, rfl⟩ := map_some_inv hc
        simp only [semOp] at hr
        split at hr
        · rename_i cs hv
          obtain ⟨q, hq, rfl⟩ := eff_of (run_of_inv hr)
          exact (tells_fld hG h hop hu hf hi hy hv hq).ok h.sto
        · exact (run_fail hr).elim
      · cases hc
    · cases hc
  | indexAddr t x ix =>
    rw [hop] at hc; simp only [compOp] at hc
    split at hc
    · rename_i el hu
      obtain ⟨i, hi, hc⟩ := bind_some_inv hc
      obtain ⟨y, hy, hc⟩ := bind_some_inv hc
      obtain ⟨yi, hyi, rfl⟩ := map_some_inv hc
      simp only [semOp] at hr
      split at hr
      · rename_i m f sz es j hv hj
        split at hr
        · rename_i q hq
          split at hr
          · exact (run_fail hr).elim
          · rename_i hcond
            have := run_done hr; subst this
            simp only [Bool.or_eq_true, bne_iff_ne, ne_eq, not_or, Decidable.not_not] at hcond
            obtain ⟨hm, rfl⟩ := hcond
            exact (tells_ia hG h hop hu hi hy hyi hv hj (.inl ⟨m, f, es, q, rfl, hq, by simpa [Bool.or_eq_true] using hm, rfl⟩)).ok h.sto
        · exact (run_fail hr).elim
      · rename_i o' k0 p off n j hv hj
        simp only [Lk.run] at hr
        split at hr
        · rename_i m f sz es hn
          split at hr
          · rename_i hcond
            simp only [Bool.and_eq_true, decide_eq_true_eq, beq_iff_eq] at hcond
            obtain ⟨hjn, rfl⟩ := hcond
            have := run_done hr; subst this
            exact (tells_ia hG h hop hu hi hy hyi hv hj (.inr ⟨o', k0, p, off, n, m, f, es, rfl, hn, hjn, rfl⟩)).ok h.sto
          · exact (run_fail hr).elim
        · exact (run_fail hr).elim
      · exact (run_fail hr).elim
    · rename_i n el hu
      obtain ⟨i, hi, hc⟩ := bind_some_inv hc
      obtain ⟨y, hy, hc⟩ := bind_some_inv hc
      obtain ⟨yi, hyi, rfl⟩ := map_some_inv hc
      simp only [semOp] at hr
      split at hr
      · rename_i o' k0 p j k i' hv hj
        split at hr
        · rename_i hlt
          have := run_done hr; subst this
          exact (tells_iarr hG h hop hu hi hy hyi hv hj hlt (.inl ⟨_, _, _, _, _, rfl, rfl⟩)).ok h.sto
        · exact (run_fail hr).elim
      · rename_i e' i' hv hj
        split at hr
        · rename_i hlt
          have hr := run_of_inv hr
          obtain ⟨q, hq, rfl⟩ := map_some_inv hr
          exact (tells_iarr hG h hop hu hi hy hyi hv hj hlt (.inr ⟨_, _, rfl, hq, rfl⟩)).ok h.sto
        · exact (run_fail hr).elim
      · exact (run_fail hr).elim
    · cases hc
  | index t x ix =>
    rw [hop] at hc; simp only [compOp] at hc
    split at hc
    · rename_i n el hu
      obtain ⟨i, hi, hc⟩ := bind_some_inv hc
      obtain ⟨y, hy, hc⟩ := bind_some_inv hc
      obtain ⟨yi, hyi, rfl⟩ := map_some_inv hc
      simp only [semOp] at hr
      split at hr
      · rename_i cs j hv hj
        split at hr
        · rename_i hlt
          obtain ⟨q, hq, rfl⟩ := eff_of (run_of_inv hr)
          exact (tells_idx hG h hop hu hi hy hyi hv hj hlt hq).ok h.sto
        · exact (run_fail hr).elim
      · exact (run_fail hr).elim
    · rename_i hu
      obtain ⟨y, hy, hc⟩ := bind_some_inv hc
      obtain ⟨yi, hyi, rfl⟩ := map_some_inv hc
      simp only [semOp] at hr
      split at hr
      · rename_i st j hv hj
        split at hr
        · rename_i b hb
          have := run_done hr; subst this
          exact (tells_sidx hG h hop hu hy hyi hv hj hb).ok h.sto
        · exact (run_fail hr).elim
      · exact (run_fail hr).elim
    · cases hc
  | extract x i =>
    rw [hop] at hc; simp only [compOp] at hc
    obtain ⟨y, hy, rfl⟩ := map_some_inv hc
    simp only [semOp] at hr
    split at hr
    · rename_i vs hv
      obtain ⟨q, hq, rfl⟩ := eff_of (run_of_inv hr)
      exact (tells_ext hG h hop hy hv hq).ok h.sto
    · exact (run_fail hr).elim
  | call cl =>
    rw [hop] at hc; simp only [compOp] at hc
    split at hc
    · rename_i fo hb
      obtain ⟨yf, hyf, hc⟩ := bind_some_inv hc
      obtain ⟨yas, hyas, rfl⟩ := map_some_inv hc
      simp only [semOp] at hr
      split at hr
      · rename_i f first cap vs hvf hvs
        exact call_ok hG h hop hb hyf hyas hvf hvs hcf hr
      · exact (run_fail hr).elim
    · rename_i hb
      split at hc
      · rename_i t u xs xx hts has
        split at hc
        · rename_i el el2 ht hu
          obtain ⟨i, hi, hc⟩ := bind_some_inv hc
          obtain ⟨z, hz, hc⟩ := bind_some_inv hc
          split at hc
          · rename_i hcond
            simp only [Bool.and_eq_true, decide_eq_true_eq, beq_iff_eq] at hcond
            obtain ⟨⟨⟨h0, hby⟩, _⟩, hzl⟩ := hcond
            obtain ⟨ys, hys, hc⟩ := bind_some_inv hc
            obtain ⟨yx, hyx, rfl⟩ := map_some_inv hc
            simp only [semOp] at hr
            split at hr
            · rename_i vs vx hvs hvx
              exact (does_app hG h hop hb hts has ht hu hi hz hzl h0 hby hys hyx hvs hvx hr).ok
            · exact (run_fail hr).elim
          · cases hc
        · cases hc
      · cases hc
    · rename_i hb
      split at hc
      · rename_i t x hts has
        split at hc
        · rename_i el ht
          obtain ⟨y, hy, rfl⟩ := map_some_inv hc
          simp only [semOp] at hr
          have hr := run_of_inv hr
          obtain ⟨n, hn, rfl⟩ := map_some_inv hr
          obtain ⟨m, hm, hn⟩ := bind_some_inv hn
          obtain ⟨u, hu, hm⟩ := bind_some_inv hm
          simp only [Option.pure_def, Option.some.injEq] at hn
          subst hn
          exact (tells_len hG h hop hb hts has ht hy hu hm).ok h.sto
        · rename_i n el ht
          simp only [Option.some.injEq] at hc; subst hc
          simp only [semOp, St.val, Option.map_some] at hr
          have := run_of_inv hr
          simp only [Option.some.injEq] at this; subst this
          exact (tells_lenarr hop hb hts has ht).ok h.sto
        · cases hc
      · cases hc
    · rename_i hb
      split at hc
      · rename_i t u xs xx hts has
        split at hc
        · rename_i el el2 ht hu
          obtain ⟨i, hi, hc⟩ := bind_some_inv hc
          split at hc
          · rename_i hcond
            simp only [Bool.and_eq_true, beq_iff_eq] at hcond
            obtain ⟨ys, hys, hc⟩ := bind_some_inv hc
            obtain ⟨yx, hyx, rfl⟩ := map_some_inv hc
            simp only [semOp] at hr
            split at hr
            · rename_i vs vx hvs hvx
              exact (does_copy hG h hop hb hts has ht hi hcond.1 hys hyx hvs hvx hr).ok
            · exact (run_fail hr).elim
          · cases hc
        · cases hc
      · cases hc
    · rename_i hb
      obtain ⟨ys, hys, rfl⟩ := map_some_inv hc
      simp only [semOp] at hr
      have hr := run_of_inv hr
      obtain ⟨l, hl, hr⟩ := bind_some_inv hr
      obtain ⟨v, hv, rfl⟩ := map_some_inv hr
      exact (tells_fold hG h hop hb (.inl ⟨rfl, rfl⟩) hys hl hv).ok h.sto
    · rename_i hb
      obtain ⟨ys, hys, rfl⟩ := map_some_inv hc
      simp only [semOp] at hr
      have hr := run_of_inv hr
      obtain ⟨l, hl, hr⟩ := bind_some_inv hr
      obtain ⟨v, hv, rfl⟩ := map_some_inv hr
      exact (tells_fold hG h hop hb (.inr ⟨rfl, rfl⟩) hys hl hv).ok h.sto
    · cases hc
  | _ => rw [hop] at hc; simp [compOp] at hc

end
end Go.AM

/- AM, part 28: operations that may change places. -/
namespace Go.AM
open GV

  mutual
theorem kill_nodead (ks : List Kl) : (v : AV) → hasDead (kill ks v) = false → kill ks v = v
  | .agg cs, h => by simp only [kill, hasDead] at h ⊢; rw [killL_nodead ks cs h]
  | .tup cs, h => by simp only [kill, hasDead] at h ⊢; rw [killL_nodead ks cs h]
  | .fn f a b, h => by
    simp only [kill, hasDead, Bool.or_eq_false_iff] at h ⊢
    rw [killL_nodead ks a h.1, killL_nodead ks b h.2]
  | .dead, h => by simp [kill]
  | .lit _, h => by simp [kill]
  | .sl .., h => by simp [kill]
  | .pt .., h => by simp [kill]
  | .sref o k0 p off n, h => by
    simp only [kill] at h ⊢
    split
    · rename_i hk; rw [if_pos hk] at h; simp [hasDead] at h
    · rfl
  | .pref o k0 p i k, h => by
    simp only [kill] at h ⊢
    split
    · rename_i hk; rw [if_pos hk] at h; simp [hasDead] at h
    · rfl
theorem killL_nodead (ks : List Kl) : (l : List AV) → hasDead.hasDeadL (kill.killL ks l) = false → kill.killL ks l = l
  | [], _ => rfl
  | e :: es, h => by
    simp only [kill.killL, hasDead.hasDeadL, Bool.or_eq_false_iff] at h ⊢
    rw [kill_nodead ks e h.1, killL_nodead ks es h.2]
end

  mutual
theorem kill_spared (ks : List Kl) : (v : AV) → (∀ r ∈ refs v, ks.any (·.hits r.o r.k0 r.p) = false) → kill ks v = v
  | .agg cs, h => by simp only [kill, refs] at h ⊢; rw [killL_spared ks cs h]
  | .tup cs, h => by simp only [kill, refs] at h ⊢; rw [killL_spared ks cs h]
  | .fn f a b, h => by
    simp only [kill, refs, List.mem_append] at h ⊢
    rw [killL_spared ks a (fun r hr => h r (.inl hr)), killL_spared ks b (fun r hr => h r (.inr hr))]
  | .dead, h => by simp [kill]
  | .lit _, h => by simp [kill]
  | .sl .., h => by simp [kill]
  | .pt .., h => by simp [kill]
  | .sref o k0 p off n, h => by
    simp only [kill, refs, List.mem_singleton, forall_eq] at h ⊢
    rw [h]; rfl
  | .pref o k0 p i k, h => by
    simp only [kill, refs, List.mem_singleton, forall_eq] at h ⊢
    rw [h]; rfl
theorem killL_spared (ks : List Kl) : (l : List AV) → (∀ r ∈ refs.refsL l, ks.any (·.hits r.o r.k0 r.p) = false) → kill.killL ks l = l
  | [], _ => rfl
  | e :: es, h => by
    simp only [kill.killL, refs.refsL, List.mem_append] at h ⊢
    rw [kill_spared ks e (fun r hr => h r (.inl hr)), killL_spared ks es (fun r hr => h r (.inr hr))]
end

  mutual
theorem kill_comm (k1 k2 : List Kl) : (v : AV) → kill k1 (kill k2 v) = kill k2 (kill k1 v)
  | .agg cs => by simp only [kill]; rw [killL_comm k1 k2 cs]
  | .tup cs => by simp only [kill]; rw [killL_comm k1 k2 cs]
  | .fn f a b => by simp only [kill]; rw [killL_comm k1 k2 a, killL_comm k1 k2 b]
  | .dead => by simp [kill]
  | .lit _ => by simp [kill]
  | .sl .. => by simp [kill]
  | .pt .. => by simp [kill]
  | .sref o k0 p off n => by
    simp only [kill]
    cases h1 : k1.any (·.hits o k0 p) <;> cases h2 : k2.any (·.hits o k0 p) <;> simp [kill, h1, h2]
  | .pref o k0 p i k => by
    simp only [kill]
    cases h1 : k1.any (·.hits o k0 p) <;> cases h2 : k2.any (·.hits o k0 p) <;> simp [kill, h1, h2]
theorem killL_comm (k1 k2 : List Kl) : (l : List AV) → kill.killL k1 (kill.killL k2 l) = kill.killL k2 (kill.killL k1 l)
  | [] => rfl
  | e :: es => by simp only [kill.killL]; rw [kill_comm k1 k2 e, killL_comm k1 k2 es]
end

theorem vals_congr {ρ ρ' : Opr → Option AV} : ∀ {l : List Opr}, (∀ x ∈ l, ρ x = ρ' x) → vals ρ l = vals ρ' l
  | [], _ => rfl
  | x :: l, h => by simp only [vals]; rw [h x (by simp), vals_congr (fun y hy => h y (by simp [hy]))]

theorem evParts_congr {ρ ρ' : Opr → Option AV} : ∀ {l : List (Nat × Nat × Opr)}, (∀ x ∈ l.map (·.2.2), ρ x = ρ' x) → evParts ρ l = evParts ρ' l
  | [], _ => rfl
  | (o, n, x) :: l, h => by simp only [evParts]; rw [h x (by simp), evParts_congr (fun y hy => h y (by simp only [List.map_cons, List.mem_cons]; exact .inr hy))]

theorem layElems_congr {ρ ρ' : Opr → Option AV} {sz : Nat} : ∀ {l : List (Nat × Opr)}, (∀ x ∈ l.map (·.2), ρ x = ρ' x) → ∀ es c kl, layElems ρ sz l es c kl = layElems ρ' sz l es c kl
  | [], _, es, c, kl => rfl
  | (i, x) :: l, h, es, c, kl => by
    simp only [layElems]
    rw [h x (by simp)]
    have ih := layElems_congr (sz := sz) (l := l) (ρ := ρ) (ρ' := ρ') (fun y hy => h y (by simp only [List.map_cons, List.mem_cons]; exact .inr hy))
    simp only [ih]

theorem optv_congr {ρ ρ' : Opr → Option AV} {x : Option Opr} (h : ∀ y ∈ x.toList, ρ y = ρ' y) : optv ρ x = optv ρ' x := by
  cases x with
  | none => rfl
  | some x => simp only [optv]; rw [h x (by simp)]

theorem semOp_congr {E : Env} {cf : CallF} {ky : Nat} {op : IOp} {ρ ρ' : Opr → Option AV} (h : ∀ x ∈ op.oprs, ρ x = ρ' x) : semOp E cf ky op ρ = semOp E cf ky op ρ' := by
  cases op <;> simp only [IOp.oprs] at h <;> simp only [semOp]
  case mv x => rw [h x (by simp)]
  case pick c a b => rw [h c (by simp), h a (by simp), h b (by simp)]
  case box n x => rw [h x (by simp)]
  case build z ps => rw [evParts_congr h]
  case bsl f sz z len ps => rw [layElems_congr h]
  case ld ag n x => rw [h x (by simp)]
  case st n a x => rw [h a (by simp), h x (by simp)]
  case nilc x => rw [h x (by simp)]
  case bin k o x y => rw [h x (by simp), h y (by simp)]
  case un o x => rw [h x (by simp)]
  case conv k x => rw [h x (by simp)]
  case mkfn f fs cs => rw [vals_congr (fun x hx => h x (by simp [hx])), vals_congr (l := cs) (fun x hx => h x (by simp [hx]))]
  case mksl f sz z b l c => rw [h l (by simp), h c (by simp)]
  case slc sz x lo hi mx =>
    rw [h x (by simp), optv_congr (x := lo) (fun y hy => h y (by simp only [List.mem_cons, List.mem_append]; exact .inr (.inl (.inl hy)))), optv_congr (x := hi) (fun y hy => h y (by simp only [List.mem_cons, List.mem_append]; exact .inr (.inl (.inr hy)))),
      optv_congr (x := mx) (fun y hy => h y (by simp only [List.mem_cons, List.mem_append]; exact .inr (.inr hy)))]
  case slarr len sz ag f x => rw [h x (by simp)]
  case fa ag n off x => rw [h x (by simp)]
  case fld ag n off x => rw [h x (by simp)]
  case ia sz x i => rw [h x (by simp), h i (by simp)]
  case iarr len sz ag x i => rw [h x (by simp), h i (by simp)]
  case idx len sz ag x i => rw [h x (by simp), h i (by simp)]
  case sidx x i => rw [h x (by simp), h i (by simp)]
  case ext x i => rw [h x (by simp)]
  case call f as => rw [h f (by simp), vals_congr (fun x hx => h x (by simp [hx]))]
  case app f sz b s x => rw [h s (by simp), h x (by simp)]
  case len x => rw [h x (by simp)]
  case copy s x => rw [h s (by simp), h x (by simp)]
  case mn as => rw [vals_congr h]
  case mx as => rw [vals_congr h]

theorem run_sub {α : Type} {x : Lk α} {ob : Nat → List AV} : ∀ {r r' : List Nat} {y : α}, x.run ob r = some (y, r') → ∀ o ∈ r, o ∈ r' := by
  induction x with
  | done a => intro r r' y h o ho; simp only [Lk.run, Option.some.injEq, Prod.mk.injEq] at h; rw [← h.2]; exact ho
  | fail => intro r r' y h; simp [Lk.run] at h
  | ask o f ih => intro r r' y h o' ho; simp only [Lk.run] at h; exact ih _ h o' (by simp [ho])

theorem run_frame {α : Type} {x : Lk α} {ob ob' : Nat → List AV} : ∀ {r r' : List Nat} {y : α}, x.run ob r = some (y, r') → (∀ o ∈ r', ob' o = ob o) → x.run ob' r = some (y, r') := by
  induction x with
  | done a => intro r r' y h _; exact h
  | fail => intro r r' y h; simp [Lk.run] at h
  | ask o f ih =>
    intro r r' y h hob
    simp only [Lk.run] at h ⊢
    rw [hob o (run_sub h o (by simp))]
    exact ih _ h hob

/-- What an operation looks at. -/
def IOper.tr (o : IOper) : List Nat := o.op.oprs.flatMap oprT ++ (match o.g with | some (t, _) => [t] | none => [])

theorem eff_tm (s : St) (d : Option Nat) (e : Eff) (t : Nat) : getA (s.eff d e).tm t = if d = some t then some e.v else (getA s.tm t).map (kill e.kl) := by
  cases d with
  | none => simp [St.eff, St.put, getA_killT]
  | some d =>
    simp only [St.eff, St.put, getA_setA, getA_killT, Option.some.injEq]
    by_cases h : t = d
    · subst h; simp
    · have : ¬ d = t := fun e => h e.symm
      simp [h, this]

theorem eff_obj (s : St) (d : Option Nat) (e : Eff) (o : Nat) : (s.eff d e).obj o = (e.ch.get o).getD (s.obj o) := by
  have : (s.eff d e).obj o = St.obj { tm := s.tm, ob := setAll s.ob e.ch } o := by
    unfold St.eff St.put
    cases d <;> rfl
  rw [this, obj_setAll]

/-- States that tell the same. -/
structure Eqv (s s' : St) : Prop where
  tm : ∀ t, getA s.tm t = getA s'.tm t
  ob : ∀ o, s.obj o = s'.obj o

theorem Eqv.refl (s : St) : Eqv s s := ⟨fun _ => rfl, fun _ => rfl⟩
theorem Eqv.symm {s s' : St} (h : Eqv s s') : Eqv s' s := ⟨fun t => (h.tm t).symm, fun o => (h.ob o).symm⟩
theorem Eqv.trans {s1 s2 s3 : St} (h : Eqv s1 s2) (k : Eqv s2 s3) : Eqv s1 s3 := ⟨fun t => (h.tm t).trans (k.tm t), fun o => (h.ob o).trans (k.ob o)⟩

theorem Eqv.eff {s s' : St} (h : Eqv s s') (d : Option Nat) (e : Eff) : Eqv (s.eff d e) (s'.eff d e) :=
  ⟨fun t => by rw [eff_tm, eff_tm, h.tm], fun o => by rw [eff_obj, eff_obj, h.ob]⟩

theorem skip_eff (s : St) (d : Option Nat) : s.put d (.tup []) = s.eff d { v := .tup [] } := by
  simp [St.eff, killT, setAll]

theorem step_eff {E : Env} {cf : CallF} {o : IOper} {s s' : St} {rd : List Nat} {e : Eff} (h : step E cf o s = some (s', rd, e)) : s' = s.eff o.d e := by
  unfold step at h
  split at h
  · cases h
  · simp only [Option.some.injEq, Prod.mk.injEq] at h
    obtain ⟨rfl, rfl, rfl⟩ := h
    exact skip_eff s o.d
  · split at h
    · cases h
    · simp only [Option.some.injEq, Prod.mk.injEq] at h
      obtain ⟨rfl, rfl, rfl⟩ := h
      rfl

theorem val_eq {s s' : St} {x : Opr} (h : ∀ t ∈ oprT x, getA s'.tm t = getA s.tm t) : s'.val x = s.val x := by
  cases x with
  | t i => exact h i (by simp [oprT])
  | c v => rfl

theorem step_congr {E : Env} {cf : CallF} {o : IOper} {s s1 s' : St} {rd : List Nat} {e : Eff} (h : step E cf o s = some (s1, rd, e)) (ht : ∀ t ∈ o.tr, getA s'.tm t = getA s.tm t) (ho : ∀ x ∈ rd, s'.obj x = s.obj x) :
    step E cf o s' = some (s'.eff o.d e, rd, e) := by
  have hv : ∀ x ∈ o.op.oprs, s'.val x = s.val x := fun x hx => val_eq (fun t htx => ht t (by simp only [IOper.tr, List.mem_append, List.mem_flatMap]; exact .inl ⟨x, hx, htx⟩))
  have hw : s'.wanted o.g = s.wanted o.g := by
    unfold St.wanted
    cases hg : o.g with
    | none => rfl
    | some p =>
      obtain ⟨t, b⟩ := p
      simp only
      rw [ht t (by simp [IOper.tr, hg])]
  unfold step at h ⊢
  rw [hw]
  split at h
  · cases h
  · rename_i hws
    simp only [Option.some.injEq, Prod.mk.injEq] at h
    obtain ⟨_, rfl, rfl⟩ := h
    rw [skip_eff]
  · rename_i hws
    split at h
    · cases h
    · rename_i e' rd' hr
      simp only [Option.some.injEq, Prod.mk.injEq] at h
      obtain ⟨_, rfl, rfl⟩ := h
      rw [semOp_congr (ρ := s'.val) (ρ' := s.val) hv, run_frame hr ho]

theorem foot_congr {o : IOper} {s s' : St} (ht : ∀ t ∈ o.tr, getA s'.tm t = getA s.tm t) (rd : List Nat) (e : Eff) : footOf o s' rd e = footOf o s rd e := by
  have hv : ∀ x ∈ o.op.oprs, s'.val x = s.val x := fun x hx => val_eq (fun t htx => ht t (by simp only [IOper.tr, List.mem_append, List.mem_flatMap]; exact .inl ⟨x, hx, htx⟩))
  unfold footOf
  have h1 : refsOf s'.val o.op.oprs = refsOf s.val o.op.oprs := by
    unfold refsOf
    have : ∀ l : List Opr, (∀ x ∈ l, s'.val x = s.val x) → (l.flatMap fun x => match s'.val x with | some v => refs v | none => []) = (l.flatMap fun x => match s.val x with | some v => refs v | none => []) := by
      intro l
      induction l with
      | nil => intro _; rfl
      | cons x l ih => intro h; simp only [List.flatMap_cons]; rw [h x (by simp), ih (fun y hy => h y (by simp [hy]))]
    exact this _ hv
  have h2 : (o.op.oprs.any fun x => match s'.val x with | some v => hasDead v | none => true) = (o.op.oprs.any fun x => match s.val x with | some v => hasDead v | none => true) := by
    have : ∀ l : List Opr, (∀ x ∈ l, s'.val x = s.val x) → (l.any fun x => match s'.val x with | some v => hasDead v | none => true) = (l.any fun x => match s.val x with | some v => hasDead v | none => true) := by
      intro l
      induction l with
      | nil => intro _; rfl
      | cons x l ih => intro h; simp only [List.any_cons]; rw [h x (by simp), ih (fun y hy => h y (by simp [hy]))]
    exact this _ hv
  rw [h1]
  congr 1

theorem Ch.get_none {c : Ch} {o : Nat} (h : o ∉ c.map (·.1)) : c.get o = none := by
  induction c with
  | nil => rfl
  | cons x c ih =>
    obtain ⟨k, l⟩ := x
    simp only [List.map_cons, List.mem_cons, not_or] at h
    have : (k == o) = false := by simp; exact fun e => h.1 e.symm
    simp only [Ch.get, this, Bool.false_eq_true, if_false]
    exact ih h.2

theorem disj_spec {a b : List Nat} (h : disj a b = true) : ∀ x ∈ a, x ∉ b := by
  intro x hx hb
  unfold disj at h
  rw [List.all_eq_true] at h
  have := h x hx
  simp [hb] at this

theorem spares_spec {ks : List Kl} {rs : List Rf} (h : spares ks rs = true) : ∀ r ∈ rs, ks.any (·.hits r.o r.k0 r.p) = false := by
  intro r hr
  rw [List.any_eq_false]
  intro k hk
  unfold spares at h
  rw [List.all_eq_true] at h
  have := h k hk
  rw [List.all_eq_true] at this
  simpa using this r hr

theorem guard_val {s : St} {t : Nat} {b : Bool} {c : Bool} (h : s.wanted (some (t, b)) = some c) : ∃ v, getA s.tm t = some v ∧ ((∃ x, v = .lit x) ∨ v = .tup []) := by
  unfold St.wanted at h
  simp only at h
  split at h
  · rename_i x hx; exact ⟨_, hx, .inl ⟨_, rfl⟩⟩
  · rename_i hx; exact ⟨_, hx, .inr rfl⟩
  · cases h

theorem step_wanted {E : Env} {cf : CallF} {o : IOper} {s s1 : St} {rd : List Nat} {e : Eff} (h : step E cf o s = some (s1, rd, e)) : ∃ c, s.wanted o.g = some c := by
  unfold step at h
  split at h
  · cases h
  · rename_i hw; exact ⟨_, hw⟩
  · rename_i hw; exact ⟨_, hw⟩

/-- **Two operations change places.** -/
theorem step_swap {E : Env} {cf : CallF} {a b : IOper} {s s1 s2 : St} {rda rdb : List Nat} {ea eb : Eff} (h1 : step E cf a s = some (s1, rda, ea)) (h2 : step E cf b s1 = some (s2, rdb, eb))
    (hp : Ft.par (footOf a s rda ea) (footOf b s1 rdb eb) = true) :
    ∃ s1' s2', step E cf b s = some (s1', rdb, eb) ∧ step E cf a s1' = some (s2', rda, ea) ∧ Eqv s2' s2 ∧ footOf b s rdb eb = footOf b s1 rdb eb ∧ footOf a s1' rda ea = footOf a s rda ea := by
  have e1 := step_eff h1
  have e2 := step_eff h2
  simp only [Ft.par, Bool.and_eq_true, Bool.or_eq_true] at hp
  obtain ⟨⟨⟨⟨⟨⟨⟨⟨p1, p2⟩, p3⟩, p4⟩, p5⟩, p6⟩, p7⟩, p8⟩, p9⟩ := hp
  have p1 := disj_spec p1
  have p2 := disj_spec p2
  have p3 := disj_spec p3
  have p4 := disj_spec p4
  have p5 := disj_spec p5
  have p6 := disj_spec p6
  have p7 := spares_spec p7
  have p8 := spares_spec p8
  have htb : ∀ t ∈ b.tr, getA s.tm t = getA s1.tm t := by
    intro t ht
    have hne : ¬ a.d = some t := fun hd => p1 t (by simp [footOf, hd]) ht
    have hk := eff_tm s a.d ea t
    rw [if_neg hne, ← e1] at hk
    simp only [IOper.tr, List.mem_append, List.mem_flatMap] at ht
    rcases ht with ⟨x, hx, htx⟩ | ht
    · have hxt : x = .t t := by
        cases x with
        | t i => simp only [oprT, List.mem_singleton] at htx; rw [htx]
        | c v => simp [oprT] at htx
      subst hxt
      rcases p9 with p9 | p9
      · have : ea.kl = [] := by simpa [footOf] using p9
        rw [this] at hk
        rw [hk]
        cases getA s.tm t <;> simp [kill_nil]
      · simp only [footOf, Bool.not_eq_true'] at p9
        rw [List.any_eq_false] at p9
        have := p9 _ hx
        simp only [St.val] at this
        rw [hk] at this ⊢
        cases hg : getA s.tm t with
        | none => rfl
        | some v =>
          rw [hg] at this
          simp only [Option.map_some, Bool.not_eq_true] at this ⊢
          rw [kill_nodead _ _ this]
    · obtain ⟨c, hw⟩ := step_wanted h2
      cases hgb : b.g with
      | none => rw [hgb] at ht; simp at ht
      | some p =>
        obtain ⟨t', bb⟩ := p
        rw [hgb] at ht hw
        simp only [List.mem_singleton] at ht
        subst ht
        obtain ⟨v, hv, hsh⟩ := guard_val hw
        rw [hk] at hv ⊢
        obtain ⟨u, hu, huv⟩ := map_some_inv hv
        rw [hu]
        simp only [Option.map_some, Option.some.injEq]
        rcases hsh with ⟨x, rfl⟩ | rfl
        · exact (kill_nodead _ _ (by rw [huv]; rfl)).symm
        · exact (kill_nodead _ _ (by rw [huv]; rfl)).symm
  have hob : ∀ x ∈ rdb, s.obj x = s1.obj x := by
    intro x hx
    rw [e1, eff_obj, Ch.get_none (c := ea.ch) (fun hm => p4 x (by simpa [footOf] using hm) hx)]
    rfl
  have hb' := step_congr h2 htb hob
  have hfb := foot_congr (s := s1) (s' := s) htb rdb eb
  have hta : ∀ t ∈ a.tr, getA (s.eff b.d eb).tm t = getA s.tm t := by
    intro t ht
    have hne : ¬ b.d = some t := fun hd => p3 t ht (by simp [footOf, hd])
    rw [eff_tm, if_neg hne]
    simp only [IOper.tr, List.mem_append, List.mem_flatMap] at ht
    rcases ht with ⟨x, hx, htx⟩ | ht
    · have hxt : x = .t t := by
        cases x with
        | t i => simp only [oprT, List.mem_singleton] at htx; rw [htx]
        | c v => simp [oprT] at htx
      subst hxt
      cases hg : getA s.tm t with
      | none => rfl
      | some v =>
        simp only [Option.map_some, Option.some.injEq]
        refine kill_spared _ _ (fun r hr => p8 r ?_)
        simp only [footOf, List.mem_append, refsOf, List.mem_flatMap]
        exact .inl ⟨_, hx, by simp only [St.val, hg]; exact hr⟩
    · obtain ⟨c, hw⟩ := step_wanted h1
      cases hga : a.g with
      | none => rw [hga] at ht; simp at ht
      | some p =>
        obtain ⟨t', bb⟩ := p
        rw [hga] at ht hw
        simp only [List.mem_singleton] at ht
        subst ht
        obtain ⟨v, hv, hsh⟩ := guard_val hw
        rw [hv]
        rcases hsh with ⟨x, rfl⟩ | rfl <;> simp [kill, kill.killL]
  have hoa : ∀ x ∈ rda, (s.eff b.d eb).obj x = s.obj x := by
    intro x hx
    rw [eff_obj, Ch.get_none (c := eb.ch) (fun hm => p6 x hx (by simpa [footOf] using hm))]
    rfl
  refine ⟨_, _, hb', step_congr h1 hta hoa, ⟨fun t => ?_, fun o => ?_⟩, hfb, foot_congr hta rda ea⟩
  · rw [eff_tm, eff_tm, e2, e1, eff_tm, eff_tm]
    by_cases ha : a.d = some t
    · have hb : ¬ b.d = some t := fun hd => p2 t (by simp [footOf, ha]) (by simp [footOf, hd])
      simp only [if_pos ha, if_neg hb, Option.map_some, Option.some.injEq]
      refine (kill_spared _ _ (fun r hr => p8 r ?_)).symm
      simp only [footOf, List.mem_append]
      exact .inr hr
    · by_cases hb : b.d = some t
      · simp only [if_neg ha, if_pos hb, Option.map_some, Option.some.injEq]
        refine kill_spared _ _ (fun r hr => p7 r ?_)
        simp only [footOf, List.mem_append]
        exact .inr hr
      · simp only [if_neg ha, if_neg hb]
        cases getA s.tm t with
        | none => rfl
        | some v => simp only [Option.map_some, Option.some.injEq]; exact kill_comm _ _ v
  · rw [eff_obj, eff_obj, e2, e1, eff_obj, eff_obj]
    by_cases hm : o ∈ ea.ch.map (·.1)
    · have hm' : o ∉ eb.ch.map (·.1) := fun h => p5 o (by simpa [footOf] using hm) (by simpa [footOf] using h)
      rw [Ch.get_none hm']; rfl
    · rw [Ch.get_none hm]; rfl

end Go.AM

/- AM, part 29: regions. -/
namespace Go.AM
open GV

section
variable {P : Program} {G : Globs} {cx : Cx} {gob : Nat → List GV} {I : Nat → Prop} {s : St} {a : Act} {w : World}

/-- The machine's state stands for the model's. -/
def Here (cx : Cx) (N : Nat) (s : St) (a : Act) (w : World) : Prop := a.tmps.size = N ∧ ∃ gob I, Inv cx gob I s a w

theorem Here.eqv {N : Nat} {s s' : St} (h : Here cx N s a w) (he : Eqv s s') : Here cx N s' a w := by
  obtain ⟨hN, gob, I, hi⟩ := h
  exact ⟨hN, gob, I, fun o => by rw [← he.ob]; exact hi.era o, hi.sto, fun t v ht => hi.tms t v (by rw [he.tm]; exact ht), hi.def0⟩

theorem Here.drew {N : Nat} (h : Here cx N s a w) (k : Nat) : Here cx N s a { w with drawn := k } := by
  obtain ⟨hN, gob, I, hi⟩ := h
  have hg : Grow w { w with drawn := k } := ⟨rfl, rfl, rfl, Nat.le_refl _, fun _ _ => rfl⟩
  refine ⟨hN, gob, I, hi.era, hi.sto.grow hg (fun _ h => h) (fun _ h => .inl h) hi.sto.Ilt, fun t v ht => ?_, hi.def0⟩
  obtain ⟨x, hx, hv⟩ := hi.tms t v ht
  exact ⟨x, hx, hv.mono (fun _ hb => ⟨hb, rfl⟩) (fun _ _ h => h)⟩

theorem put_size (a : Act) (d : Option Tmp) (x : Value) : (a.put d x).tmps.size = a.tmps.size := by
  cases d <;> simp [Act.put]

/-- What the model asks of one operation of a region. -/
def wpStep (P : Program) (ops : Array Oper) (o : Oper) (a : Act) (w : World) (K : Act → World → Prop) (Q : Exit → Act → World → Prop) : Prop :=
  if Region.wanted o (yielded ops a.tmps) then o.wp P a w K Q else K (a.put o.dst undef) w

theorem guard_yield {N : Nat} {ops : Array Oper} {o : Oper} {g : Option (Nat × Bool)} (hg : cGuard ops o.guard = some g) (h : Inv cx gob I s a w) {c : Bool} (hw : s.wanted g = some c) : Region.wanted o (yielded ops a.tmps) = c := by
  unfold cGuard at hg
  unfold Region.wanted
  split at hg
  · rename_i hog
    simp only [Option.some.injEq] at hg; subst hg
    simp only [St.wanted, Option.some.injEq] at hw
    rw [hog]; exact hw
  · rename_i j b hog
    obtain ⟨t, ht, rfl⟩ := map_some_inv hg
    rw [hog]
    simp only [yielded, ht, Option.bind_some]
    simp only [St.wanted] at hw
    split at hw
    · rename_i cc hcc
      simp only [Option.some.injEq] at hw; subst hw
      obtain ⟨x, hx, hv⟩ := h.tms t _ hcc
      have := hv.lit_inv.1
      subst this
      rw [hx]
      simp only
      cases cc <;> cases b <;> rfl
    · rename_i hcc
      simp only [Option.some.injEq] at hw; subst hw
      obtain ⟨x, hx, hv⟩ := h.tms t _ hcc
      obtain ⟨xs, hxs, hvs⟩ := hv.tup_inv
      subst hxs
      rw [hx]
      rfl
    · cases hw

/-- One step. -/
theorem step_sound {E : Env} {cf : CallF} (hG : GlobOK G cx) (hcf : ∀ f args r, cf f args = some r → CallOK P G f args r) {N : Nat} {ops : Array Oper} {draw : Bool} {o : Oper} {io : IOper} (hc : compOper P G ops draw o = some io)
    (hd : ∀ d, io.d = some d → d < N) (h : Here cx N s a w) {s' : St} {rd : List Nat} {e : Eff} (hs : step E cf io s = some (s', rd, e)) {K : Act → World → Prop} {Q : Exit → Act → World → Prop} (hK : ∀ a' w', Here cx N s' a' w' → K a' w') : wpStep P ops o a w K Q := by
  obtain ⟨hN, gob, I, hi⟩ := h
  unfold compOper at hc
  obtain ⟨g, hg, rfl⟩ := map_some_inv hc
  have hse := step_eff hs
  have hdd : ∀ t, o.dst = some t → t < a.tmps.size := fun t ht => by rw [hN]; exact hd t ht
  unfold wpStep
  unfold step at hs
  split at hs
  · cases hs
  · rename_i hw
    rw [guard_yield (N := N) hg hi hw]
    simp only [Option.some.injEq, Prod.mk.injEq] at hs
    obtain ⟨_, _, rfl⟩ := hs
    simp only [Bool.false_eq_true, if_false]
    refine hK _ _ ⟨by rw [put_size]; exact hN, gob, I, ?_⟩
    rw [hse]
    exact hi.eff (OpPost.pure hi.sto Val.nothing) hdd
  · rename_i hw
    rw [guard_yield (N := N) hg hi hw]
    simp only [if_true]
    split at hs
    · cases hs
    · rename_i e' rd' hr
      simp only [Option.some.injEq, Prod.mk.injEq] at hs
      obtain ⟨_, rfl, rfl⟩ := hs
      have hcomp : ∃ iop, compOp P G o.op = some iop ∧ (semOp E cf (keyOf o.dst) iop s.val).run s.obj [] = some (e', rd') := by
        cases hco : compOp P G o.op with
        | none =>
          rw [hco] at hr
          simp only [Option.getD_none, semOp] at hr
          exact (run_fail hr).elim
        | some iop =>
          rw [hco] at hr
          exact ⟨iop, rfl, hr⟩
      obtain ⟨iop, hco, hr⟩ := hcomp
      refine op_sound hG hi hcf hco hr K Q (fun x w' gob' I' hp => hK _ _ ⟨by rw [put_size]; exact hN, gob', I', ?_⟩)
      rw [hse]
      exact hi.eff hp hdd

theorem compOpers_get {ops : Array Oper} {draw : Bool} : ∀ {l : List Oper} {il : List IOper}, compOpers P G ops draw l = some il → il.length = l.length ∧ ∀ (i : Nat) (o : Oper), l[i]? = some o → ∃ io, il[i]? = some io ∧ compOper P G ops draw o = some io
  | [], il, h => by simp only [compOpers, Option.some.injEq] at h; subst h; simp
  | o :: l, il, h => by
    simp only [compOpers] at h
    obtain ⟨io, hio, h⟩ := bind_some_inv h
    obtain ⟨r, hr, rfl⟩ := map_some_inv h
    obtain ⟨h1, h2⟩ := compOpers_get hr
    refine ⟨by simp [h1], fun i o' hi => ?_⟩
    cases i with
    | zero => simp only [List.getElem?_cons_zero, Option.some.injEq] at hi; subst hi; exact ⟨io, rfl, hio⟩
    | succ i => simp only [List.getElem?_cons_succ] at hi ⊢; exact h2 i o' hi

theorem ops_sound {E : Env} {cf : CallF} (hG : GlobOK G cx) (hcf : ∀ f args r, cf f args = some r → CallOK P G f args r) {N : Nat} {ops : Array Oper} {draw : Bool} {Q : Exit → Act → World → Prop} : ∀ (l : List Oper) (k : Nat) (il : List IOper) {s s' : St} {a : Act} {w : World},
    (∀ j o, l[j]? = some o → ops[k + j]? = some o) → compOpers P G ops draw l = some il → (∀ io ∈ il, ∀ d, io.d = some d → d < N) → Here cx N s a w → evOps E cf il s = some s' → (∀ a' w', Here cx N s' a' w' → Q .normal a' w') →
    wpOps P ops Q (List.range' k l.length) a w
  | [], k, il, s, s', a, w, _, hc, _, h, hs, hQ => by
    simp only [compOpers, Option.some.injEq] at hc; subst hc
    simp only [evOps, Option.some.injEq] at hs; subst hs
    exact hQ a w h
  | o :: l, k, il, s, s', a, w, hl, hc, hd, h, hs, hQ => by
    simp only [compOpers] at hc
    obtain ⟨io, hio, hc⟩ := bind_some_inv hc
    obtain ⟨r, hr, rfl⟩ := map_some_inv hc
    simp only [evOps] at hs
    split at hs
    · rename_i s1 q hst
      obtain ⟨rd, e⟩ := q
      have ho : ops[k]? = some o := hl 0 o rfl
      simp only [List.length_cons, List.range'_succ, wpOps, ho]
      have := step_sound (Q := Q) hG hcf hio (hd io (by simp)) h hst (K := wpOps P ops Q (List.range' (k + 1) l.length)) (fun a' w' h' =>
        ops_sound hG hcf l (k + 1) r (fun j o' hj => by have := hl (j + 1) o' (by simpa using hj); rw [show k + 1 + j = k + (j + 1) by omega]; exact this) hr (fun io' hio' => hd io' (by simp [hio'])) h' hs hQ)
      unfold wpStep at this
      split
      · rename_i hw; rw [if_pos hw] at this; exact .inl this
      · rename_i hw; rw [if_neg hw] at this; exact this
    · cases hs

/-- Operations one behind the other, by their places, with what each touched. -/
inductive Runs (E : Env) (cf : CallF) (il : List IOper) : List (Nat × Ft) → St → St → Prop where
  | nil (s s' : St) : Eqv s s' → Runs E cf il [] s s'
  | cons (i : Nat) (ft : Ft) (rest : List (Nat × Ft)) (io : IOper) (rd : List Nat) (e : Eff) (s s1 s2 : St) : il[i]? = some io → step E cf io s = some (s1, rd, e) → ft = footOf io s rd e → Runs E cf il rest s1 s2 → Runs E cf il ((i, ft) :: rest) s s2

theorem Runs.eqv {E : Env} {cf : CallF} {il : List IOper} {l : List (Nat × Ft)} {s s' s2 : St} (h : Runs E cf il l s s2) (he : Eqv s s') : Runs E cf il l s' s2 := by
  induction h generalizing s' with
  | nil s s2 h => exact .nil _ _ (he.symm.trans h)
  | cons i ft rest io rd e s s1 s2 hi hst hft _ ih =>
    have hst' := step_congr hst (s' := s') (fun t _ => (he.tm t).symm) (fun x _ => (he.ob x).symm)
    refine .cons i ft rest io rd e s' _ s2 hi hst' ?_ (ih ?_)
    · rw [hft, foot_congr (s := s) (s' := s') (fun t _ => (he.tm t).symm)]
    · rw [step_eff hst]; exact he.eff _ _

theorem Runs.swap {E : Env} {cf : CallF} {il : List IOper} {i j : Nat} {fi fj : Ft} {l : List (Nat × Ft)} {s s2 : St} (h : Runs E cf il ((i, fi) :: (j, fj) :: l) s s2) (hp : Ft.par fi fj = true) : Runs E cf il ((j, fj) :: (i, fi) :: l) s s2 := by
  cases h with
  | cons _ _ _ ioi rdi ei _ s1 _ hi hsti hfi h =>
    cases h with
    | cons _ _ _ ioj rdj ej _ s3 _ hj hstj hfj h =>
      subst hfi
      subst hfj
      obtain ⟨t1, t2, q1, q2, q3, q4, q5⟩ := step_swap hsti hstj hp
      exact .cons j _ _ ioj rdj ej s t1 s2 hj q1 q4.symm (.cons i _ _ ioi rdi ei t1 t2 s2 hi q2 q5.symm (h.eqv q3.symm))

theorem Runs.pull {E : Env} {cf : CallF} {il : List IOper} {i : Nat} {f : Ft} : ∀ (pre : List (Nat × Ft)) {post : List (Nat × Ft)} {s s2 : St}, Runs E cf il (pre ++ (i, f) :: post) s s2 → (∀ x ∈ pre, Ft.par x.2 f = true) → Runs E cf il ((i, f) :: (pre ++ post)) s s2
  | [], post, s, s2, h, _ => h
  | (j, g) :: pre, post, s, s2, h, hp => by
    simp only [List.cons_append] at h ⊢
    cases h with
    | cons _ _ _ io rd e _ s1 _ hj hst hft h =>
      have := Runs.pull pre h (fun x hx => hp x (by simp [hx]))
      exact (Runs.cons j g _ io rd e s s1 s2 hj hst hft this).swap (hp (j, g) (by simp))

/-- What a drawn region was found to be. -/
theorem evDraw_spec {E : Env} {cf : CallF} {il : List IOper} {s' : St} : ∀ (l : List IOper) (anc : List (List Nat)) (fts : List Ft) {s : St}, anc.length = fts.length → (∀ j io, l[j]? = some io → il[fts.length + j]? = some io) → evDraw E cf l anc fts s = some s' →
    ∃ anc' fts', anc'.length = l.length ∧ fts'.length = l.length ∧ Runs E cf il ((List.range' fts.length l.length).zip fts') s s' ∧
      (∀ i io, l[i]? = some io → (∀ j ∈ io.aft, j < fts.length + i) ∧ (anc ++ anc')[fts.length + i]? = some (ancs (anc ++ anc') io.aft)) ∧
      (∀ i j fi fj an, j < i → (fts ++ fts')[j]? = some fj → fts'[i - fts.length]? = some fi → fts.length ≤ i → (anc ++ anc')[i]? = some an → j ∈ an ∨ Ft.par fj fi = true)
  | [], anc, fts, s, hl, _, h => by
    simp only [evDraw, Option.some.injEq] at h; subst h
    exact ⟨[], [], rfl, rfl, .nil _ _ (Eqv.refl _), by simp, by simp⟩
  | o :: os, anc, fts, s, hl, hil, h => by
    simp only [evDraw] at h
    split at h
    · cases h
    · rename_i s1 rd e hst
      split at h
      · rename_i hc
        simp only [Bool.and_eq_true, List.all_eq_true, decide_eq_true_eq] at hc
        obtain ⟨haft, hpar⟩ := hc
        obtain ⟨anc', fts', q1, q2, q3, q4, q5⟩ := evDraw_spec os (anc ++ [ancs anc o.aft]) (fts ++ [footOf o s rd e]) (by simp [hl]) (fun j io hj => by
          have := hil (j + 1) io (by simpa using hj)
          rw [List.length_append, List.length_singleton, show fts.length + 1 + j = fts.length + (j + 1) by omega]; exact this) h
        have hancs : ∀ (aft : List Nat), (∀ j ∈ aft, j < anc.length) → ∀ ext, ancs (anc ++ ext) aft = ancs anc aft := by
          intro aft hlt ext
          unfold ancs
          congr 1
          have : ∀ l : List Nat, (∀ j ∈ l, j < anc.length) → (l.flatMap fun j => (anc ++ ext).getD j []) = l.flatMap fun j => anc.getD j [] := by
            intro l
            induction l with
            | nil => intro _; rfl
            | cons x l ih =>
              intro hx
              simp only [List.flatMap_cons]
              rw [ih (fun j hj => hx j (by simp [hj]))]
              congr 1
              simp only [List.getD_eq_getElem?_getD]
              rw [List.getElem?_append_left (hx x (by simp))]
          exact this aft hlt
        refine ⟨ancs anc o.aft :: anc', footOf o s rd e :: fts', by simp [q1], by simp [q2], ?_, ?_, ?_⟩
        · simp only [List.length_cons, List.range'_succ, List.zip_cons_cons]
          refine .cons _ _ _ o rd e s s1 s' (hil 0 o rfl) hst rfl ?_
          simpa [List.length_append] using q3
        · intro i io hi
          cases i with
          | zero =>
            simp only [List.getElem?_cons_zero, Option.some.injEq] at hi; subst hi
            refine ⟨fun j hj => by have := haft j hj; omega, ?_⟩
            rw [Nat.add_zero, List.getElem?_append_right (by omega), hl, Nat.sub_self, hancs _ haft]; rfl
          | succ i =>
            simp only [List.getElem?_cons_succ] at hi
            obtain ⟨r1, r2⟩ := q4 i io hi
            simp only [List.length_append, List.length_singleton, List.append_assoc, List.singleton_append] at r1 r2
            exact ⟨fun j hj => by have := r1 j hj; omega, by rw [show fts.length + (i + 1) = fts.length + 1 + i by omega]; exact r2⟩
        · intro i j fi fj an hji hfj hfi hle han
          by_cases hi0 : i = fts.length
          · subst hi0
            rw [Nat.sub_self, List.getElem?_cons_zero, Option.some.injEq] at hfi
            subst hfi
            rw [← hl, List.getElem?_append_right (Nat.le_refl _), Nat.sub_self, List.getElem?_cons_zero, Option.some.injEq] at han
            subst han
            rw [List.getElem?_append_left hji] at hfj
            have : ∀ (k : Nat) (fs : List Ft), parAll (footOf o s rd e) (ancs anc o.aft) k fs = true → ∀ m f, fs[m]? = some f → (k + m) ∈ ancs anc o.aft ∨ Ft.par f (footOf o s rd e) = true := by
              intro k fs
              induction fs generalizing k with
              | nil => intro _ m f hf; simp at hf
              | cons x fs ih =>
                intro hp m f hf
                simp only [parAll, Bool.and_eq_true, Bool.or_eq_true] at hp
                cases m with
                | zero =>
                  simp only [List.getElem?_cons_zero, Option.some.injEq] at hf; subst hf
                  rcases hp.1 with h' | h'
                  · exact .inl (by simpa using h')
                  · exact .inr h'
                | succ m =>
                  simp only [List.getElem?_cons_succ] at hf
                  have := ih (k + 1) hp.2 m f hf
                  rw [show k + (m + 1) = k + 1 + m by omega]; exact this
            have := this 0 fts hpar j fj hfj
            rwa [Nat.zero_add] at this
          · have hle' : fts.length + 1 ≤ i := by omega
            refine q5 i j fi fj an hji ?_ ?_ (by simpa using hle') (by simpa using han)
            · simpa using hfj
            · rw [List.length_append, List.length_singleton]
              rw [show i - fts.length = (i - (fts.length + 1)) + 1 by omega, List.getElem?_cons_succ] at hfi
              exact hfi
      · cases h

end
end Go.AM

/- AM, part 30: regions whose order is open. -/
namespace Go.AM
open GV

section
variable {P : Program} {G : Globs} {cx : Cx}

theorem mem_ready {ops : Array Oper} {listed : Array Bool} {i : Nat} (h : i ∈ Region.ready .any ops listed) : listed.getD i true = false ∧ ∃ o, ops[i]? = some o ∧ ∀ e ∈ o.after, Region.binds .any e = true → listed.getD e.on false = true := by
  unfold Region.ready at h
  simp only [List.mem_filter, List.mem_range, Bool.and_eq_true, Bool.not_eq_true'] at h
  obtain ⟨hlt, h1, h2⟩ := h
  refine ⟨h1, ops[i], Array.getElem?_eq_getElem hlt, fun e he hb => ?_⟩
  rw [Array.getElem?_eq_getElem hlt] at h2
  simp only [Option.map_some, Option.getD_some, Array.all_eq_true_iff_forall_mem, Bool.or_eq_true, Bool.not_eq_true'] at h2
  rcases h2 e he with h' | h'
  · rw [hb] at h'; cases h'
  · exact h'

theorem ready_mem {ops : Array Oper} {listed : Array Bool} {i : Nat} {o : Oper} (hu : listed.getD i true = false) (ho : ops[i]? = some o) (ha : ∀ e ∈ o.after, Region.binds .any e = true → listed.getD e.on false = true) : i ∈ Region.ready .any ops listed := by
  have hlt : i < ops.size := (Array.getElem?_eq_some_iff.1 ho).1
  unfold Region.ready
  simp only [List.mem_filter, List.mem_range, Bool.and_eq_true, Bool.not_eq_true']
  refine ⟨hlt, hu, ?_⟩
  rw [ho]
  simp only [Option.map_some, Option.getD_some, Array.all_eq_true_iff_forall_mem, Bool.or_eq_true, Bool.not_eq_true']
  intro e he
  cases hb : Region.binds .any e with
  | false => exact .inl rfl
  | true => exact .inr (ha e he hb)

theorem mem_cAft {a : Array Edge} {j : Nat} : j ∈ cAft a ↔ ∃ e ∈ a, Region.binds .any e = true ∧ e.on = j := by
  unfold cAft
  simp only [List.mem_eraseDups, List.mem_map, List.mem_filter, Array.mem_toList_iff]
  constructor
  · rintro ⟨e, ⟨h1, h2⟩, h3⟩; exact ⟨e, h1, h2, h3⟩
  · rintro ⟨e, h1, h2, h3⟩; exact ⟨e, ⟨h1, h2⟩, h3⟩

theorem getD_set {l : Array Bool} {i j : Nat} {d : Bool} (hi : i < l.size) : (l.setIfInBounds i true).getD j d = if j = i then true else l.getD j d := by
  simp only [Array.getD_eq_getD_getElem?, Array.getElem?_setIfInBounds]
  by_cases h : i = j
  · subst h; simp [hi]
  · have : ¬ j = i := fun e => h e.symm
    simp [h, this]

theorem wpAny_runs {E : Env} {cf : CallF} (hG : GlobOK G cx) (hcf : ∀ f args r, cf f args = some r → CallOK P G f args r) {N : Nat} {ops : Array Oper} {il : List IOper} (hcomp : compOpers P G ops true ops.toList = some il)
    (hd : ∀ io ∈ il, ∀ d, io.d = some d → d < N) {Q : Exit → Act → World → Prop} {s' : St} (hQ : ∀ a w, Here cx N s' a w → Q .normal a w) {anc : List (List Nat)} {fts : List Ft}
    (h4 : ∀ (i : Nat) (io : IOper), il[i]? = some io → (∀ j ∈ io.aft, j < i) ∧ anc[i]? = some (ancs anc io.aft))
    (h5 : ∀ (i j : Nat) (fi fj : Ft) (an : List Nat), j < i → fts[j]? = some fj → fts[i]? = some fi → anc[i]? = some an → j ∈ an ∨ Ft.par fj fi = true) :
    ∀ (n : Nat) (R : List (Nat × Ft)), R.length = n → ∀ (listed : Array Bool) (a : Act) (w : World) (s : St), Runs E cf il R s s' → Here cx N s a w → listed.size = ops.size → (∀ i, listed.getD i true = false ↔ i ∈ R.map (·.1)) →
    (∀ k, listed.getD k false = true → ∀ an, anc[k]? = some an → ∀ j ∈ an, listed.getD j false = true) → R.Pairwise (fun x y => x.1 < y.1) → (∀ x ∈ R, fts[x.1]? = some x.2) → wpAny P .any ops Q n listed a w := by
  have hlt : ∀ {listed : Array Bool} {i : Nat}, listed.getD i true = false → i < listed.size := by
    intro listed i h
    rcases Nat.lt_or_ge i listed.size with h' | h'
    · exact h'
    · simp [Array.getD_eq_getD_getElem?, Array.getElem?_eq_none h'] at h
  have hor : ∀ (listed : Array Bool) (i : Nat), i < listed.size → listed.getD i true = false ∨ listed.getD i false = true := by
    intro listed i hi
    simp only [Array.getD_eq_getD_getElem?, Array.getElem?_eq_getElem hi, Option.getD_some]
    cases listed[i] <;> simp
  have hex : ∀ (listed : Array Bool) (i : Nat), listed.getD i true = false → listed.getD i false = true → False := by
    intro listed i h1 h2
    have hi := hlt h1
    simp only [Array.getD_eq_getD_getElem?, Array.getElem?_eq_getElem hi, Option.getD_some] at h1 h2
    rw [h1] at h2; cases h2
  intro n
  induction n with
  | zero =>
    intro R hR listed a w s hr hh hls hU hC hS hF
    have : R = [] := List.length_eq_zero_iff.1 hR
    subst this
    cases hr with
    | nil _ _ he =>
      refine ⟨?_, hQ a w (hh.eqv he)⟩
      cases hrd : Region.ready .any ops listed with
      | nil => rfl
      | cons i l =>
        have := (mem_ready (ops := ops) (listed := listed) (i := i) (by rw [hrd]; simp)).1
        have := (hU i).1 this
        simp at this
  | succ n ih =>
    intro R hR listed a w s hr hh hls hU hC hS hF
    have hops : ∀ i, i ∈ R.map (·.1) → ∃ o io, ops[i]? = some o ∧ il[i]? = some io ∧ compOper P G ops true o = some io := by
      intro i hi
      have hil : i < ops.size := hls ▸ hlt ((hU i).2 hi)
      have ho : ops[i]? = some ops[i] := Array.getElem?_eq_getElem hil
      obtain ⟨io, hio, hc⟩ := (compOpers_get hcomp).2 i ops[i] (by rw [Array.getElem?_toList]; exact ho)
      exact ⟨_, io, ho, hio, hc⟩
    have haft : ∀ {o : Oper} {io : IOper}, compOper P G ops true o = some io → io.aft = cAft o.after := by
      intro o io hc
      unfold compOper at hc
      obtain ⟨g, _, rfl⟩ := map_some_inv hc
      rfl
    refine ⟨fun hnil => ?_, fun i hi => ?_⟩
    · exfalso
      cases R with
      | nil => simp at hR
      | cons x R =>
        obtain ⟨i0, f0⟩ := x
        obtain ⟨o, io, ho, hio, hc⟩ := hops i0 (by simp)
        have : i0 ∈ Region.ready .any ops listed := by
          refine ready_mem ((hU i0).2 (by simp)) ho (fun e he hb => ?_)
          have hj : e.on ∈ io.aft := by rw [haft hc]; exact mem_cAft.2 ⟨e, he, hb, rfl⟩
          have hlt' := (h4 i0 io hio).1 _ hj
          have hi0 : i0 < ops.size := (Array.getElem?_eq_some_iff.1 ho).1
          rcases hor listed e.on (by omega) with h' | h'
          · have := (hU e.on).1 h'
            simp only [List.map_cons, List.mem_cons] at this
            rcases this with h'' | h''
            · omega
            · obtain ⟨y, hy, hye⟩ := List.mem_map.1 h''
              have := (List.pairwise_cons.1 hS).1 y hy
              simp only at this hye
              omega
          · exact h'
        rw [hnil] at this; cases this
    · obtain ⟨hu, o, ho, haf⟩ := mem_ready hi
      have hiR := (hU i).1 hu
      obtain ⟨o', io, ho', hio, hc⟩ := hops i hiR
      rw [ho] at ho'; simp only [Option.some.injEq] at ho'; subst ho'
      obtain ⟨x, hx, hxi⟩ := List.mem_map.1 hiR
      obtain ⟨i', f⟩ := x
      simp only at hxi; subst hxi
      obtain ⟨pre, post, rfl⟩ := List.append_of_mem hx
      have hanc := (h4 i' io hio).2
      have hancL : ∀ j ∈ ancs anc io.aft, listed.getD j false = true := by
        intro j hj
        unfold ancs at hj
        have haL : ∀ k ∈ io.aft, listed.getD k false = true := fun k hk => by
          rw [haft hc] at hk
          obtain ⟨e, he, hb, rfl⟩ := mem_cAft.1 hk
          exact haf e he hb
        simp only [List.mem_append, List.mem_flatMap] at hj
        rcases hj with hj | ⟨k, hk, hj⟩
        · exact haL j hj
        · rw [List.getD_eq_getElem?_getD] at hj
          cases hak : anc[k]? with
          | none => rw [hak] at hj; simp at hj
          | some an => rw [hak] at hj; exact hC k (haL k hk) an hak j hj
      have hpre : ∀ y ∈ pre, Ft.par y.2 f = true := by
        intro y hy
        have hlt' : y.1 < i' := (List.pairwise_append.1 hS).2.2 y hy (i', f) (by simp)
        rcases h5 i' y.1 f y.2 _ hlt' (hF y (by simp [hy])) (hF (i', f) (by simp)) hanc with h' | h'
        · exact (hex listed y.1 ((hU y.1).2 (by simp only [List.map_append, List.mem_append]; exact .inl (List.mem_map_of_mem hy))) (hancL _ h')).elim
        · exact h'
      have hrp := hr.pull pre hpre
      cases hrp with
      | cons _ _ _ io2 rd e _ s1 _ hi2 hst hft hrest =>
        rw [hio] at hi2; simp only [Option.some.injEq] at hi2; subst hi2
        have hmem : io ∈ il := List.mem_of_getElem? hio
        have hi's : i' < listed.size := hlt hu
        have hK := step_sound (Q := Q) hG hcf hc (hd io hmem) hh hst (K := wpAny P .any ops Q n (listed.setIfInBounds i' true)) (fun a' w' h' => by
          refine ih (pre ++ post) (by simp at hR ⊢; omega) (listed.setIfInBounds i' true) a' w' s1 hrest h' (by simpa using hls) (fun j => ?_) (fun k hk an han j hj => ?_) ?_ (fun y hy => hF y (by
            rcases List.mem_append.1 hy with h'' | h''
            · simp [h'']
            · simp [h'']))
          · rw [getD_set hi's]
            have hnot : i' ∉ (pre ++ post).map (·.1) := by
              intro hm
              obtain ⟨y, hy, hye⟩ := List.mem_map.1 hm
              rcases List.mem_append.1 hy with h'' | h''
              · have := (List.pairwise_append.1 hS).2.2 y h'' (i', f) (by simp)
                simp only at this hye; omega
              · have := (List.pairwise_cons.1 (List.pairwise_append.1 hS).2.1).1 y h''
                simp only at this hye; omega
            by_cases hji : j = i'
            · subst hji
              simp only [if_true, Bool.true_eq_false, false_iff]
              exact hnot
            · rw [if_neg hji, hU j]
              simp only [List.map_append, List.map_cons, List.mem_append, List.mem_cons, hji, false_or]
          · rw [getD_set hi's] at hk ⊢
            by_cases hji : j = i'
            · rw [if_pos hji]
            · rw [if_neg hji]
              by_cases hki : k = i'
              · subst hki
                rw [hanc] at han
                simp only [Option.some.injEq] at han
                subst han
                exact hancL j hj
              · rw [if_neg hki] at hk
                exact hC k hk an han j hj
          · rw [List.pairwise_append] at hS ⊢
            exact ⟨hS.1, (List.pairwise_cons.1 hS.2.1).2, fun x hx y hy => hS.2.2 x hx y (by simp [hy])⟩)
        unfold wpStep at hK
        unfold wpOp
        simp only [ho]
        split
        · rename_i hw; rw [if_pos hw] at hK; exact .inl hK
        · rename_i hw; rw [if_neg hw] at hK; exact hK

theorem draw_sound {E : Env} {cf : CallF} (hG : GlobOK G cx) (hcf : ∀ f args r, cf f args = some r → CallOK P G f args r) {N : Nat} {ops : Array Oper} {il : List IOper} (hcomp : compOpers P G ops true ops.toList = some il)
    (hd : ∀ io ∈ il, ∀ d, io.d = some d → d < N) {Q : Exit → Act → World → Prop} {s s' : St} (hs : evDraw E cf il [] [] s = some s') {a : Act} {w : World} (h : Here cx N s a w) (hQ : ∀ a w, Here cx N s' a w → Q .normal a w) :
    wpAny P .any ops Q ops.size (Array.replicate ops.size false) a w := by
  obtain ⟨anc, fts, q1, q2, q3, q4, q5⟩ := evDraw_spec (il := il) il [] [] rfl (fun j io hj => by simpa using hj) hs
  have hlen : il.length = ops.size := by rw [(compOpers_get hcomp).1, Array.length_toList]
  simp only [List.length_nil, List.nil_append, Nat.zero_add, Nat.sub_zero] at q3 q4 q5
  have hmap : ((List.range' 0 il.length).zip fts).map (·.1) = List.range' 0 il.length := by
    rw [List.map_fst_zip]; simp [q2]
  refine wpAny_runs hG hcf hcomp hd hQ (anc := anc) (fts := fts) q4 (fun i j fi fj an hji hfj hfi han => q5 i j fi fj an hji hfj hfi (Nat.zero_le _) han) ops.size _ (by simp [q2, hlen]) _ a w s q3 h (by simp) (fun i => ?_) (fun k hk => ?_) ?_ (fun x hx => ?_)
  · rw [hmap, List.mem_range']
    simp only [Array.getD_eq_getD_getElem?, Array.getElem?_replicate]
    constructor
    · intro hh
      split at hh
      · rename_i hi; exact ⟨i, by omega, by omega⟩
      · simp at hh
    · rintro ⟨k, hk, rfl⟩
      rw [if_pos (by omega)]; rfl
  · simp only [Array.getD_eq_getD_getElem?, Array.getElem?_replicate] at hk
    split at hk <;> simp at hk
  · have : ((List.range' 0 il.length).zip fts).Pairwise (fun x y => x.1 < y.1) := by
      have hp : (((List.range' 0 il.length).zip fts).map (·.1)).Pairwise (· < ·) := by rw [hmap]; exact List.pairwise_lt_range'
      exact (List.pairwise_map.1 hp)
    exact this
  · obtain ⟨k, hk⟩ := List.mem_iff_getElem?.1 hx
    obtain ⟨i, f⟩ := x
    rw [List.getElem?_zip_eq_some] at hk
    obtain ⟨h1, h2⟩ := hk
    rw [List.getElem?_range'] at h1
    · simp only [Nat.zero_add, Nat.one_mul, Option.some.injEq] at h1
      subst h1; exact h2
    · have := lt_of_get h1; simpa using this

end
end Go.AM

/- AM, part 31: the code. -/
namespace Go.AM
open GV

section
variable {P : Program} {G : Globs} {cx : Cx}

theorem HV.refs {w : World} {I : Nat → Prop} {K : Nat → Nat → Prop} {R R' : AV → Value → Prop} {g : GV} (h : HV w I K R g) (hr : ∀ a v, R a v → (∀ r ∈ AM.refs a, r ∈ AM.refs g.era) → R' a v) : HV w I K R' g := by
  have list : ∀ (l : List GV) (c : GV), c ∈ l → ∀ r ∈ AM.refs c.era, r ∈ AM.refs.refsL (era.eraL l) := by
    intro l
    induction l with
    | nil => intro c hc; cases hc
    | cons a l ih =>
      intro c hc r hr
      simp only [GV.era.eraL, AM.refs.refsL, List.mem_append]
      rcases List.mem_cons.1 hc with rfl | hc
      · exact .inl hr
      · exact .inr (ih c hc r hr)
  induction h with
  | tree g h => exact .tree g h
  | ref a v h => exact .ref a v (hr a v h (fun _ h => h))
  | agg cs _ hl ih => exact .agg cs (fun c hc => ih c hc (fun a v h hs => hr a v h (fun r hr' => by simp only [GV.era, AM.refs]; exact list cs c hc r (hs r hr')))) hl
  | tup cs _ ih => exact .tup cs (fun c hc => ih c hc (fun a v h hs => hr a v h (fun r hr' => by simp only [GV.era, AM.refs]; exact list cs c hc r (hs r hr'))))
  | fn f x y _ _ ihx ihy =>
    exact .fn f x y (fun c hc => ihx c hc (fun a v h hs => hr a v h (fun r hr' => by simp only [GV.era, AM.refs, List.mem_append]; exact .inl (list x c hc r (hs r hr')))))
      (fun c hc => ihy c hc (fun a v h hs => hr a v h (fun r hr' => by simp only [GV.era, AM.refs, List.mem_append]; exact .inr (list y c hc r (hs r hr')))))

theorem getA_mem {α : Type} {l : List (Nat × α)} {t : Nat} {v : α} (h : getA l t = some v) : (t, v) ∈ l := by
  induction l with
  | nil => simp [getA] at h
  | cons x l ih =>
    obtain ⟨k, y⟩ := x
    simp only [getA] at h
    split at h
    · rename_i hk
      simp only [beq_iff_eq] at hk; subst hk
      simp only [Option.some.injEq] at h; subst h
      exact List.mem_cons_self
    · exact List.mem_cons_of_mem _ (ih h)

theorem getA_filter (p : Nat → Bool) (l : List (Nat × List AV)) (o : Nat) : getA (l.filter fun x => p x.1) o = if p o then getA l o else none := by
  induction l with
  | nil => simp [getA]
  | cons x l ih =>
    obtain ⟨k, y⟩ := x
    simp only [List.filter_cons]
    by_cases hk : k = o
    · subst hk
      cases hp : p k with
      | true => simp [getA]
      | false => simp [ih, hp]
    · have hko : (k == o) = false := by simpa using hk
      cases hp : p k with
      | true => simp [getA, hko, ih]
      | false => simp [getA, hko, ih]

theorem StoF.forget {gob : Nat → List GV} {I : Nat → Prop} {w : World} (h : Sto cx gob I w) (p : Nat → Bool) : Sto cx (fun o => if p o then gob o else []) I w := by
  have sub : ∀ o b, b ∈ own.ownL (if p o then gob o else []) → b ∈ own.ownL (gob o) := by
    intro o b hb
    cases hp : p o with
    | true => simpa [hp] using hb
    | false => simp [hp, GV.own.ownL] at hb
  exact { h with
    nod := fun o => by
      cases hp : p o with
      | true => simpa [hp] using h.nod o
      | false => simp [GV.own.ownL]
    dis := fun o o' b ho hb hb' => h.dis o o' b ho (sub o b hb) (sub o' b hb')
    hol := fun o g hg => by
      cases hp : p o with
      | true => exact h.hol o g (by simpa [hp] using hg)
      | false => simp [hp] at hg
    nI := fun o b hb => h.nI o b (sub o b hb)
    fdis := fun o b hb hb' => h.fdis o b hb (sub o b hb')
    org := fun o b hb => h.org o b (sub o b hb) }

theorem RefOK.keep {gob : Nat → List GV} {p : Nat → Bool} {a : AV} {v : Value} (h : RefOK gob a v) (hp : ∀ r ∈ refs a, p r.o = true) : RefOK (fun o => if p o then gob o else []) a v := by
  cases h with
  | s o k0 q off n m fl sz es b off0 cap0 cap h1 h2 h3 h4 =>
    have := hp ⟨o, k0, q⟩ (by simp [refs])
    simp only at this
    exact .s o k0 q off n m fl sz es b off0 cap0 cap (by simpa [this] using h1) h2 h3 h4
  | ps o k0 q i k m fl sz es b off0 cap0 h1 h2 =>
    have := hp ⟨o, k0, q⟩ (by simp [refs])
    simp only at this
    exact .ps o k0 q i k m fl sz es b off0 cap0 (by simpa [this] using h1) h2
  | pp o k0 q k ow e b off0 h1 =>
    have := hp ⟨o, k0, q⟩ (by simp [refs])
    simp only at this
    exact .pp o k0 q k ow e b off0 (by simpa [this] using h1)

theorem Here.keep {N : Nat} {s : St} {a : Act} {w : World} (h : Here cx N s a w) (l : List Nat) : Here cx N (s.keep l) a w := by
  obtain ⟨hN, gob, I, hi⟩ := h
  let tm := l.filterMap fun t => (getA s.tm t).map (t, ·)
  let ks := tm.flatMap fun x => (refs x.2).map (·.o)
  refine ⟨hN, (fun o => if ks.contains o then gob o else []), I, fun o => ?_, hi.sto.forget _, fun t v ht => ?_, hi.def0⟩
  · show ((getA (s.ob.filter fun x => ks.contains x.1) o).getD []) = _
    rw [getA_filter (fun o => ks.contains o)]
    cases hc : ks.contains o with
    | true => simp only [if_true]; exact hi.era o
    | false => simp
  · have hm : (t, v) ∈ tm := getA_mem ht
    have hts : getA s.tm t = some v := by
      obtain ⟨t', ht', he⟩ := List.mem_filterMap.1 hm
      obtain ⟨v', hv', he⟩ := map_some_inv he
      simp only [Prod.mk.injEq] at he
      rw [← he.1, ← he.2]; exact hv'
    obtain ⟨x, hx, g, g1, g2, g3, g4⟩ := hi.tms t v hts
    refine ⟨x, hx, g, g1, g2, g3.refs (fun a' v' hr hs => hr.keep (fun r hr' => ?_)), g4⟩
    have := hs r hr'
    rw [g1] at this
    simp only [List.contains_iff_mem]
    exact List.mem_flatMap.2 ⟨(t, v), hm, List.mem_map.2 ⟨r, this, rfl⟩⟩

/-- What the machine's answer says of the model's. -/
def OutPost (cx : Cx) (N : Nat) : Out → Exit → Act → World → Prop
  | .nx s, .normal, a, w => Here cx N s a w
  | .ex id s, .exit id', a, w => id' = id ∧ Here cx N s a w
  | .rt s, .ret, a, w => Here cx N s a w
  | _, _, _, _ => False

/-- Every temporary that is written stands in the frame. -/
def dstOK (N : Nat) : ICode → Bool
  | .reg l => l.all fun o => match o.d with | some d => decide (d < N) | none => true
  | .drw l => l.all fun o => match o.d with | some d => decide (d < N) | none => true
  | .seq a b => dstOK N a && dstOK N b
  | .cnd _ a b => dstOK N a && dstOK N b
  | .blk _ b => dstOK N b
  | .loop b => dstOK N b
  | _ => true

theorem dst_all {N : Nat} {l : List IOper} (h : (l.all fun o => match o.d with | some d => decide (d < N) | none => true) = true) : ∀ io ∈ l, ∀ d, io.d = some d → d < N := by
  intro io hio d hd
  rw [List.all_eq_true] at h
  have := h io hio
  rw [hd] at this
  simpa using this

theorem strip_seq (a b : ICode) : (∃ l, a = .live l ∧ strip (.seq a b) = strip b) ∨ (strip (.seq a b) = .seq (strip a) (strip b)) := by
  cases a with
  | live l => exact .inl ⟨l, rfl, rfl⟩
  | _ => exact .inr rfl

theorem compC_region {id : Nat} {ops : Array Oper} {dr : Bool} : compC P G (.region id ops dr) = .bad ∨ (∃ l, compOpers P G ops dr ops.toList = some l ∧ compC P G (.region id ops dr) = if dr then .drw l else .reg l) := by
  simp only [compC]
  cases h : compOpers P G ops dr ops.toList with
  | none => exact .inl rfl
  | some l => exact .inr ⟨l, rfl, rfl⟩

theorem compC_cond {c : Operand} {a b : Code} : compC P G (.cond c a b) = .bad ∨ (∃ y, cOpr G c = some y ∧ compC P G (.cond c a b) = .cnd y (compC P G a) (compC P G b)) := by
  simp only [compC]
  cases h : cOpr G c with
  | none => exact .inl rfl
  | some y => exact .inr ⟨y, rfl, rfl⟩

/-- **The code.** -/
theorem code_sound {E : Env} {cf : CallF} (hm : P.follows .mixedOrders = true) (hG : GlobOK G cx) (hcf : ∀ f args r, cf f args = some r → CallOK P G f args r) {N fuel : Nat} :
    ∀ (ic : ICode) (c : Code) (s : St) (a : Act) (w : World) (o : Out), strip ic = compC P G c → dstOK N ic = true → Here cx N s a w → evC E cf fuel ic s = o → o ≠ .no → c.wp P (OutPost cx N o) a w := by
  intro ic
  induction ic with
  | bad => intro c s a w o _ _ _ he hno; simp only [evC] at he; exact absurd he.symm hno
  | live l =>
    intro c s a w o hs
    exfalso
    simp only [strip] at hs
    cases c <;> try (simp [compC] at hs; done)
    · rename_i id ops dr
      rcases compC_region (P := P) (G := G) (id := id) (ops := ops) (dr := dr) with h | ⟨l', _, h⟩
      · rw [h] at hs; cases hs
      · rw [h] at hs; cases dr <;> cases hs
    · rename_i x y z
      rcases compC_cond (P := P) (G := G) (c := x) (a := y) (b := z) with h | ⟨_, _, h⟩ <;> rw [h] at hs <;> cases hs
  | skip =>
    intro c s a w o hs _ h he hno
    simp only [strip] at hs
    simp only [evC] at he; subst he
    cases c <;> try (simp [compC] at hs; done)
    · exact wp_skip h
    · rename_i id ops dr
      rcases compC_region (P := P) (G := G) (id := id) (ops := ops) (dr := dr) with h | ⟨l', _, h⟩
      · rw [h] at hs; cases hs
      · rw [h] at hs; cases dr <;> cases hs
    · rename_i x y z
      rcases compC_cond (P := P) (G := G) (c := x) (a := y) (b := z) with h | ⟨_, _, h⟩ <;> rw [h] at hs <;> cases hs
  | ret =>
    intro c s a w o hs _ h he hno
    simp only [strip] at hs
    simp only [evC] at he; subst he
    cases c <;> try (simp [compC] at hs; done)
    · rename_i id ops dr
      rcases compC_region (P := P) (G := G) (id := id) (ops := ops) (dr := dr) with h | ⟨l', _, h⟩
      · rw [h] at hs; cases hs
      · rw [h] at hs; cases dr <;> cases hs
    · rename_i x y z
      rcases compC_cond (P := P) (G := G) (c := x) (a := y) (b := z) with h | ⟨_, _, h⟩ <;> rw [h] at hs <;> cases hs
    · exact wp_ret h
  | exit id =>
    intro c s a w o hs _ h he hno
    simp only [strip] at hs
    simp only [evC] at he; subst he
    cases c <;> try (simp [compC] at hs; done)
    · rename_i id' ops dr
      rcases compC_region (P := P) (G := G) (id := id') (ops := ops) (dr := dr) with h | ⟨l', _, h⟩
      · rw [h] at hs; cases hs
      · rw [h] at hs; cases dr <;> cases hs
    · rename_i x y z
      rcases compC_cond (P := P) (G := G) (c := x) (a := y) (b := z) with h | ⟨_, _, h⟩ <;> rw [h] at hs <;> cases hs
    · simp only [compC, ICode.exit.injEq] at hs
      subst hs
      exact wp_exit ⟨rfl, h⟩
  | reg ops =>
    intro c s a w o hs hd h he hno
    simp only [strip] at hs
    simp only [dstOK] at hd
    cases c <;> try (simp [compC] at hs; done)
    · rename_i id os dr
      rcases compC_region (P := P) (G := G) (id := id) (ops := os) (dr := dr) with h' | ⟨l', hl, h'⟩
      · rw [h'] at hs; cases hs
      · rw [h'] at hs
        cases dr with
        | true => cases hs
        | false =>
          simp only [Bool.false_eq_true, if_false, ICode.reg.injEq] at hs
          subst hs
          simp only [evC] at he
          split at he
          · rename_i s' hev
            subst he
            refine wp_region ?_
            rw [List.range_eq_range', ← Array.length_toList]
            exact ops_sound hG hcf os.toList 0 ops (fun j o' hj => by simpa using hj) hl (dst_all hd) h hev (fun a' w' h' => h')
          · exact absurd he.symm hno
    · rename_i x y z
      rcases compC_cond (P := P) (G := G) (c := x) (a := y) (b := z) with h | ⟨_, _, h⟩ <;> rw [h] at hs <;> cases hs
  | drw ops =>
    intro c s a w o hs hd h he hno
    simp only [strip] at hs
    simp only [dstOK] at hd
    cases c <;> try (simp [compC] at hs; done)
    · rename_i id os dr
      rcases compC_region (P := P) (G := G) (id := id) (ops := os) (dr := dr) with h' | ⟨l', hl, h'⟩
      · rw [h'] at hs; cases hs
      · rw [h'] at hs
        cases dr with
        | false => cases hs
        | true =>
          simp only [if_true, ICode.drw.injEq] at hs
          subst hs
          simp only [evC] at he
          split at he
          · rename_i s' hev
            subst he
            exact wp_region_any hm (draw_sound hG hcf hl (dst_all hd) hev (h.drew _) (fun a' w' h' => h'))
          · exact absurd he.symm hno
    · rename_i x y z
      rcases compC_cond (P := P) (G := G) (c := x) (a := y) (b := z) with h | ⟨_, _, h⟩ <;> rw [h] at hs <;> cases hs
  | seq ia ib iha ihb =>
    intro c s a w o hs hd h he hno
    simp only [dstOK, Bool.and_eq_true] at hd
    rcases strip_seq ia ib with ⟨l, rfl, hst⟩ | hst
    · rw [hst] at hs
      simp only [evC] at he
      exact ihb c (s.keep l) a w o hs hd.2 (h.keep l) he hno
    · rw [hst] at hs
      cases c <;> try (simp [compC] at hs; done)
      · rename_i id os dr
        rcases compC_region (P := P) (G := G) (id := id) (ops := os) (dr := dr) with h' | ⟨l', hl, h'⟩
        · rw [h'] at hs; cases hs
        · rw [h'] at hs; cases dr <;> cases hs
      · rename_i x y
        simp only [compC, ICode.seq.injEq] at hs
        simp only [evC] at he
        cases hea : evC E cf fuel ia s with
        | no => rw [hea] at he; exact absurd he.symm hno
        | nx s1 =>
          rw [hea] at he
          refine wp_seq (wp_mono (iha x s a w _ hs.1 hd.1 h hea (by simp)) (fun e a' w' hq => ?_))
          cases e with
          | normal => exact ihb y s1 a' w' o hs.2 hd.2 hq he hno
          | _ => exact hq.elim
        | ex id s1 =>
          rw [hea] at he
          subst he
          refine wp_seq (wp_mono (iha x s a w _ hs.1 hd.1 h hea (by simp)) (fun e a' w' hq => ?_))
          cases e with
          | normal => exact hq.elim
          | _ => exact hq
        | rt s1 =>
          rw [hea] at he
          subst he
          refine wp_seq (wp_mono (iha x s a w _ hs.1 hd.1 h hea (by simp)) (fun e a' w' hq => ?_))
          cases e with
          | normal => exact hq.elim
          | _ => exact hq
      · rename_i x y z
        rcases compC_cond (P := P) (G := G) (c := x) (a := y) (b := z) with h | ⟨_, _, h⟩ <;> rw [h] at hs <;> cases hs
  | cnd ico ia ib iha ihb =>
    intro c s a w o hs hd h he hno
    simp only [strip] at hs
    simp only [dstOK, Bool.and_eq_true] at hd
    cases c <;> try (simp [compC] at hs; done)
    · rename_i id os dr
      rcases compC_region (P := P) (G := G) (id := id) (ops := os) (dr := dr) with h' | ⟨l', hl, h'⟩
      · rw [h'] at hs; cases hs
      · rw [h'] at hs; cases dr <;> cases hs
    · rename_i x y z
      rcases compC_cond (P := P) (G := G) (c := x) (a := y) (b := z) with h' | ⟨q, hq, h'⟩
      · rw [h'] at hs; cases hs
      · rw [h'] at hs
        simp only [ICode.cnd.injEq] at hs
        obtain ⟨rfl, h1, h2⟩ := hs
        simp only [evC] at he
        split at he
        · rename_i t ht
          have hev : a.eval x = .bool t := by
            obtain ⟨_, gob, I, hi⟩ := h
            exact (opr_val hG hi hq ht).lit_inv.1
          refine wp_cond hev ?_
          cases t with
          | true => simp only [if_true] at he ⊢; exact iha y s a w o h1 hd.1 h he hno
          | false => simp only [Bool.false_eq_true, if_false] at he ⊢; exact ihb z s a w o h2 hd.2 h he hno
        · exact absurd he.symm hno
  | blk id ib ih =>
    intro c s a w o hs hd h he hno
    simp only [strip] at hs
    simp only [dstOK] at hd
    cases c <;> try (simp [compC] at hs; done)
    · rename_i id os dr
      rcases compC_region (P := P) (G := G) (id := id) (ops := os) (dr := dr) with h' | ⟨l', hl, h'⟩
      · rw [h'] at hs; cases hs
      · rw [h'] at hs; cases dr <;> cases hs
    · rename_i x y z
      rcases compC_cond (P := P) (G := G) (c := x) (a := y) (b := z) with h | ⟨_, _, h⟩ <;> rw [h] at hs <;> cases hs
    · rename_i id' x
      simp only [compC, ICode.blk.injEq] at hs
      obtain ⟨rfl, hs⟩ := hs
      simp only [evC] at he
      refine wp_block ?_
      cases hea : evC E cf fuel ib s with
      | no => rw [hea] at he; exact absurd he.symm hno
      | nx s1 =>
        rw [hea] at he; subst he
        refine wp_mono (ih x s a w _ hs hd h hea (by simp)) (fun e a' w' hq => ?_)
        cases e with
        | normal => exact hq
        | exit i => exact hq.elim
        | _ => exact hq.elim
      | rt s1 =>
        rw [hea] at he; subst he
        refine wp_mono (ih x s a w _ hs hd h hea (by simp)) (fun e a' w' hq => ?_)
        cases e with
        | ret => exact hq
        | exit i => exact hq.elim
        | _ => exact hq.elim
      | ex i s1 =>
        rw [hea] at he
        simp only at he
        refine wp_mono (ih x s a w _ hs hd h hea (by simp)) (fun e a' w' hq => ?_)
        cases e with
        | exit i' =>
          obtain ⟨rfl, hq⟩ := hq
          by_cases hid : i' = id
          · subst hid
            simp only [beq_self_eq_true, if_true] at he
            subst he
            simp only [Exit.inBlock, if_true]
            exact hq
          · have : (i' == id) = false := by simpa using hid
            simp only [this, Bool.false_eq_true, if_false] at he
            subst he
            simp only [Exit.inBlock, hid, if_false]
            exact ⟨rfl, hq⟩
        | _ => exact hq.elim
  | loop ib ih =>
    intro c s a w o hs hd h he hno
    simp only [strip] at hs
    simp only [dstOK] at hd
    cases c <;> try (simp [compC] at hs; done)
    · rename_i id os dr
      rcases compC_region (P := P) (G := G) (id := id) (ops := os) (dr := dr) with h' | ⟨l', hl, h'⟩
      · rw [h'] at hs; cases hs
      · rw [h'] at hs; cases dr <;> cases hs
    · rename_i x y z
      rcases compC_cond (P := P) (G := G) (c := x) (a := y) (b := z) with h | ⟨_, _, h⟩ <;> rw [h] at hs <;> cases hs
    · rename_i x
      simp only [compC, ICode.loop.injEq] at hs
      simp only [evC] at he
      have key : ∀ (n : Nat) (s : St) (a : Act) (w : World) (o : Out), Here cx N s a w → rounds (evC E cf fuel ib) n s = o → o ≠ .no → ∀ (b : Frame) (k : List Item) (cs : List Frame),
          ∃ e a' w', OutPost cx N o e a' w' ∧ Arrives P (lone (b.at a (.code x :: .inLoop x :: k)) cs w) b k cs e a' w' := by
        intro n
        induction n with
        | zero => intro s a w o _ he hno; simp only [rounds] at he; exact absurd he.symm hno
        | succ n ihn =>
          intro s a w o h he hno b k cs
          simp only [rounds] at he
          cases hea : evC E cf fuel ib s with
          | no => rw [hea] at he; exact absurd he.symm hno
          | nx s1 =>
            rw [hea] at he
            obtain ⟨e, a₁, w₁, hq, harr⟩ := ih x s a w _ hs hd h hea (by simp) b (.inLoop x :: k) cs
            cases e with
            | normal =>
              obtain ⟨e₂, a₂, w₂, hq₂, harr₂⟩ := ihn s1 a₁ w₁ o hq he hno b k cs
              exact ⟨e₂, a₂, w₂, hq₂, .of_steps (Steps.trans harr (.one step_inLoop)) harr₂⟩
            | _ => exact hq.elim
          | ex i s1 =>
            rw [hea] at he; subst he
            obtain ⟨e, a₁, w₁, hq, harr⟩ := ih x s a w _ hs hd h hea (by simp) b (.inLoop x :: k) cs
            cases e with
            | exit id => exact ⟨_, a₁, w₁, hq, .pass (x := .inLoop x) rfl (fun _ _ => .inl (by simp)) harr⟩
            | _ => exact hq.elim
          | rt s1 =>
            rw [hea] at he; subst he
            obtain ⟨e, a₁, w₁, hq, harr⟩ := ih x s a w _ hs hd h hea (by simp) b (.inLoop x :: k) cs
            cases e with
            | ret => exact ⟨_, a₁, w₁, hq, .pass (x := .inLoop x) rfl (fun _ _ => .inl (by simp)) harr⟩
            | _ => exact hq.elim
      intro b k cs
      obtain ⟨e, a', w', hq, harr⟩ := key fuel s a w o h he hno b k cs
      exact ⟨e, a', w', hq, .of_steps (.one step_loop) harr⟩

end
end Go.AM

/- AM, part 32: calls answer as the machine says. -/
namespace Go.AM
open GV

section
variable {P : Program} {G : Globs} {cx : Cx} {gob : Nat → List GV} {I : Nat → Prop} {s : St} {a : Act} {w : World}

def resM (tmps : Array Value) : ResultVar → Sem Value
  | .tmp t => pure (tmps.getD t undef)
  | .cell a t => do loadVar t (← asAddr (tmps.getD a undef))

theorem run_load_of {t : TypeId} {v x : Value} {w w' : World} (h : (Instr.loadAt t v).run P w = .ok x w') : (do loadVar t (← asAddr v) : Sem Value).run P w = .ok x w' := by
  unfold Instr.loadAt at h
  cases v <;> try (simp [Instr.sureAddr, stuck, Sem.run_bind, Sem.run] at h; done)
  rename_i p
  cases p with
  | none => simp [Instr.sureAddr, stuck, Sem.run_bind, Sem.run] at h
  | some ad => simpa [Instr.sureAddr, asAddr] using h

theorem res_vals (hG : GlobOK G cx) (h : Inv cx gob I s a w) : ∀ (rs : List ResultVar) (irs : List IRes) {vs : List AV}, compRes P rs = some irs → resVals s irs = some vs → ∃ xs, (rs.mapM (resM a.tmps)).run P w = .ok xs w ∧ Vals cx gob I w vs xs
  | [], irs, vs, hc, hv => by
    simp only [compRes, Option.some.injEq] at hc; subst hc
    simp only [resVals, Option.some.injEq] at hv; subst hv
    exact ⟨[], by simp, .nil⟩
  | .tmp t :: rs, irs, vs, hc, hv => by
    simp only [compRes] at hc
    obtain ⟨r, hr, rfl⟩ := map_some_inv hc
    simp only [resVals] at hv
    obtain ⟨v, hv1, hv⟩ := bind_some_inv hv
    obtain ⟨us, hus, rfl⟩ := map_some_inv hv
    obtain ⟨x, hx, hxv⟩ := h.tms t v hv1
    obtain ⟨xs, h1, h2⟩ := res_vals hG h rs r hr hus
    refine ⟨x :: xs, ?_, .cons _ _ _ _ hxv h2⟩
    have : a.tmps.getD t undef = x := by simp [Array.getD_eq_getD_getElem?, hx]
    simp [List.mapM_cons, resM, this, h1]
  | .cell p t :: rs, irs, vs, hc, hv => by
    simp only [compRes] at hc
    obtain ⟨i, hi, hc⟩ := bind_some_inv hc
    obtain ⟨r, hr, rfl⟩ := map_some_inv hc
    simp only [resVals] at hv
    obtain ⟨v, hv1, hv⟩ := bind_some_inv hv
    obtain ⟨⟨e, rd⟩, hld, hv⟩ := bind_some_inv hv
    obtain ⟨us, hus, rfl⟩ := map_some_inv hv
    obtain ⟨xs, h1, h2⟩ := res_vals hG h rs r hr hus
    have hty : P = P := rfl
    obtain ⟨_, _, x, hx, hxv⟩ := tells_ld (P := P) (o := { (default : Oper) with op := .load t (.tmp p) }) (x := .tmp p) (y := .t p) hG h rfl hi rfl hv1 hld
    refine ⟨x :: xs, ?_, .cons _ _ _ _ hxv h2⟩
    simp only [execOp] at hx
    have hl : (Instr.loadAt t (a.tmps.getD p undef)).run P w = .ok x w := by
      rw [Sem.run_bind] at hx
      simp only [Act.eval] at hx
      cases hq : (Instr.loadAt t (a.tmps.getD p undef)).run P w with
      | ok y w' =>
        rw [hq] at hx
        simp only [Result.andThen_ok, Sem.run_pure, Result.ok.injEq, Next.value.injEq] at hx
        rw [hx.1, hx.2]
      | halt q w' => rw [hq] at hx; simp [Result.andThen] at hx
    have hm : (resM a.tmps (.cell p t)).run P w = .ok x w := run_load_of hl
    rw [List.mapM_cons, Sem.run_bind, hm]
    simp only [Result.andThen_ok]
    rw [Sem.run_bind, h1]
    rfl

theorem results_val (hG : GlobOK G cx) (h : Inv cx gob I s a w) {fn : Func} {irs : List IRes} {vs : List AV} (hc : compRes P fn.results.toList = some irs) (hv : resVals s irs = some vs) :
    ∃ x, (results fn a.tmps).run P w = .ok x w ∧ Val cx gob I w (enclose vs) x := by
  obtain ⟨xs, h1, h2⟩ := res_vals hG h _ _ hc hv
  have hr : (results fn a.tmps).run P w = .ok (if h : xs.toArray.size = 1 then xs.toArray[0] else .tuple xs.toArray) w := by
    have e : results fn a.tmps = (fn.results.mapM (resM a.tmps) >>= fun vs => pure (if h : vs.size = 1 then vs[0] else .tuple vs)) := by
      unfold results
      congr 1
    rw [e, Sem.run_bind, Array.mapM_eq_mapM_toList]
    have : (List.toArray <$> fn.results.toList.mapM (resM a.tmps)).run P w = .ok xs.toArray w := by simp [h1]
    rw [this]
    rfl
  refine ⟨_, hr, ?_⟩
  cases h2 with
  | nil => simpa [enclose] using (Vals.nil (cx := cx) (gob := gob) (I := I) (w := w)).tup
  | cons v x us ys hx hxs =>
    cases hxs with
    | nil => simpa [enclose] using hx
    | cons v2 x2 us ys hx2 hxs => simpa [enclose] using ((Vals.cons _ _ _ _ hx (Vals.cons _ _ _ _ hx2 hxs)).tup)

theorem dstOK_mono {N M : Nat} (h : N ≤ M) : ∀ (c : ICode), dstOK N c = true → dstOK M c = true := by
  have all : ∀ l : List IOper, (l.all fun o => match o.d with | some d => decide (d < N) | none => true) = true → (l.all fun o => match o.d with | some d => decide (d < M) | none => true) = true := by
    intro l hl
    rw [List.all_eq_true] at hl ⊢
    intro o ho
    have := hl o ho
    cases hd : o.d with
    | none => rfl
    | some d => rw [hd] at this; simp at this ⊢; omega
  intro c
  induction c with
  | reg l => exact all l
  | drw l => exact all l
  | seq a b iha ihb => intro h; simp only [dstOK, Bool.and_eq_true] at h ⊢; exact ⟨iha h.1, ihb h.2⟩
  | cnd c a b iha ihb => intro h; simp only [dstOK, Bool.and_eq_true] at h ⊢; exact ⟨iha h.1, ihb h.2⟩
  | blk id b ih => exact ih
  | loop b ih => exact ih
  | _ => intro _; rfl

/-- The functions' forms are the program's; what is known of calls holds. -/
structure EnvOK (P : Program) (G : Globs) (E : Env) : Prop where
  fs : ∀ f fn, E.fs f = some fn → ∃ pf c, P.funcs[f]? = some pf ∧ pf.body = some c ∧ pf.name ≠ "runtime.NumGoroutine" ∧ strip fn.body = compC P G c ∧ compRes P pf.results.toList = some fn.res ∧ dstOK pf.ntmps fn.body = true
  sm : ∀ f args r, E.sm f args = some r → CallOK P G f args r

theorem getA_enter {args : List AV} {t : Nat} {v : AV} (h : getA (enter args) t = some v) : args[t]? = some v := by
  have := getA_mem h
  unfold enter at this
  obtain ⟨⟨v', t'⟩, hm, he⟩ := List.mem_map.1 this
  simp only [Prod.mk.injEq] at he
  obtain ⟨rfl, rfl⟩ := he
  exact List.mem_zipIdx_iff_getElem?.1 hm

theorem entry {w : World} {I : Nat → Prop} {args : List AV} {xs : List Value} (hlt : ∀ b, I b → b < w.heap.size) (hp : Pvs w I K0 args xs) (k : Nat) :
    Here ⟨w, I, [], K0⟩ (xs.length + k) { tm := enter args, ob := [] } { tmps := xs.toArray ++ Array.replicate k undef, defers := [] } w := by
  refine ⟨by simp, fun _ => [], I, fun o => rfl, ?_, fun t v ht => ?_, rfl⟩
  · exact { nod := fun _ => List.nodup_nil, dis := fun _ _ _ _ h => by simp [GV.own.ownL] at h, hol := fun _ _ h => by simp at h, nI := fun _ _ h => by simp [GV.own.ownL] at h, fnod := List.nodup_nil,
            fdis := fun _ _ h => by simp [GV.own.ownL] at h, fhol := fun _ h => by simp at h, fnI := fun _ h => by simp [GV.own.ownL] at h, forg := fun _ h => by simp [GV.own.ownL] at h, Ilt := hlt,
            org := fun _ _ h => by simp [GV.own.ownL] at h, Iorg := fun b h => .inl h, I0I := fun _ h => h, frm := fun _ _ _ => rfl, kpt := fun _ _ _ => rfl, Kold := fun _ _ h => h.elim, I0h := fun _ _ => rfl,
            os := rfl, tape := rfl, output := rfl, size := Nat.le_refl _ }
  · have ha := getA_enter ht
    obtain ⟨gs, rfl, rfl, h3, h4⟩ := hp
    rw [List.getElem?_map] at ha
    obtain ⟨g, hg, rfl⟩ := map_some_inv ha
    have hlt' := lt_of_get hg
    refine ⟨g.cv, ?_, g, rfl, rfl, (h3 g (List.mem_of_getElem? hg)).mono' ?_ (fun _ h => ⟨h, rfl⟩) (fun _ _ h => h.elim), ?_⟩
    · rw [Array.getElem?_append_left (by simpa using hlt'), List.getElem?_toArray, List.getElem?_map, hg]; rfl
    · rw [ownL_eq, List.flatMap_eq_nil_iff] at h4; exact h4 g (List.mem_of_getElem? hg)
    · rw [ownL_eq, List.flatMap_eq_nil_iff] at h4; exact h4 g (List.mem_of_getElem? hg)

/-- How a function ends. -/
theorem finish_sound {w0 : World} {I0 : Nat → Prop} (hG : GlobI G w0 I0) {N : Nat} {s : St} {a : Act} {w : World} (h : Here ⟨w0, I0, [], K0⟩ N s a w) {fn : IFn} {pf : Func} (hc : compRes P pf.results.toList = some fn.res) {r : AV} (hf : finish fn s = some r) :
    a.defers = [] ∧ ∃ v, (results pf a.tmps).run P w = .ok v w ∧ Ended w0 I0 r v w := by
  obtain ⟨_, gob, I, hi⟩ := h
  unfold finish at hf
  obtain ⟨vs, hvs, hf⟩ := bind_some_inv hf
  obtain ⟨⟨⟨r', c⟩, rd⟩, hfr, rfl⟩ := map_some_inv hf
  obtain ⟨x, hx, hv⟩ := results_val (cx := ⟨w0, I0, [], K0⟩) hG hi hc hvs
  obtain ⟨gob1, I1, hF, hP, _⟩ := way_fres hi.era _ (Way.start hi.sto) (by simp [Ded]) hv hfr
  have hs := hF.way.sto
  exact ⟨hi.def0, x, hx, I1, ⟨⟨hs.os, hs.tape, hs.output, hs.size, fun k hk => hs.frm k hk (by simp)⟩, fun b hb => hs.I0I b hb, fun b hb => by
    rcases hs.Iorg b hb with h' | h' | h'
    · exact .inl h'
    · simp at h'
    · exact .inr h', hs.Ilt⟩, hP⟩

/-- **What the machine says of a call holds.** -/
theorem evF_sound {E : Env} {fuel : Nat} (hm : P.follows .mixedOrders = true) (hE : EnvOK P G E) : ∀ (d : Nat) (f : Nat) (args : List AV) (r : AV), evF E fuel d f args = some r → CallOK P G f args r
  | 0, f, args, r, h => by simp [evF] at h
  | d + 1, f, args, r, h => by
    simp only [evF] at h
    split at h
    · rename_i q hq
      simp only [Option.some.injEq] at h; subst h
      exact hE.sm f args _ hq
    · split at h
      · cases h
      · rename_i fn hfn
        obtain ⟨pf, c, hpf, hb, hname, hst, hres, hd⟩ := hE.fs f fn hfn
        intro w I xs hGI hlt hp
        refine .inr ⟨run_callFunc hpf hb hname _ w, ?_⟩
        have key : ∀ (o : Out) (s : St), evC E (evF E fuel d) fuel fn.body { tm := enter args, ob := [] } = o → (o = .rt s ∨ o = .nx s) → finish fn s = some r →
            Calls P f xs.toArray w fun e w' => ∃ v, e = .returned v ∧ Ended w I r v w' := by
          intro o s he ho hfin
          have hno : o ≠ .no := by rcases ho with rfl | rfl <;> simp
          refine calls_of_wp hpf hb ?_
          have hent := entry hlt hp (pf.ntmps - xs.toArray.size)
          have hcode := code_sound (cx := ⟨w, I, [], K0⟩) hm hGI (fun f args r h => evF_sound hm hE d f args r h) (N := xs.length + (pf.ntmps - xs.toArray.size)) fn.body c _ _ w o hst (dstOK_mono (by simp; omega) _ hd) hent he hno
          refine wp_mono hcode (fun e a' w' hq => ?_)
          rcases ho with rfl | rfl
          · cases e with
            | ret =>
              obtain ⟨h1, v, h2, h3⟩ := finish_sound hGI hq hres hfin
              exact ⟨h1, v, h2, v, rfl, h3⟩
            | _ => exact hq.elim
          · cases e with
            | normal =>
              obtain ⟨h1, v, h2, h3⟩ := finish_sound hGI hq hres hfin
              exact ⟨h1, v, h2, v, rfl, h3⟩
            | _ => exact hq.elim
        split at h
        · rename_i s hs
          exact key _ s hs (.inl rfl) h
        · rename_i s hs
          exact key _ s hs (.inr rfl) h
        · cases h

end
end Go.AM

/- AM, part 33: the forms of functions, checked; the functions that add and subtract with a carry. -/
namespace Go.AM
open GV

section
variable {P : Program} {G : Globs}

/-- A function's form is the program's. -/
def FormOK (P : Program) (G : Globs) (f : Nat) (fn : IFn) : Prop :=
  compFn P G f = some { nt := fn.nt, res := fn.res, body := strip fn.body } ∧ dstOK fn.nt fn.body = true ∧ ((P.funcs[f]?).map fun g => g.name != "runtime.NumGoroutine") = some true

theorem FormOK.fs {f : Nat} {fn : IFn} (h : FormOK P G f fn) : ∃ pf c, P.funcs[f]? = some pf ∧ pf.body = some c ∧ pf.name ≠ "runtime.NumGoroutine" ∧ strip fn.body = compC P G c ∧ compRes P pf.results.toList = some fn.res ∧ dstOK pf.ntmps fn.body = true := by
  obtain ⟨h1, h2, h3⟩ := h
  unfold compFn at h1
  obtain ⟨pf, hpf, h1⟩ := bind_some_inv h1
  obtain ⟨c, hc, h1⟩ := bind_some_inv h1
  obtain ⟨r, hr, h1⟩ := map_some_inv h1
  simp only [IFn.mk.injEq] at h1
  obtain ⟨e1, e2, e3⟩ := h1
  refine ⟨pf, c, hpf, hc, ?_, e3.symm, by rw [hr, e2], by rw [e1]; exact h2⟩
  rw [hpf] at h3
  simpa using h3

theorem forms_fs {l : List (Nat × IFn)} (h : ∀ x ∈ l, FormOK P G x.1 x.2) : ∀ f fn, getA l f = some fn → ∃ pf c, P.funcs[f]? = some pf ∧ pf.body = some c ∧ pf.name ≠ "runtime.NumGoroutine" ∧ strip fn.body = compC P G c ∧ compRes P pf.results.toList = some fn.res ∧ dstOK pf.ntmps fn.body = true :=
  fun _ _ hf => (h _ (getA_mem hf)).fs

theorem Pvs.cons_inv {w : World} {I : Nat → Prop} {K : Nat → Nat → Prop} {v : AV} {vs : List AV} {xs : List Value} (h : Pvs w I K (v :: vs) xs) : ∃ y ys, xs = y :: ys ∧ Pv w I K v y ∧ Pvs w I K vs ys := by
  obtain ⟨gs, h1, h2, h3, h4⟩ := h
  cases gs with
  | nil => simp at h1
  | cons g gs =>
    simp only [List.map_cons, List.cons.injEq] at h1 h2
    simp only [GV.own.ownL, List.append_eq_nil_iff] at h4
    exact ⟨g.cv, gs.map GV.cv, by rw [← h2], ⟨g, h1.1, rfl, h3 g (by simp), h4.1⟩, ⟨gs, h1.2, rfl, fun x hx => h3 x (by simp [hx]), h4.2⟩⟩

theorem Pvs.nil_inv {w : World} {I : Nat → Prop} {K : Nat → Nat → Prop} {xs : List Value} (h : Pvs w I K [] xs) : xs = [] := by
  obtain ⟨gs, h1, h2, _, _⟩ := h
  cases gs with
  | nil => exact h2.symm
  | cons g gs => simp at h1

theorem Pv.lit_inv {w : World} {I : Nat → Prop} {K : Nat → Nat → Prop} {v x : Value} (h : Pv w I K (.lit v) x) : x = v := by
  obtain ⟨g, h1, h2, h3, h4⟩ := h
  cases g <;> simp [GV.era] at h1
  · subst h1; exact h2.symm
  · subst h1
    cases h3 with
    | tree _ h => cases h
    | ref _ _ h => exact h.elim

theorem Pv.lit {w : World} {I : Nat → Prop} {K : Nat → Nat → Prop} {v : Value} (h : ground v = true) : Pv w I K (.lit v) v := Pv.tree (g := .lit v) (.lit v h) rfl

theorem Ends.refl {w : World} {I : Nat → Prop} (h : ∀ b, I b → b < w.heap.size) : Ends w I w I := ⟨⟨rfl, rfl, rfl, Nat.le_refl _, fun _ _ => rfl⟩, fun _ h => h, fun _ h => .inl h, h⟩

theorem run_callExtern {f : FuncId} {fn : Func} {e : Array Value → Sem Value} (hf : P.funcs[f]? = some fn) (hb : fn.body = none) (hn : fn.name ≠ "runtime.NumGoroutine") (hx : Extern.findNext fn = none) (he : Extern.find fn = some e) (args : Array Value) {v : Value} (w : World)
    (hr : (e args).run P w = .ok v w) : (callFunc f args).run P w = .ok (.value v) w := by
  unfold callFunc
  simp [hf, hb, hn, hx, he, mark, Sem.run_bind, Sem.run, hr]

def sub64Entry : Array Value → Sem Value := fun args => do
  let (x, y, b) ← Extern.MathBitsCarry.three "Sub64" args
  pure (Extern.MathBitsCarry.pair ((x + Extern.MathBitsCarry.m64 - y - b) % Extern.MathBitsCarry.m64) (if x < y + b then 1 else 0))

theorem add64_ok {f : FuncId} {fn : Func} (hf : P.funcs[f]? = some fn) (hb : fn.body = none) (hn : fn.name ≠ "runtime.NumGoroutine") (hx : Extern.findNext fn = none) (he : Extern.find fn = some add64Entry) {args : List AV} {r : AV} (h : add64 args = some r) : CallOK P G f args r := by
  unfold add64 at h
  split at h
  · rename_i k1 x k2 y k3 c
    split at h
    · rename_i hc
      simp only [Option.some.injEq] at h; subst h
      intro w I xs _ hlt hp
      obtain ⟨a1, t1, rfl, h1, hp⟩ := hp.cons_inv
      obtain ⟨a2, t2, rfl, h2, hp⟩ := hp.cons_inv
      obtain ⟨a3, t3, rfl, h3, hp⟩ := hp.cons_inv
      have := hp.nil_inv
      subst this
      have := h1.lit_inv; subst this
      have := h2.lit_inv; subst this
      have := h3.lit_inv; subst this
      refine .inl ⟨.tuple #[.int .u64 (Int.ofNat ((x.toNat + y.toNat + c.toNat) % 2 ^ 64)), .int .u64 (Int.ofNat ((x.toNat + y.toNat + c.toNat) / 2 ^ 64))], w, run_callExtern hf hb hn hx he _ w ?_, I, Ends.refl hlt, ?_⟩
      · cases c with
        | negSucc n => rfl
        | ofNat n =>
          have : n = 0 ∨ n = 1 := by simp at hc; omega
          rcases this with rfl | rfl <;> rfl
      · exact (Pvs.cons (Pv.lit rfl) (Pvs.cons (Pv.lit rfl) Pvs.nil)).tup
    · cases h
  · cases h

theorem sub64_ok {f : FuncId} {fn : Func} (hf : P.funcs[f]? = some fn) (hb : fn.body = none) (hn : fn.name ≠ "runtime.NumGoroutine") (hx : Extern.findNext fn = none) (he : Extern.find fn = some sub64Entry) {args : List AV} {r : AV} (h : sub64 args = some r) : CallOK P G f args r := by
  unfold sub64 at h
  split at h
  · rename_i k1 x k2 y k3 c
    split at h
    · rename_i hc
      simp only [Option.some.injEq] at h; subst h
      intro w I xs _ hlt hp
      obtain ⟨a1, t1, rfl, h1, hp⟩ := hp.cons_inv
      obtain ⟨a2, t2, rfl, h2, hp⟩ := hp.cons_inv
      obtain ⟨a3, t3, rfl, h3, hp⟩ := hp.cons_inv
      have := hp.nil_inv
      subst this
      have := h1.lit_inv; subst this
      have := h2.lit_inv; subst this
      have := h3.lit_inv; subst this
      refine .inl ⟨.tuple #[.int .u64 (Int.ofNat ((x.toNat + 2 ^ 64 - y.toNat - c.toNat) % 2 ^ 64)), .int .u64 (Int.ofNat (if x.toNat < y.toNat + c.toNat then 1 else 0))], w, run_callExtern hf hb hn hx he _ w ?_, I, Ends.refl hlt, ?_⟩
      · cases c with
        | negSucc n => rfl
        | ofNat n =>
          have : n = 0 ∨ n = 1 := by simp at hc; omega
          rcases this with rfl | rfl <;> rfl
      · exact (Pvs.cons (Pv.lit rfl) (Pvs.cons (Pv.lit rfl) Pvs.nil)).tup
    · cases h
  · cases h

end
end Go.AM

/- AM, part 34: arithmetic of words, as the machine reckons it. -/
namespace Go.AM

def w64 (n : Int) : Int := IntKind.u64.wrap n
def and64 (a b : Int) : Int := IntKind.u64.wrap ((BitVec.ofInt 64 a &&& BitVec.ofInt 64 b).toNat : Int)
def shr64 (a : Int) (n : Nat) : Int := a.fdiv (2 ^ n)

theorem w64_nat (a : Nat) : w64 (a : Int) = ((a % 18446744073709551616 : Nat) : Int) := by
  unfold w64
  rw [IntKind.wrap_u64]; omega

theorem and64_mask (a : Nat) (h : a < 18446744073709551616) : and64 (a : Int) 4294967295 = ((a % 4294967296 : Nat) : Int) := by
  unfold and64
  have h1 : (BitVec.ofInt 64 (a : Int)) = BitVec.ofNat 64 a := by simp
  have h2 : (BitVec.ofInt 64 (4294967295 : Int)) = BitVec.ofNat 64 4294967295 := rfl
  rw [h1, h2]
  have h3 : (BitVec.ofNat 64 a &&& BitVec.ofNat 64 4294967295).toNat = a % 4294967296 := by
    rw [BitVec.toNat_and, BitVec.toNat_ofNat, BitVec.toNat_ofNat, Nat.mod_eq_of_lt (by omega), Nat.mod_eq_of_lt (by omega)]
    exact Nat.and_two_pow_sub_one_eq_mod a 32
  rw [h3, IntKind.wrap_u64]
  omega

theorem shr64_nat (a n : Nat) : shr64 (a : Int) n = ((a / 2 ^ n : Nat) : Int) := by
  unfold shr64
  rw [Int.fdiv_eq_ediv_of_nonneg _ (by exact_mod_cast Nat.zero_le _)]
  push_cast
  rfl

end Go.AM

/- AM, part 35: evaluation under assumptions: at each branch on a value that is not known a list of answers says which way it goes; what was assumed is noted. -/
namespace Go.AM

/-- What was assumed: each left side is its right side. -/
abbrev Cs := List (Bool × Bool)

def Holds (cs : Cs) : Prop := ∀ c ∈ cs, c.1 = c.2

theorem Holds.append {a b : Cs} : Holds (a ++ b) ↔ Holds a ∧ Holds b := by
  unfold Holds
  constructor
  · exact fun h => ⟨fun c hc => h c (List.mem_append.2 (.inl hc)), fun c hc => h c (List.mem_append.2 (.inr hc))⟩
  · exact fun h c hc => (List.mem_append.1 hc).elim (h.1 c) (h.2 c)

theorem Holds.nil : Holds [] := by simp [Holds]

theorem Holds.cons {x y : Bool} {cs : Cs} : Holds ((x, y) :: cs) ↔ x = y ∧ Holds cs := by
  unfold Holds; simp

def ibinP (o : BinOp) (k : IntKind) (a : Int) (k' : IntKind) (b : Int) : Option (Value × Cs) :=
  match o with
  | .shl => some (.int k (k.wrap (a * 2 ^ min b.toNat k.bits)), [(decide (b < 0), false)])
  | .shr => some (.int k (a.fdiv (2 ^ min b.toNat k.bits)), [(decide (b < 0), false)])
  | .quo => if k ≠ k' then none else some (.int k (k.wrap (a.tdiv b)), [(decide (b = 0), false)])
  | .rem => if k ≠ k' then none else some (.int k (a.tmod b), [(decide (b = 0), false)])
  | o => (ibin o k a k' b).map (·, [])

theorem ibinP_ok {o : BinOp} {k k' : IntKind} {a b : Int} {v : Value} {cs : Cs} (h : ibinP o k a k' b = some (v, cs)) (hc : Holds cs) : ibin o k a k' b = some v := by
  unfold ibinP at h
  split at h
  · simp only [Option.some.injEq, Prod.mk.injEq] at h; obtain ⟨rfl, rfl⟩ := h
    have := (Holds.cons.1 hc).1
    simp only [decide_eq_false_iff_not] at this
    simp [ibin, this]
  · simp only [Option.some.injEq, Prod.mk.injEq] at h; obtain ⟨rfl, rfl⟩ := h
    have := (Holds.cons.1 hc).1
    simp only [decide_eq_false_iff_not] at this
    simp [ibin, this]
  · split at h
    · cases h
    · rename_i hk
      simp only [Option.some.injEq, Prod.mk.injEq] at h; obtain ⟨rfl, rfl⟩ := h
      have := (Holds.cons.1 hc).1
      simp only [decide_eq_false_iff_not] at this
      simp only [ne_eq, Decidable.not_not] at hk
      simp [ibin, this, hk]
  · split at h
    · cases h
    · rename_i hk
      simp only [Option.some.injEq, Prod.mk.injEq] at h; obtain ⟨rfl, rfl⟩ := h
      have := (Holds.cons.1 hc).1
      simp only [decide_eq_false_iff_not] at this
      simp only [ne_eq, Decidable.not_not] at hk
      simp [ibin, this, hk]
  · obtain ⟨u, hu, he⟩ := map_some_inv h
    simp only [Prod.mk.injEq] at he
    rw [← he.1]; exact hu

abbrev CallP := Nat → List AV → Option (AV × Cs)

/-- An operation under assumptions. -/
def semP (E : Env) (cf : CallF) (cp : CallP) (ky : Nat) (op : IOp) (ρ : Opr → Option AV) (ob : Nat → List AV) : Option (Eff × List Nat × Cs) :=
  match op with
  | .bin 0 o x y => match ρ x, ρ y with
    | some (.lit (.int k a)), some (.lit (.int k' b)) => (ibinP o k a k' b).map fun r => ({ v := .lit r.1 }, [], r.2)
    | _, _ => none
  | .sidx x i => match ρ x, ρ i with
    | some (.lit (.string s)), some (.lit (.int _ n)) => some ({ v := .int .u8 ((s[n.toNat]?).getD 0).toNat }, [], [(decide (0 ≤ n), true), (decide (n.toNat < s.size), true)])
    | _, _ => none
  | .call f as => match ρ f, vals ρ as with
    | some (.fn (.func f) first cap), some vs => match cp f (first ++ vs ++ cap) with
      | some (r, cs) => if E.fl f && flat r && flat.flatL (first ++ vs ++ cap) then some ({ v := r }, [], cs) else none
      | none => none
    | _, _ => none
  | op => ((semOp E cf ky op ρ).run ob []).map fun r => (r.1, r.2, [])

theorem flat_resolve : (v : AV) → flat v = true → resolve [] v = .done v
  | .lit _, _ => rfl
  | .agg cs, h => by
    simp only [flat] at h
    simp only [resolve, flatL_resolve cs h, Lk.bind]
  | .tup cs, h => by
    simp only [flat] at h
    simp only [resolve, flatL_resolve cs h, Lk.bind]
  | .dead, h => by simp [flat] at h
  | .fn .., h => by simp [flat] at h
  | .sl .., h => by simp [flat] at h
  | .pt .., h => by simp [flat] at h
  | .sref .., h => by simp [flat] at h
  | .pref .., h => by simp [flat] at h
  where flatL_resolve : (l : List AV) → flat.flatL l = true → resolve.resolveL [] l = .done l
  | [], _ => rfl
  | e :: es, h => by
    simp only [flat.flatL, Bool.and_eq_true] at h
    simp only [resolve.resolveL, flat_resolve e h.1, flatL_resolve es h.2, Lk.bind]

theorem semP_ok {E : Env} {cf : CallF} {cp : CallP} {ky : Nat} {op : IOp} {ρ : Opr → Option AV} {ob : Nat → List AV} {e : Eff} {rd : List Nat} {cs : Cs} (hcp : ∀ f args r cs, cp f args = some (r, cs) → Holds cs → cf f args = some r)
    (h : semP E cf cp ky op ρ ob = some (e, rd, cs)) (hc : Holds cs) : (semOp E cf ky op ρ).run ob [] = some (e, rd) := by
  unfold semP at h
  split at h
  · rename_i o x y
    split at h
    · rename_i k a k' b hx hy
      obtain ⟨⟨v, cs'⟩, hv, he⟩ := map_some_inv h
      simp only [Prod.mk.injEq] at he
      obtain ⟨rfl, rfl, rfl⟩ := he
      simp only [semOp, hx, hy, Option.bind_some, abin]
      simp [ibinP_ok hv hc, Lk.of, Lk.run]
    · cases h
  · rename_i x i
    split at h
    · rename_i s k n hx hi
      simp only [Option.some.injEq, Prod.mk.injEq] at h
      obtain ⟨rfl, rfl, rfl⟩ := h
      obtain ⟨h1, h2⟩ := Holds.cons.1 hc
      obtain ⟨h2, _⟩ := Holds.cons.1 h2
      simp only [decide_eq_true_eq] at h1 h2
      have hs : s[n.toNat]? = some s[n.toNat] := getElem?_pos s n.toNat h2
      simp [semOp, hx, hi, natOf, h1, hs, Lk.run]
    · cases h
  · rename_i f as
    split at h
    · rename_i f first cap vs hf hvs
      split at h
      · rename_i r cs' hcr
        split at h
        · rename_i hfl
          simp only [Bool.and_eq_true] at hfl
          simp only [Option.some.injEq, Prod.mk.injEq] at h
          obtain ⟨rfl, rfl, rfl⟩ := h
          simp only [semOp, hf, hvs, callOp, hfl.1.1, if_true, flat_resolve.flatL_resolve _ hfl.2, Lk.bind, hcp _ _ _ _ hcr hc, hfl.1.2, Lk.run]
        · cases h
      · cases h
    · cases h
  · obtain ⟨⟨e', rd'⟩, he, hr⟩ := map_some_inv h
    simp only [Prod.mk.injEq] at hr
    obtain ⟨rfl, rfl, _⟩ := hr
    exact he

end Go.AM

/- AM, part 36: the code under assumptions. -/
namespace Go.AM

/-- Is an operation carried out? Where it hangs on a value, the next answer says so. -/
def wantP (s : St) (g : Option (Nat × Bool)) (q : List Bool) : Option (Bool × List Bool × Cs) :=
  match g with
  | none => some (true, q, [])
  | some (t, b) => match getA s.tm t with
    | some (.lit (.bool c)) => match q with
      | w :: q => some (w, q, [(c == b, w)])
      | [] => none
    | some (.tup []) => some (false, q, [])
    | _ => none

/-- A choice between two values: the next answer says which. -/
def pickP (s : St) (op : IOp) (q : List Bool) : Option (AV × List Bool × Cs) :=
  match op with
  | .pick c a b => match s.val c with
    | some (.lit (.bool t)) => match q with
      | true :: q => (s.val a).map fun v => (v, q, [(t, true)])
      | false :: q => (s.val b).map fun v => (v, q, [(t, false)])
      | [] => none
    | _ => none
  | _ => none

def stepP (E : Env) (cf : CallF) (cp : CallP) (o : IOper) (s : St) (q : List Bool) : Option ((St × List Nat × Eff) × List Bool × Cs) :=
  match wantP s o.g q with
  | none => none
  | some (false, q, cs) => some ((s.put o.d (.tup []), [], { v := .tup [] }), q, cs)
  | some (true, q, cs) => match pickP s o.op q with
    | some (v, q, cs') => some ((s.eff o.d { v }, [], { v }), q, cs ++ cs')
    | none => match semP E cf cp (keyOf o.d) o.op s.val s.obj with
      | none => none
      | some (e, rd, cs') => some ((s.eff o.d e, rd, e), q, cs ++ cs')

def evOpsP (E : Env) (cf : CallF) (cp : CallP) : List IOper → St → List Bool → Option (St × List Bool × Cs)
  | [], s, q => some (s, q, [])
  | o :: os, s, q => match stepP E cf cp o s q with
    | some ((s', _), q, cs) => match evOpsP E cf cp os s' q with
      | some (s'', q, cs') => some (s'', q, cs ++ cs')
      | none => none
    | none => none

def evDrawP (E : Env) (cf : CallF) (cp : CallP) : List IOper → List (List Nat) → List Ft → St → List Bool → Option (St × List Bool × Cs)
  | [], _, _, s, q => some (s, q, [])
  | o :: os, anc, fts, s, q => match stepP E cf cp o s q with
    | none => none
    | some ((s', rd, e), q, cs) =>
      if o.aft.all (· < anc.length) && parAll (footOf o s rd e) (ancs anc o.aft) 0 fts then
        match evDrawP E cf cp os (anc ++ [ancs anc o.aft]) (fts ++ [footOf o s rd e]) s' q with
        | some (s'', q, cs') => some (s'', q, cs ++ cs')
        | none => none
      else none

def roundsP (f : St → List Bool → Out × List Bool × Cs) : Nat → St → List Bool → Out × List Bool × Cs
  | 0, _, q => (.no, q, [])
  | n + 1, s, q => match f s q with
    | (.nx s', q, cs) => match roundsP f n s' q with
      | (o, q, cs') => (o, q, cs ++ cs')
    | r => r

def evCP (E : Env) (cf : CallF) (cp : CallP) (fuel : Nat) : ICode → St → List Bool → Out × List Bool × Cs
  | .bad, _, q => (.no, q, [])
  | .skip, s, q => (.nx s, q, [])
  | .reg ops, s, q => match evOpsP E cf cp ops s q with
    | some (s', q, cs) => (.nx s', q, cs)
    | none => (.no, q, [])
  | .drw ops, s, q => match evDrawP E cf cp ops [] [] s q with
    | some (s', q, cs) => (.nx s', q, cs)
    | none => (.no, q, [])
  | .seq a b, s, q => match evCP E cf cp fuel a s q with
    | (.nx s', q, cs) => match evCP E cf cp fuel b s' q with
      | (o, q, cs') => (o, q, cs ++ cs')
    | r => r
  | .cnd c a b, s, q => match s.val c with
    | some (.lit (.bool t)) => match q with
      | true :: q => match evCP E cf cp fuel a s q with
        | (o, q, cs) => (o, q, (t, true) :: cs)
      | false :: q => match evCP E cf cp fuel b s q with
        | (o, q, cs) => (o, q, (t, false) :: cs)
      | [] => (.no, [], [])
    | _ => (.no, q, [])
  | .blk id b, s, q => match evCP E cf cp fuel b s q with
    | (.ex i s', q, cs) => if i == id then (.nx s', q, cs) else (.ex i s', q, cs)
    | r => r
  | .loop b, s, q => roundsP (evCP E cf cp fuel b) fuel s q
  | .exit id, s, q => (.ex id s, q, [])
  | .ret, s, q => (.rt s, q, [])
  | .live l, s, q => (.nx (s.keep l), q, [])

section
variable {E : Env} {cf : CallF} {cp : CallP}

theorem wantP_ok {s : St} {g : Option (Nat × Bool)} {q q' : List Bool} {b : Bool} {cs : Cs} (h : wantP s g q = some (b, q', cs)) (hc : Holds cs) : s.wanted g = some b := by
  unfold wantP at h
  split at h
  · simp only [Option.some.injEq, Prod.mk.injEq] at h; rw [← h.1]; rfl
  · split at h
    · rename_i hg
      split at h
      · simp only [Option.some.injEq, Prod.mk.injEq] at h
        obtain ⟨rfl, _, rfl⟩ := h
        have := (Holds.cons.1 hc).1
        simp only [St.wanted, hg, this]
      · cases h
    · rename_i hg
      simp only [Option.some.injEq, Prod.mk.injEq] at h
      obtain ⟨rfl, _, _⟩ := h
      simp only [St.wanted, hg]
    · cases h

theorem pickP_ok {s : St} {op : IOp} {q q' : List Bool} {v : AV} {cs : Cs} {ky : Nat} (h : pickP s op q = some (v, q', cs)) (hc : Holds cs) : (semOp E cf ky op s.val).run s.obj [] = some ({ v }, []) := by
  unfold pickP at h
  split at h
  · split at h
    · rename_i t ht
      split at h
      · obtain ⟨u, hu, he⟩ := map_some_inv h
        simp only [Prod.mk.injEq] at he
        obtain ⟨rfl, rfl, rfl⟩ := he
        have := (Holds.cons.1 hc).1
        subst this
        simp [semOp, ht, hu, Lk.of, Lk.run]
      · obtain ⟨u, hu, he⟩ := map_some_inv h
        simp only [Prod.mk.injEq] at he
        obtain ⟨rfl, rfl, rfl⟩ := he
        have := (Holds.cons.1 hc).1
        subst this
        simp [semOp, ht, hu, Lk.of, Lk.run]
      · cases h
    · cases h
  · cases h

theorem stepP_ok (hcp : ∀ f args r cs, cp f args = some (r, cs) → Holds cs → cf f args = some r) {o : IOper} {s : St} {q q' : List Bool} {r : St × List Nat × Eff} {cs : Cs} (h : stepP E cf cp o s q = some (r, q', cs)) (hc : Holds cs) : step E cf o s = some r := by
  unfold stepP at h
  split at h
  · cases h
  · rename_i q1 c1 hw
    simp only [Option.some.injEq, Prod.mk.injEq] at h
    obtain ⟨rfl, rfl, rfl⟩ := h
    unfold step
    rw [wantP_ok hw hc]
  · rename_i q1 c1 hw
    split at h
    · rename_i v q2 c2 hp
      simp only [Option.some.injEq, Prod.mk.injEq] at h
      obtain ⟨rfl, rfl, rfl⟩ := h
      obtain ⟨h1, h2⟩ := Holds.append.1 hc
      unfold step
      rw [wantP_ok hw h1]
      simp only
      rw [pickP_ok hp h2]
    · split at h
      · cases h
      · rename_i e rd c2 hs
        simp only [Option.some.injEq, Prod.mk.injEq] at h
        obtain ⟨rfl, rfl, rfl⟩ := h
        obtain ⟨h1, h2⟩ := Holds.append.1 hc
        unfold step
        rw [wantP_ok hw h1]
        simp only
        rw [semP_ok hcp hs h2]

theorem evOpsP_ok (hcp : ∀ f args r cs, cp f args = some (r, cs) → Holds cs → cf f args = some r) : ∀ (l : List IOper) {s s' : St} {q q' : List Bool} {cs : Cs}, evOpsP E cf cp l s q = some (s', q', cs) → Holds cs → evOps E cf l s = some s'
  | [], s, s', q, q', cs, h, _ => by simp only [evOpsP, Option.some.injEq, Prod.mk.injEq] at h; rw [← h.1]; rfl
  | o :: os, s, s', q, q', cs, h, hc => by
    simp only [evOpsP] at h
    split at h
    · rename_i s1 r1 q1 c1 hs
      split at h
      · rename_i s2 q2 c2 ho
        simp only [Option.some.injEq, Prod.mk.injEq] at h
        obtain ⟨rfl, rfl, rfl⟩ := h
        obtain ⟨h1, h2⟩ := Holds.append.1 hc
        simp only [evOps, stepP_ok hcp hs h1]
        exact evOpsP_ok hcp os ho h2
      · cases h
    · cases h

theorem evDrawP_ok (hcp : ∀ f args r cs, cp f args = some (r, cs) → Holds cs → cf f args = some r) : ∀ (l : List IOper) (anc : List (List Nat)) (fts : List Ft) {s s' : St} {q q' : List Bool} {cs : Cs}, evDrawP E cf cp l anc fts s q = some (s', q', cs) → Holds cs → evDraw E cf l anc fts s = some s'
  | [], anc, fts, s, s', q, q', cs, h, _ => by simp only [evDrawP, Option.some.injEq, Prod.mk.injEq] at h; rw [← h.1]; rfl
  | o :: os, anc, fts, s, s', q, q', cs, h, hc => by
    simp only [evDrawP] at h
    split at h
    · cases h
    · rename_i s1 rd e q1 c1 hs
      split at h
      · rename_i hcond
        split at h
        · rename_i s2 q2 c2 ho
          simp only [Option.some.injEq, Prod.mk.injEq] at h
          obtain ⟨rfl, rfl, rfl⟩ := h
          obtain ⟨h1, h2⟩ := Holds.append.1 hc
          simp only [evDraw, stepP_ok hcp hs h1, hcond, if_true]
          exact evDrawP_ok hcp os _ _ ho h2
        · cases h
      · cases h

/-- **What comes of the code under assumptions that hold.** -/
theorem evCP_ok (hcp : ∀ f args r cs, cp f args = some (r, cs) → Holds cs → cf f args = some r) {fuel : Nat} : ∀ (c : ICode) {s : St} {q q' : List Bool} {o : Out} {cs : Cs}, evCP E cf cp fuel c s q = (o, q', cs) → o ≠ .no → Holds cs → evC E cf fuel c s = o := by
  intro c
  induction c with
  | bad => intro s q q' o cs h hn _; simp only [evCP, Prod.mk.injEq] at h; exact absurd h.1.symm hn
  | skip => intro s q q' o cs h _ _; simp only [evCP, Prod.mk.injEq] at h; rw [← h.1]; rfl
  | ret => intro s q q' o cs h _ _; simp only [evCP, Prod.mk.injEq] at h; rw [← h.1]; rfl
  | exit id => intro s q q' o cs h _ _; simp only [evCP, Prod.mk.injEq] at h; rw [← h.1]; rfl
  | live l => intro s q q' o cs h _ _; simp only [evCP, Prod.mk.injEq] at h; rw [← h.1]; rfl
  | reg l =>
    intro s q q' o cs h hn hc
    simp only [evCP] at h
    split at h
    · rename_i s1 q1 c1 he
      simp only [Prod.mk.injEq] at h
      obtain ⟨rfl, rfl, rfl⟩ := h
      simp only [evC, evOpsP_ok hcp l he hc]
    · simp only [Prod.mk.injEq] at h; exact absurd h.1.symm hn
  | drw l =>
    intro s q q' o cs h hn hc
    simp only [evCP] at h
    split at h
    · rename_i s1 q1 c1 he
      simp only [Prod.mk.injEq] at h
      obtain ⟨rfl, rfl, rfl⟩ := h
      simp only [evC, evDrawP_ok hcp l _ _ he hc]
    · simp only [Prod.mk.injEq] at h; exact absurd h.1.symm hn
  | seq a b iha ihb =>
    intro s q q' o cs h hn hc
    simp only [evCP] at h
    split at h
    · rename_i s1 q1 c1 he
      generalize hb : evCP E cf cp fuel b s1 q1 = rb at h
      obtain ⟨o2, q2, c2⟩ := rb
      simp only [Prod.mk.injEq] at h
      obtain ⟨rfl, rfl, rfl⟩ := h
      obtain ⟨h1, h2⟩ := Holds.append.1 hc
      simp only [evC, iha he (by simp) h1]
      exact ihb hb hn h2
    · rename_i hne
      have := iha h hn hc
      simp only [evC, this]
      cases o with
      | nx s1 => exact absurd h (by intro h'; exact hne _ _ _ h')
      | _ => rfl
  | cnd x a b iha ihb =>
    intro s q q' o cs h hn hc
    simp only [evCP] at h
    split at h
    · rename_i t ht
      split at h
      · rename_i q1
        generalize hb : evCP E cf cp fuel a s q1 = rb at h
        obtain ⟨o2, q2, c2⟩ := rb
        simp only [Prod.mk.injEq] at h
        obtain ⟨rfl, rfl, rfl⟩ := h
        obtain ⟨h1, h2⟩ := Holds.cons.1 hc
        subst h1
        simp only [evC, ht, if_true]
        exact iha hb hn h2
      · rename_i q1
        generalize hb : evCP E cf cp fuel b s q1 = rb at h
        obtain ⟨o2, q2, c2⟩ := rb
        simp only [Prod.mk.injEq] at h
        obtain ⟨rfl, rfl, rfl⟩ := h
        obtain ⟨h1, h2⟩ := Holds.cons.1 hc
        subst h1
        simp only [evC, ht, Bool.false_eq_true, if_false]
        exact ihb hb hn h2
      · simp only [Prod.mk.injEq] at h; exact absurd h.1.symm hn
    · simp only [Prod.mk.injEq] at h; exact absurd h.1.symm hn
  | blk id b ih =>
    intro s q q' o cs h hn hc
    simp only [evCP] at h
    split at h
    · rename_i i s1 q1 c1 he
      split at h
      · rename_i hid
        simp only [Prod.mk.injEq] at h
        obtain ⟨rfl, rfl, rfl⟩ := h
        simp only [evC, ih he (by simp) hc, hid, if_true]
      · rename_i hid
        simp only [Prod.mk.injEq] at h
        obtain ⟨rfl, rfl, rfl⟩ := h
        simp only [evC, ih he (by simp) hc]
        rw [if_neg hid]
    · rename_i hne
      have := ih h hn hc
      simp only [evC, this]
      cases o with
      | ex i s1 => exact absurd h (by intro h'; exact hne _ _ _ _ h')
      | _ => rfl
  | loop b ih =>
    intro s q q' o cs h hn hc
    simp only [evCP] at h
    simp only [evC]
    have key : ∀ (n : Nat) {s : St} {q q' : List Bool} {o : Out} {cs : Cs}, roundsP (evCP E cf cp fuel b) n s q = (o, q', cs) → o ≠ .no → Holds cs → rounds (evC E cf fuel b) n s = o := by
      intro n
      induction n with
      | zero => intro s q q' o cs h hn _; simp only [roundsP, Prod.mk.injEq] at h; exact absurd h.1.symm hn
      | succ n ihn =>
        intro s q q' o cs h hn hc
        simp only [roundsP] at h
        split at h
        · rename_i s1 q1 c1 he
          generalize hb : roundsP (evCP E cf cp fuel b) n s1 q1 = rb at h
          obtain ⟨o2, q2, c2⟩ := rb
          simp only [Prod.mk.injEq] at h
          obtain ⟨rfl, rfl, rfl⟩ := h
          obtain ⟨h1, h2⟩ := Holds.append.1 hc
          simp only [rounds, ih he (by simp) h1]
          exact ihn hb hn h2
        · rename_i hne
          have := ih h hn hc
          simp only [rounds, this]
          cases o with
          | nx s1 => exact absurd h (by intro h'; exact hne _ _ _ h')
          | _ => rfl
    exact key fuel h hn hc

end
end Go.AM

/- AM, part 37: a call under assumptions. -/
namespace Go.AM

/-- A call under assumptions: its answer, what is left of the answers at branches, what was assumed. -/
def evFP (E : Env) (cf : CallF) (cp : CallP) (fuel : Nat) (fn : IFn) (args : List AV) (q : List Bool) : Option (AV × Cs) :=
  match evCP E cf cp fuel fn.body { tm := enter args, ob := [] } q with
  | (.rt s, _, cs) => (finish fn s).map (·, cs)
  | (.nx s, _, cs) => (finish fn s).map (·, cs)
  | _ => none

theorem evFP_ok {E : Env} {fuel d f : Nat} {fn : IFn} {args : List AV} {q : List Bool} {r : AV} {cs : Cs} {cp : CallP} (hcp : ∀ f args r cs, cp f args = some (r, cs) → Holds cs → evF E fuel d f args = some r)
    (hsm : E.sm f args = none) (hfs : E.fs f = some fn) (h : evFP E (evF E fuel d) cp fuel fn args q = some (r, cs)) (hc : Holds cs) : evF E fuel (d + 1) f args = some r := by
  unfold evFP at h
  simp only [evF, hsm, hfs]
  split at h
  · rename_i s q' cs' he
    obtain ⟨r', hr, heq⟩ := map_some_inv h
    simp only [Prod.mk.injEq] at heq
    obtain ⟨rfl, rfl⟩ := heq
    rw [evCP_ok hcp _ he (by simp) hc]
    exact hr
  · rename_i s q' cs' he
    obtain ⟨r', hr, heq⟩ := map_some_inv h
    simp only [Prod.mk.injEq] at heq
    obtain ⟨rfl, rfl⟩ := heq
    rw [evCP_ok hcp _ he (by simp) hc]
    exact hr
  · cases h

end Go.AM

/- AM, part 38: code as a row of statements, so that it can be reckoned piece by piece. -/
namespace Go.AM

/-- The statements of a code. -/
def spine : ICode → List ICode
  | .seq a b => a :: spine b
  | c => [c]

def evL (E : Env) (cf : CallF) (fuel : Nat) : List ICode → St → Out
  | [], s => .nx s
  | c :: cs, s => match evC E cf fuel c s with
    | .nx s' => evL E cf fuel cs s'
    | o => o

theorem evC_spine {E : Env} {cf : CallF} {fuel : Nat} : ∀ (c : ICode) (s : St), evC E cf fuel c s = evL E cf fuel (spine c) s := by
  intro c
  induction c with
  | seq a b _ ihb =>
    intro s
    simp only [evC, spine, evL]
    cases evC E cf fuel a s with
    | nx s' => exact ihb s'
    | _ => rfl
  | _ =>
    intro s
    simp only [spine, evL]
    generalize evC E cf fuel _ s = o
    cases o <;> rfl

theorem evL_append {E : Env} {cf : CallF} {fuel : Nat} : ∀ (a b : List ICode) (s : St), evL E cf fuel (a ++ b) s = (match evL E cf fuel a s with | .nx s' => evL E cf fuel b s' | o => o)
  | [], b, s => rfl
  | c :: a, b, s => by
    simp only [List.cons_append, evL]
    cases evC E cf fuel c s with
    | nx s' => exact evL_append a b s'
    | _ => rfl

theorem evL_nx {E : Env} {cf : CallF} {fuel : Nat} {a b : List ICode} {s s' : St} (h : evL E cf fuel a s = .nx s') : evL E cf fuel (a ++ b) s = evL E cf fuel b s' := by
  rw [evL_append, h]

theorem evL_rt {E : Env} {cf : CallF} {fuel : Nat} {a b : List ICode} {s s' : St} (h : evL E cf fuel a s = .rt s') : evL E cf fuel (a ++ b) s = .rt s' := by
  rw [evL_append, h]

/-- A row of statements under assumptions. -/
def evLP (E : Env) (cf : CallF) (cp : CallP) (fuel : Nat) : List ICode → St → List Bool → Out × List Bool × Cs
  | [], s, q => (.nx s, q, [])
  | c :: l, s, q => match evCP E cf cp fuel c s q with
    | (.nx s', q, cs) => match evLP E cf cp fuel l s' q with
      | (o, q, cs') => (o, q, cs ++ cs')
    | r => r

theorem evLP_ok {E : Env} {cf : CallF} {cp : CallP} {fuel : Nat} (hcp : ∀ f args r cs, cp f args = some (r, cs) → Holds cs → cf f args = some r) : ∀ (l : List ICode) {s : St} {q q' : List Bool} {o : Out} {cs : Cs}, evLP E cf cp fuel l s q = (o, q', cs) → o ≠ .no → Holds cs → evL E cf fuel l s = o
  | [], s, q, q', o, cs, h, _, _ => by simp only [evLP, Prod.mk.injEq] at h; rw [← h.1]; rfl
  | c :: l, s, q, q', o, cs, h, hn, hc => by
    simp only [evLP] at h
    split at h
    · rename_i s1 q1 c1 he
      generalize hb : evLP E cf cp fuel l s1 q1 = rb at h
      obtain ⟨o2, q2, c2⟩ := rb
      simp only [Prod.mk.injEq] at h
      obtain ⟨rfl, rfl, rfl⟩ := h
      obtain ⟨h1, h2⟩ := Holds.append.1 hc
      simp only [evL, evCP_ok hcp c he (by simp) h1]
      exact evLP_ok hcp l hb hn h2
    · rename_i hne
      have := evCP_ok hcp c h hn hc
      simp only [evL, this]
      cases o with
      | nx s1 => exact absurd h (by intro h'; exact hne _ _ _ h')
      | _ => rfl

end Go.AM

/- AM, part 39: loops, a round at a time: each begins by forgetting what is no longer wanted. -/
namespace Go.AM

/-- A round, and the forgetting behind it. -/
def roundN (E : Env) (cf : CallF) (fuel : Nat) (l : List Nat) (b : ICode) (s : St) : Out := evL E cf fuel [b, .live l] s

theorem rounds_norm {E : Env} {cf : CallF} {fuel : Nat} {l : List Nat} {b : ICode} : ∀ (k : Nat) (s : St), rounds (evC E cf fuel (.seq (.live l) b)) k s = rounds (roundN E cf fuel l b) k (s.keep l)
  | 0, _ => rfl
  | k + 1, s => by
    simp only [rounds, evC, roundN, evL]
    cases h : evC E cf fuel b (s.keep l) with
    | nx t => exact rounds_norm k t
    | _ => rfl

theorem rounds_nx {f : St → Out} {k : Nat} {s s' : St} (h : f s = .nx s') : rounds f (k + 1) s = rounds f k s' := by simp only [rounds, h]
theorem rounds_ex {f : St → Out} {k i : Nat} {s s' : St} (h : f s = .ex i s') : rounds f (k + 1) s = .ex i s' := by simp only [rounds, h]
theorem rounds_rt {f : St → Out} {k : Nat} {s s' : St} (h : f s = .rt s') : rounds f (k + 1) s = .rt s' := by simp only [rounds, h]

theorem evC_loop {E : Env} {cf : CallF} {fuel : Nat} {l : List Nat} {b : ICode} (s : St) : evC E cf fuel (.loop (.seq (.live l) b)) s = rounds (roundN E cf fuel l b) fuel (s.keep l) := by
  show rounds (evC E cf fuel (.seq (.live l) b)) fuel s = _
  exact rounds_norm fuel s

theorem evC_blk_ex {E : Env} {cf : CallF} {fuel i : Nat} {b : ICode} {s s' : St} (h : evC E cf fuel b s = .ex i s') : evC E cf fuel (.blk i b) s = .nx s' := by
  simp [evC, h]

end Go.AM

/- AM, part 40: more fuel, more depth: the same answer. -/
namespace Go.AM

section
variable {E : Env} {cf cf' : CallF}

theorem Lk.run_bind' {α β : Type} {ob : Nat → List AV} (f : α → Lk β) : ∀ (a : Lk α) (r : List Nat), (a.bind f).run ob r = (match a.run ob r with | some (x, r') => (f x).run ob r' | none => none)
  | .done _, _ => rfl
  | .fail, _ => rfl
  | .ask o g, r => by simp only [Lk.bind, Lk.run]; exact Lk.run_bind' f (g (ob o)) (o :: r)

theorem callOp_mono (hcf : ∀ f a r, cf f a = some r → cf' f a = some r) {f : Nat} {vs : List AV} {ob : Nat → List AV} {rd : List Nat} {x : Eff × List Nat} (h : (callOp E cf f vs).run ob rd = some x) : (callOp E cf' f vs).run ob rd = some x := by
  unfold callOp at h ⊢
  split
  · rename_i hfl
    rw [if_pos hfl] at h
    rw [Lk.run_bind'] at h ⊢
    split
    · rename_i us r' hr
      rw [hr] at h
      simp only at h
      cases hc : cf f us with
      | none => simp [hc, Lk.run] at h
      | some r => simpa [hc, hcf _ _ _ hc] using h
    · rename_i hr
      rw [hr] at h
      simp at h
  · rename_i hfl
    rw [if_neg hfl] at h
    rw [Lk.run_bind'] at h ⊢
    split
    · rename_i us r' hr
      rw [hr] at h
      simp only at h
      cases hc : cf f us.1 with
      | none => simp [hc, Lk.run] at h
      | some r => simpa [hc, hcf _ _ _ hc] using h
    · rename_i hr
      rw [hr] at h
      simp at h

theorem semOp_mono (hcf : ∀ f a r, cf f a = some r → cf' f a = some r) {ky : Nat} {op : IOp} {ρ : Opr → Option AV} {ob : Nat → List AV} {rd : List Nat} {x : Eff × List Nat} (h : (semOp E cf ky op ρ).run ob rd = some x) : (semOp E cf' ky op ρ).run ob rd = some x := by
  cases op with
  | call f as =>
    simp only [semOp] at h ⊢
    split
    · rename_i f' first cap vs hf hv
      simp only [hf, hv] at h
      exact callOp_mono hcf h
    · rename_i hno
      split at h
      · rename_i f' first cap vs hf hv
        exact (hno _ _ _ _ hf hv).elim
      · exact h
  | _ => exact h

theorem step_mono (hcf : ∀ f a r, cf f a = some r → cf' f a = some r) {o : IOper} {s : St} {x : St × List Nat × Eff} (h : step E cf o s = some x) : step E cf' o s = some x := by
  unfold step at h ⊢
  cases hw : s.wanted o.g with
  | none => simp [hw] at h
  | some b =>
    cases b with
    | false => simpa [hw] using h
    | true =>
      simp only [hw] at h ⊢
      cases hs : (semOp E cf (keyOf o.d) o.op s.val).run s.obj [] with
      | none => simp [hs] at h
      | some y => rw [semOp_mono hcf hs]; simpa [hs] using h

theorem evOps_mono (hcf : ∀ f a r, cf f a = some r → cf' f a = some r) : ∀ (l : List IOper) {s s' : St}, evOps E cf l s = some s' → evOps E cf' l s = some s'
  | [], _, _, h => h
  | o :: os, s, s', h => by
    simp only [evOps] at h ⊢
    cases hs : step E cf o s with
    | none => simp [hs] at h
    | some y => rw [step_mono hcf hs]; simp only [hs] at h; exact evOps_mono hcf os h

theorem evDraw_mono (hcf : ∀ f a r, cf f a = some r → cf' f a = some r) : ∀ (l : List IOper) (anc : List (List Nat)) (fts : List Ft) {s s' : St}, evDraw E cf l anc fts s = some s' → evDraw E cf' l anc fts s = some s'
  | [], _, _, _, _, h => h
  | o :: os, anc, fts, s, s', h => by
    simp only [evDraw] at h ⊢
    cases hs : step E cf o s with
    | none => simp [hs] at h
    | some y =>
      obtain ⟨s1, rd, e⟩ := y
      rw [step_mono hcf hs]
      simp only [hs] at h
      simp only
      split at h
      · rename_i hc
        rw [if_pos hc]
        exact evDraw_mono hcf os _ _ h
      · cases h

theorem rounds_mono {f g : St → Out} (hfg : ∀ s o, f s = o → o ≠ .no → g s = o) : ∀ {k k' : Nat} {s : St} {o : Out}, k ≤ k' → rounds f k s = o → o ≠ .no → rounds g k' s = o
  | 0, _, _, _, _, h, hn => absurd h.symm hn
  | k + 1, k', s, o, hk, h, hn => by
    obtain ⟨j, rfl⟩ : ∃ j, k' = j + 1 := ⟨k' - 1, by omega⟩
    simp only [rounds] at h ⊢
    cases hf : f s with
    | nx s' => rw [hfg _ _ hf (by simp)]; simp only [hf] at h; exact rounds_mono hfg (by omega) h hn
    | ex i s' => rw [hfg _ _ hf (by simp)]; simpa [hf] using h
    | rt s' => rw [hfg _ _ hf (by simp)]; simpa [hf] using h
    | no => simp only [hf] at h; exact absurd h.symm hn

theorem evC_mono (hcf : ∀ f a r, cf f a = some r → cf' f a = some r) {fuel fuel' : Nat} (hk : fuel ≤ fuel') : ∀ (c : ICode) {s : St} {o : Out}, evC E cf fuel c s = o → o ≠ .no → evC E cf' fuel' c s = o := by
  intro c
  induction c with
  | bad => intro s o h hn; exact absurd h.symm hn
  | skip => intro s o h _; exact h
  | ret => intro s o h _; exact h
  | exit i => intro s o h _; exact h
  | live l => intro s o h _; exact h
  | reg l =>
    intro s o h hn
    simp only [evC] at h ⊢
    cases he : evOps E cf l s with
    | none => simp only [he] at h; exact absurd h.symm hn
    | some s' => rw [evOps_mono hcf l he]; simpa [he] using h
  | drw l =>
    intro s o h hn
    simp only [evC] at h ⊢
    cases he : evDraw E cf l [] [] s with
    | none => simp only [he] at h; exact absurd h.symm hn
    | some s' => rw [evDraw_mono hcf l _ _ he]; simpa [he] using h
  | seq a b iha ihb =>
    intro s o h hn
    simp only [evC] at h ⊢
    cases he : evC E cf fuel a s with
    | nx s' => rw [iha he (by simp)]; simp only [he] at h; exact ihb h hn
    | ex i s' => rw [iha he (by simp)]; simpa [he] using h
    | rt s' => rw [iha he (by simp)]; simpa [he] using h
    | no => simp only [he] at h; exact absurd h.symm hn
  | cnd x a b iha ihb =>
    intro s o h hn
    simp only [evC] at h ⊢
    split
    · rename_i t ht
      simp only [ht] at h
      split
      · rename_i htt; rw [if_pos htt] at h; exact iha h hn
      · rename_i htt; rw [if_neg htt] at h; exact ihb h hn
    · rename_i hno
      split at h
      · rename_i t ht; exact absurd ht (hno t)
      · exact absurd h.symm hn
  | blk i b ih =>
    intro s o h hn
    simp only [evC] at h ⊢
    cases he : evC E cf fuel b s with
    | nx s' => rw [ih he (by simp)]; simpa [he] using h
    | ex j s' => rw [ih he (by simp)]; simpa [he] using h
    | rt s' => rw [ih he (by simp)]; simpa [he] using h
    | no => simp only [he] at h; exact absurd h.symm hn
  | loop b ih =>
    intro s o h hn
    simp only [evC] at h ⊢
    exact rounds_mono (fun s o hs hn => ih hs hn) hk h hn

end

/-- **More fuel and more depth: the same answer.** -/
theorem evF_mono {E : Env} {k k' : Nat} (hk : k ≤ k') : ∀ {d d' : Nat}, d ≤ d' → ∀ f a r, evF E k d f a = some r → evF E k' d' f a = some r
  | 0, _, _, _, _, _, h => by simp [evF] at h
  | d + 1, d', hd, f, a, r, h => by
    obtain ⟨j, rfl⟩ : ∃ j, d' = j + 1 := ⟨d' - 1, by omega⟩
    simp only [evF] at h ⊢
    cases hs : E.sm f a with
    | some x => simpa [hs] using h
    | none =>
      simp only [hs] at h ⊢
      cases hf : E.fs f with
      | none => simp [hf] at h
      | some fn =>
        simp only [hf] at h ⊢
        cases hc : evC E (evF E k d) k fn.body { tm := enter a, ob := [] } with
        | nx s' => rw [evC_mono (evF_mono hk (by omega)) hk _ hc (by simp)]; simpa [hc] using h
        | rt s' => rw [evC_mono (evF_mono hk (by omega)) hk _ hc (by simp)]; simpa [hc] using h
        | ex i s' => simp [hc] at h
        | no => simp [hc] at h

end Go.AM
