/-
  This text proves what its parts' remarks say, of the abstract machine (part Nil); no condition stands ahead of the claim's statement.
-/
import Derived.Test.YtbcnnmlphgpmlaaGreatDoorEc
import Derived.Test.YtbcnnmlphgpmlaaGreatDoorCards
import Derived.Test.YtbcnnmlphgpmlaaGreatDoorTie
import Derived.HandedShaped
import Derived.Carry
import Derived.Below
import Derived.ChangeVars
import Derived.ShutString
import Derived.ProofKit
import Derived.WalkKit

/- THE LAW 'EvalNil': whatever ciphertext and switch it is handed, it returns true; each argument reads behind the call as it read before. Its condition: the listed table is as the program's text lays it. -/
namespace Go.AM
open Go.ChangeShapes Go.WideShapes Go.ChangeAt Go.RowKit
open Go.Proofs.YtbcnnmlphgpmlaaGreatDoor
open Go.Proofs
set_option maxRecDepth 1000000

theorem own : ownKnob Pz.godebug = none := by kernel_rfl
theorem laidOut : laidOutB Pz = true := by kernel_rfl
abbrev laidZ : List (String × DataW Unit) := [("math/bits.deBruijn64tab", Rows.laid_math_bits_deBruijn64tab)]
theorem gTab : Pz.globalNamed "math/bits.deBruijn64tab" = some 0 := by kernel_rfl
theorem tTab : (Pz.globals[0]?).map (·.type) = some 282 := by kernel_rfl
def debN : List Int := [0, 1, 56, 2, 57, 49, 28, 3, 61, 58, 42, 50, 38, 29, 17, 4, 62, 47, 59, 36, 45, 43, 51, 22, 53, 39, 33, 30, 24, 18, 12, 5, 63, 55, 48, 27, 60, 41, 37, 16, 46, 35, 44, 21, 52, 32, 23, 11, 54, 26, 40, 15, 34, 20, 31, 10, 25, 14, 19, 9, 13, 8, 7, 6]
theorem debD : (Rows.laid_math_bits_deBruijn64tab : DataW Unit) = .agg (debN.map fun z => .lit (.int .u8 z)) := by kernel_rfl
theorem uTab : Pz.underlying 282 = some (.array debN.length 5) := by kernel_rfl
theorem uByte : Pz.underlying 5 = some (.int .u8) := by kernel_rfl
theorem cByte : Pz.cellsOf 5 = 1 := by kernel_rfl
theorem u26 : Pz.underlying 26 = some (.slice 60) := by kernel_rfl
theorem c25 : Pz.cellsOf 60 = 1 := by kernel_rfl
theorem globs_eq : globs = [(0, .agg (debN.map fun z => .int .u8 z))] := by kernel_rfl

/-- The table that is read. -/
theorem glob_in {W : World} (h : laidMetH Pz laidZ W) : GlobI globs W (Old W) := by
  rw [MakeChecks.laidMetH_plain _ _ _ (by kernel_rfl)] at h
  obtain ⟨ps, ⟨g, t, cs, f, p, q, hg, ht, hv, hd, _, _⟩, _, _⟩ := h
  obtain rfl := Option.some.inj (gTab.symm.trans hg)
  obtain rfl := Option.some.inj (tTab.symm.trans ht)
  rw [debD] at hd
  have hc := table_in hg hv uTab uByte cByte hd
  intro g' e hge
  rw [globs_eq] at hge
  simp only [getA] at hge
  split at hge
  · rename_i hg0
    have hg0 : 0 = g' := by simpa using hg0
    subst hg0
    simp only [Option.some.injEq] at hge
    subst hge
    refine ⟨.agg (debN.map fun z => .lit (.int .u8 z)), by simp [GV.era, GV.eraL_eq], by simp [GV.own, GV.ownL_eq], .pt false _ 0 0 (fun k l hl => ?_) (.agg _ (fun c hc => ?_) (fun c hc => ?_)) (fun _ => ⟨?_, by simp [GV.own, GV.ownL_eq]⟩) (fun h => by cases h)⟩
    · simp only [GV.leafs, List.getElem?_map] at hl
      obtain ⟨z, hz, rfl⟩ := map_some_inv hl
      rw [Nat.zero_add]; exact hc k z hz
    · obtain ⟨z, _, rfl⟩ := List.mem_map.1 hc
      exact .lit _ rfl
    · obtain ⟨z, _, rfl⟩ := List.mem_map.1 hc
      rfl
    · have := hc 0 0 rfl
      unfold World.cell? at this
      split at this
      · rename_i hh
        exact (Array.getElem?_eq_some_iff.1 hh).1
      · cases this
  · cases hge

theorem ct28 : Pz.cellTypes Pz.depth 28 = some [26] := by kernel_rfl
theorem ct48 : Pz.cellTypes Pz.depth 48 = some [26, 26] := by kernel_rfl
theorem c26 : Pz.cellsOf 26 = 1 := by kernel_rfl
theorem cc28 : Pz.cellsOf 28 = 1 := by kernel_rfl
theorem cc48 : Pz.cellsOf 48 = 2 := by kernel_rfl

section
variable {H : Type} {enc : TypeId × Value → H} {W : World} {base : Nat} {v : Value} {d : DataW H} {p : List MemPlace}

theorem cipher_in (hok : Value.okWide Pz W .any base 28 v) (h : DataW.Trod enc Pz W 0 (fun _ => true) true 28 v d p) : ∃ a : List AV, Pv W (Old W) K0 (.agg [.sl 0 false 1 a]) v := by
  simp only [Value.okWide, Tryz.underlying28] at hok
  obtain ⟨cs, rfl, hsz, ts, hts, _, hrow⟩ := hok
  rw [ct28] at hts
  obtain rfl := Option.some.inj hts
  obtain ⟨fuel, hf⟩ := h
  obtain ⟨xs, n, _, _, hlen, hxl, hel⟩ := DataW.trod_struct Tryz.underlying28 hf
  rw [cc28] at hsz
  obtain ⟨l⟩ := cs
  match l, hsz with
  | [c0], _ =>
    obtain ⟨u, hu, hok0⟩ := hrow 0 c0 rfl
    obtain rfl : 26 = u := by simpa using hu
    have h0 := hel 0 _ rfl
    simp only [Value.cells] at h0
    have hx0 : 0 < xs.length := by rw [hxl]; decide
    rw [List.getElem?_eq_getElem hx0] at h0
    obtain ⟨g, es, hcv, hown, hleaf, hT, hera⟩ := slice_in u26 c25 hok0 h0
    refine ⟨es, .agg [g], by simp [GV.era, GV.era.eraL, hera], by simp [GV.cv, GV.cv.cvL, hcv], .tree _ (.agg _ (fun c hc => ?_) (fun c hc => ?_)), by simp [GV.own, GV.own.ownL, hown]⟩
    · rw [List.mem_singleton.1 hc]; exact hT
    · rw [List.mem_singleton.1 hc]; exact hleaf

theorem switch_in (hok : Value.okWide Pz W .any base 48 v) (h : DataW.Trod enc Pz W 0 (fun _ => true) true 48 v d p) : ∃ a b : List AV, Pv W (Old W) K0 (.agg [.sl 0 false 1 a, .sl 0 false 1 b]) v := by
  simp only [Value.okWide, Tryz.underlying48] at hok
  obtain ⟨cs, rfl, hsz, ts, hts, _, hrow⟩ := hok
  rw [ct48] at hts
  obtain rfl := Option.some.inj hts
  obtain ⟨fuel, hf⟩ := h
  obtain ⟨xs, n, _, _, hlen, hxl, hel⟩ := DataW.trod_struct Tryz.underlying48 hf
  rw [cc48] at hsz
  obtain ⟨l⟩ := cs
  match l, hsz with
  | [c0, c1], _ =>
    obtain ⟨u, hu, hok0⟩ := hrow 0 c0 rfl
    obtain rfl : 26 = u := by simpa using hu
    obtain ⟨u, hu, hok1⟩ := hrow 1 c1 rfl
    obtain rfl : 26 = u := by simpa using hu
    have h0 := hel 0 _ rfl
    have h1 := hel 1 _ rfl
    simp only [Value.cells] at h0 h1
    have hx0 : 0 < xs.length := by rw [hxl]; decide
    have hx1 : 1 < xs.length := by rw [hxl]; decide
    rw [List.getElem?_eq_getElem hx0] at h0
    rw [List.getElem?_eq_getElem hx1] at h1
    obtain ⟨g, es, hcv, hown, hleaf, hT, hera⟩ := slice_in u26 c25 hok0 h0
    obtain ⟨g', es', hcv', hown', hleaf', hT', hera'⟩ := slice_in u26 c25 hok1 h1
    refine ⟨es, es', .agg [g, g'], by simp [GV.era, GV.era.eraL, hera, hera'], by simp [GV.cv, GV.cv.cvL, hcv, hcv'], .tree _ (.agg _ (fun c hc => ?_) (fun c hc => ?_)), by simp [GV.own, GV.own.ownL, hown, hown']⟩
    · simp only [List.mem_cons, List.not_mem_nil, or_false] at hc
      rcases hc with rfl | rfl
      · exact hT
      · exact hT'
    · simp only [List.mem_cons, List.not_mem_nil, or_false] at hc
      rcases hc with rfl | rfl
      · exact hleaf
      · exact hleaf'

end

/-- What was there stays as it was. -/
theorem Grow.below {w w' : World} (h : Grow w w') : Below w.heap.size w w' := ⟨h.os, h.tape, h.output, h.size, h.old⟩

/-- The call, in the model. -/
theorem walk {W : World} (hG : GlobI globs W (Old W)) {va vk : Value} {a b c : List AV} (ha : Pv W (Old W) K0 (.agg [.sl 0 false 1 a]) va) (hk : Pv W (Old W) K0 (.agg [.sl 0 false 1 b, .sl 0 false 1 c]) vk) :
    Calls Pz 10 #[va, vk] W fun e W' => e = .returned (.bool true) ∧ Below W.heap.size W W' := by
  have h := nil_ok a b c W (Old W) [va, vk] hG (fun _ h => h) (Pvs.cons ha (Pvs.cons hk Pvs.nil))
  rcases h with ⟨v, w', h1, _⟩ | ⟨_, h2⟩
  · have hb : Tryz.f10.body = some (Tryz.f10.body.getD .skip) := by kernel_rfl
    have hn : Tryz.f10.name ≠ "runtime.NumGoroutine" := by decide
    rw [run_callFunc Tryz.func10 hb hn] at h1
    cases h1
  · exact h2.mono fun e W' ⟨v, he, I', hE, hP⟩ => by
      have := hP.lit_inv
      subst this
      exact ⟨he, hE.grow.below⟩

theorem laid_met (os : Os) (args : Array Value) : laidMetH Pz laidZ ((World.doorLaid Pz 400 os).forCall (fun _ _ => 0) ⟨#[], args, []⟩).memory :=
  laidMetH_of_parts3 (fuel := 8) (laidMet_of_run' 8 (by kernel_rfl) (by kernel_rfl)) (by kernel_rfl) (by kernel_rfl)

theorem lifted (os : Os) (started : os.Started) (H : Type) (enc : TypeId × Value → H) :
    ReturnsInHanded {} Tryz.checked os 10 .any (fun w args => (Rows.evalNilSpec.pre enc Pz Tryz.f10 [] false w args ∧ laidMetH Pz laidZ w) ∧ sizedMet enc Pz Tryz.f10 (OpenSpec.ofChange Rows.evalNilSpec) false w args)
      (Rows.evalNilSpec.post enc Pz Tryz.f10 false true false false) := by
  refine returnsInHanded_of_change_and (C := Tryz.checked) (X := fun w _ => laidMetH Pz laidZ w) (fun _ _ _ hh h => h.of_heap hh) own started (by kernel_rfl) Tryz.func10
    (ChangeSpec.witness_shaped (enc := enc) (C := Tryz.checked) (os := os) (X := fun w _ => laidMetH Pz laidZ w) false (World.doorLaid Pz 400 os) #[.agg #[.slice none 0 0], .agg #[.slice none 0 0, .slice none 0 0]] 8 rfl (World.shaped_of_RefB (by kernel_rfl) (by kernel_rfl)) (by kernel_rfl) (by kernel_rfl) (by kernel_rfl) (laid_met os _)) ?_
  intro W base args ds gs before hval0 hW _ _ hL _
  have hval : ∀ (j : Nat) t v, Tryz.f10.params[j]? = some t → args[j]? = some v → Value.okWide Pz W .any base t v := hval0
  have hW' := hW
  obtain ⟨p, q, hA0, hV, rfl, hfz, hnd⟩ := hW
  have hA : DataW.TrodAll enc Pz W 0 (fun _ => true) true Tryz.f10.params.toList args.toList ds p := hA0
  rw [Tryz.params10] at hA hval
  obtain ⟨v0, vs0, d0, ds0, p0, q0, hargs, rfl, rfl, h0, r0⟩ := trodAll_cons hA
  obtain ⟨v1, vs1, d1, ds1, p1, q1, rfl, rfl, rfl, h1, r1⟩ := trodAll_cons r0
  obtain ⟨rfl, rfl, rfl⟩ := trodAll_nil r1
  obtain rfl : args = #[v0, v1] := by cases args; simp_all
  obtain ⟨rfl, rfl⟩ := trodVars_none hV
  have k0 := h0
  have k1 := h1
  have lt0 : ∀ x ∈ p0, x.block < W.heap.size := by obtain ⟨m, hm⟩ := k0; exact DataW.trod_lt m _ _ _ hm
  have lt1 : ∀ x ∈ p1, x.block < W.heap.size := by obtain ⟨m, hm⟩ := k1; exact DataW.trod_lt m _ _ _ hm
  obtain ⟨a, ha⟩ := cipher_in (hval 0 28 v0 rfl rfl) h0
  obtain ⟨b, c, hk⟩ := switch_in (hval 1 48 v1 rfl rfl) h1
  clear hA0 hval0
  refine (walk (glob_in hL) ha hk).mono fun e W' ⟨he, bel⟩ => ?_
  subst he
  exact ⟨_, rfl, _, _, _, [], _, [], hW', trodAll_mk1 (shut_bool Tryz.underlying4 _), (trodAll_cons_mk (Below.trod laidOut (by kernel_rfl) (of_decide_eq_true (by kernel_rfl)) k0 bel lt0) (trodAll_cons_mk (Below.trod laidOut (by kernel_rfl) (of_decide_eq_true (by kernel_rfl)) k1 bel lt1) trodAll_mk0)), rfl, bel.frame _, fun h => by cases h⟩

end Go.AM
namespace Go.Proofs.YtbcnnmlphgpmlaaGreatDoor
open Go.AM
set_option maxRecDepth 1000000
theorem evalNil_said : Rows.EvalNilSaid :=
  OpenClaim.holds_of_wide 10 Tryz.f10 rfl rfl rfl rfl rfl rfl rfl ⟨rfl, rfl, rfl, rfl, rfl⟩ rfl rfl rfl rfl rfl (by kernel_rfl) Tryz.func10 (by kernel_rfl)
    (of_decide_eq_true (by kernel_rfl)) (by unfold Func.isWrapper; first | (rw [if_pos (by decide +kernel)]; kernel_rfl) | (rw [if_neg (by decide +kernel)]; exact ⟨rfl, rfl⟩))
    (fun os started H enc _ => lifted os started H enc)

/-- The card. -/
theorem evalNil_card : Rows.EvalNilCardSaid :=
  Claim7.holds_tied_plain_at .later [] [.data] true (true, "57d57b9190af6991d57807ed171984b0aebf27c2086aefe24f2cd888a68fdb20") false
    evalNil_said (fun _ h => by cases h) (by kernel_rfl) (fun _ h => by cases h) evalNil_row_tie rfl ⟨rfl, rfl⟩ (by kernel_rfl) rfl
    (fun f fn hf hfn => by
      obtain rfl : f = 10 := Option.some.inj ((show Tryz.prog.funcNamed "arras/arraslaw13.EvalNil" = some 10 by kernel_rfl).symm.trans hf) |>.symm
      obtain rfl : fn = Tryz.f10 := (Option.some.inj (Tryz.func10.symm.trans hfn)).symm
      exact ⟨by kernel_rfl, fun j t ht => by
        rw [Tryz.params10] at ht
        have hm : t ∈ [28, 48] := by simpa using Array.mem_of_getElem? ht
        have hall : ([28, 48].all fun u => !Tryz.prog.wantsStandIn u) = true := by kernel_rfl
        exact (show Tryz.prog.wantsStandIn t = false by simpa using List.all_eq_true.1 hall t hm)⟩)
    (by kernel_rfl)
end Go.Proofs.YtbcnnmlphgpmlaaGreatDoor
