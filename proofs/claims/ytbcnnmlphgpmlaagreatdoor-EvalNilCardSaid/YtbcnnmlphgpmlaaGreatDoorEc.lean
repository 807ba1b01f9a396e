/-
  This text proves what its parts' remarks say, of the abstract machine (part Ec); no condition stands ahead of the claim's statement.
-/
import Derived.Test.YtbcnnmlphgpmlaaGreatDoorEb
import Derived.Handed
import Derived.LaidLaws
import Derived.LaidHandle
import Derived.LaidMore
import Derived.MakeChecks
import Derived.OpenShut
import Derived.WideShapes
import Derived.ChangeArms

/- A nil eval answers that it is none, whatever it is handed. -/
namespace Go.AM
set_option maxRecDepth 1000000
def sm4 : CallF := fun f args => if Nat.beq f 11 then (match args with | [] => some (.bool true) | _ => none) else sm3 f args
def env4 : Env := { env with sm := sm4 }
theorem sm4_ok : ∀ f args r, sm4 f args = some r → CallOK Pz globs f args r := by
  intro f args r h
  unfold sm4 at h
  split at h
  · rename_i hf
    have hf : f = 11 := Nat.eq_of_beq_eq_true hf
    subst hf
    split at h
    · simp only [Option.some.injEq] at h
      subst h
      exact fixed_ok
    · cases h
  · exact sm3_ok f args r h
theorem env4_ok : EnvOK Pz globs env4 := ⟨env_ok.fs, sm4_ok⟩
theorem nil_ev (a b c : List AV) : evF env4 100 30 10 [.agg [.sl 0 false 1 a], .agg [.sl 0 false 1 b, .sl 0 false 1 c]] = some (.bool true) := by kernel_rfl
theorem nil_ok (a b c : List AV) : CallOK Pz globs 10 [.agg [.sl 0 false 1 a], .agg [.sl 0 false 1 b, .sl 0 false 1 c]] (.bool true) := evF_sound mixed env4_ok 30 10 _ _ (nil_ev a b c)
end Go.AM

/- What the law's arguments and the listed table are in memory. -/
namespace Go.AM
set_option maxRecDepth 1000000

/-- All blocks that there are. -/
def Old (w : World) (b : Nat) : Prop := b < w.heap.size

/-- A slice that came in whose elements are of one cell each: a row of which nothing is told. -/
theorem slice_in {P : Program} {w : World} {base : Nat} {sp : Nat → Bool} {held : Bool} {H : Type} {enc : TypeId × Value → H} {fuel : Nat} {t e : TypeId} {v : Value} {x : DataW H × List MemPlace} (ht : P.underlying t = some (.slice e)) (he : P.cellsOf e = 1)
    (hok : Cell.okWide P w .any base t v) (h : DataW.trod enc P w 0 sp held fuel t [v] = some x) :
    ∃ (g : GV) (es : List AV), g.cv = v ∧ g.own = [] ∧ g.leafy = true ∧ HT w (Old w) K0 g ∧ g.era = .sl 0 false 1 es := by
  rcases DataW.trod_slice ht h with ⟨hcs, _⟩ | ⟨a, len, cap, elems, rest, n, _, hcs, hx, _, hl, _, hlen, hel, _⟩
  · simp only [List.cons.injEq, and_true] at hcs
    subst hcs
    exact ⟨.nl 0 false 1, [], rfl, rfl, rfl, .nl 0 false 1 rfl, rfl⟩
  · simp only [List.cons.injEq, and_true] at hcs
    subst hcs
    simp only [Cell.okWide, ht, Cell.ok] at hok
    obtain ⟨_, _, _, hspot, row, cells, hsh, _⟩ := hok
    obtain ⟨b, off, spot⟩ := a
    simp only at hspot hsh
    subst hspot
    have hb : b < w.heap.size := by
      unfold World.shape? at hsh
      split at hsh
      · rename_i hh
        exact (Array.getElem?_eq_some_iff.1 hh).1
      · cases hsh
    have hcell : ∀ i, i < len → ∃ c, w.cell? ⟨b, off + i, none⟩ = some c := by
      intro i hi
      have hE := hel i hi
      rw [he, Nat.mul_one] at hE
      have hi' : i < elems.length := by omega
      rw [List.getElem?_eq_getElem hi'] at hE
      simp only [Option.bind_eq_some_iff] at hE
      obtain ⟨c1, hc1, _⟩ := hE
      have e0 : ((⟨b, off, none⟩ : Addr).add i).add 0 = ⟨b, off + i, none⟩ := by simp [Addr.add]
      unfold World.cells? at hc1
      split at hc1
      · simp only [List.range_succ, List.range_zero, List.nil_append, List.mapM_cons, List.mapM_nil, e0] at hc1
        cases hcc : w.cell? ⟨b, off + i, none⟩ with
        | none => simp [hcc] at hc1
        | some c => exact ⟨c, rfl⟩
      · cases hc1
    let f : Nat → GV := fun i => .dead ((w.cell? ⟨b, off + i, none⟩).getD (.bool false))
    refine ⟨.sl 0 false 1 ((List.range len).map f) b off cap, ((List.range len).map f).map GV.era, ?_, ?_, rfl, ?_, ?_⟩
    · simp [GV.cv, GV.lenL_eq]
    · simp only [GV.own, ownM]
      simp [GV.ownL_eq, f, GV.own]
    · refine .sl 0 false 1 _ b off cap (by simpa using hl) (fun i g hg => ?_) (fun g hg => ?_) (fun _ => ⟨hb, ?_⟩) (fun h => by cases h) (fun h => by cases h) (fun h => by cases h)
      · have hi : i < len := by
          have := (List.getElem?_eq_some_iff.1 hg).1
          simpa using this
        rw [List.getElem?_map, List.getElem?_range hi] at hg
        simp only [Option.map_some, Option.some.injEq] at hg
        subst hg
        refine ⟨rfl, fun k l hl => ?_⟩
        obtain ⟨c, hc⟩ := hcell i hi
        cases k with
        | zero =>
          simp only [f, GV.leafs, List.getElem?_cons_zero, Option.some.injEq] at hl
          subst hl
          simp only [GV.cv, Nat.mul_one, Nat.add_zero, hc, Option.getD_some]
        | succ k => simp [f, GV.leafs] at hl
      · obtain ⟨j, _, rfl⟩ := List.mem_map.1 hg
        exact .dead _
      · simp [GV.ownL_eq, f, GV.own]
    · simp [GV.era, GV.eraL_eq]

/-- A listed table of numbers stands in its variable. -/
theorem table_in {P : Program} {w : World} {H : Type} {enc : TypeId × Value → H} {sp : Nat → Bool} {held : Bool} {n : String} {g : Nat} {t e : TypeId} {k : IntKind} {cs : Array Value} {fuel : Nat} {ns : List Int} {p : List MemPlace}
    (hg : P.globalNamed n = some g) (hv : w.var? P n = some cs) (ht : P.underlying t = some (.array ns.length e)) (he : P.underlying e = some (.int k)) (hc : P.cellsOf e = 1)
    (h : DataW.trod enc P w 0 sp held fuel t cs.toList = some (.agg (ns.map fun z => .lit (.int k z)), p)) : ∀ i z, ns[i]? = some z → w.cell? ⟨g, i, none⟩ = some (.int k z) := by
  intro i z hz
  obtain ⟨xs, m, _, hx, _, hlen, hel⟩ := DataW.trod_array ht h
  have hi : i < ns.length := (List.getElem?_eq_some_iff.1 hz).1
  have hE := hel i hi
  simp only [Prod.mk.injEq, DataW.agg.injEq] at hx
  rw [hc, Nat.mul_one] at hE
  have hi' : i < xs.length := by omega
  rw [List.getElem?_eq_getElem hi'] at hE
  obtain ⟨q, hq, hq2, _⟩ := DataW.trod_int he hE
  have h1 : (xs.map (·.1))[i]? = some (.lit (.int k z)) := by rw [← hx.1, List.getElem?_map, hz]; rfl
  rw [List.getElem?_map, List.getElem?_eq_getElem hi', Option.map_some, hq2] at h1
  simp only [Option.some.injEq, DataW.lit.injEq, Lit.int.injEq, true_and] at h1
  subst h1
  rw [World.var?_cell hg hv i, ← Array.getElem?_toList]
  have h2 : (cs.toList.drop i).take 1 = [Value.int k q] := hq
  have h3 : (cs.toList.drop i)[0]? = some (.int k q) := by
    have : ((cs.toList.drop i).take 1)[0]? = some (.int k q) := by rw [h2]; rfl
    simpa using this
  simpa using h3

end Go.AM
