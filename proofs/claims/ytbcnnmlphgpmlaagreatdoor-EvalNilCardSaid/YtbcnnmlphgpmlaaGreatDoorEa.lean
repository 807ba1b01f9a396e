/-
  This text proves what its parts' remarks say, of the abstract machine (part Ea); no condition stands ahead of the claim's statement.
-/
import Derived.Test.YtbcnnmlphgpmlaaGreatDoorDi
import Derived.Test.YtbcnnmlphgpmlaaGreatDoorChk

namespace Go.AM
def u64b (x : Int) : Bool := match x with
  | .ofNat n => Nat.ble n 18446744073709551615
  | .negSucc _ => false
def sm2 : CallF := fun f args =>
  if Nat.beq f 193 then match args with
    | [.lit (.int .u64 (.ofNat x)), .lit (.int .u64 (.ofNat y)), .lit (.int .u64 (.ofNat m))] => if Nat.ble x 18446744073709551615 && Nat.ble y 18446744073709551615 && Nat.ble 1 m && Nat.ble m 18446744073709551615 then some (.int .u64 (.ofNat (x * y % m))) else none
    | _ => none
  else if Nat.beq f 228 then match args with
    | [.lit (.int .u64 (.ofNat x)), .lit (.int .u64 (.ofNat y)), .lit (.int .u64 (.ofNat m))] => if Nat.ble x 18446744073709551615 && Nat.ble y 18446744073709551615 && Nat.ble 1 m && Nat.ble m 18446744073709551615 then some (.int .u64 (.ofNat (pw 64 (1 % m) x y m))) else none
    | _ => none
  else env.sm f args
def env2 : Env := { env with sm := sm2 }
end Go.AM

/- What the fixed calls come to; a nil eval. -/
namespace Go.AM
set_option maxRecDepth 1000000
noncomputable abbrev Pz := Go.Proofs.Tryz.prog

theorem sm2_ok : ∀ f args r, sm2 f args = some r → CallOK Pz globs f args r := by
  intro f args r h
  unfold sm2 at h
  split at h
  · rename_i hf
    have hf : f = 193 := Nat.eq_of_beq_eq_true hf
    subst hf
    split at h
    · rename_i x y m
      split at h
      · rename_i hc
        simp only [Bool.and_eq_true, Nat.ble_eq] at hc
        simp only [Option.some.injEq] at h
        subst h
        exact evF_sound mixed env_ok 4 193 _ _ (mulW 0 x y m (by omega) (by omega) (by omega) (by omega))
      · cases h
    · cases h
  · split at h
    · rename_i hf
      have hf : f = 228 := Nat.eq_of_beq_eq_true hf
      subst hf
      split at h
      · rename_i x y m
        split at h
        · rename_i hc
          simp only [Bool.and_eq_true, Nat.ble_eq] at hc
          simp only [Option.some.injEq] at h
          subst h
          exact evF_sound mixed env_ok 5 228 _ _ (powW 0 x y m (by omega) (by omega) (by omega) (by omega))
        · cases h
      · cases h
    · exact env_ok.sm f args r h

theorem env2_ok : EnvOK Pz globs env2 := ⟨env_ok.fs, sm2_ok⟩


def t125_17 : AV := .tup [.pt false (.agg [.int .i64 (.ofNat 8), .int .u64 (.ofNat 17), .int .u64 (.ofNat 15), .sl 0 true 1 [.int .u64 (.ofNat 1), .int .u64 (.ofNat 3), .int .u64 (.ofNat 9), .int .u64 (.ofNat 10), .int .u64 (.ofNat 13), .int .u64 (.ofNat 5), .int .u64 (.ofNat 15), .int .u64 (.ofNat 11)], .sl 0 true 1 [.int .u64 (.ofNat 1), .int .u64 (.ofNat 6), .int .u64 (.ofNat 2), .int .u64 (.ofNat 12), .int .u64 (.ofNat 4), .int .u64 (.ofNat 7), .int .u64 (.ofNat 8), .int .u64 (.ofNat 14)]]), .int .i64 (.ofNat 0)]
def t125_97 : AV := .tup [.pt false (.agg [.int .i64 (.ofNat 8), .int .u64 (.ofNat 97), .int .u64 (.ofNat 85), .sl 0 true 1 [.int .u64 (.ofNat 1), .int .u64 (.ofNat 8), .int .u64 (.ofNat 64), .int .u64 (.ofNat 27), .int .u64 (.ofNat 22), .int .u64 (.ofNat 79), .int .u64 (.ofNat 50), .int .u64 (.ofNat 12)], .sl 0 true 1 [.int .u64 (.ofNat 1), .int .u64 (.ofNat 85), .int .u64 (.ofNat 47), .int .u64 (.ofNat 18), .int .u64 (.ofNat 75), .int .u64 (.ofNat 70), .int .u64 (.ofNat 33), .int .u64 (.ofNat 89)]]), .int .i64 (.ofNat 0)]
def t125_193 : AV := .tup [.pt false (.agg [.int .i64 (.ofNat 8), .int .u64 (.ofNat 193), .int .u64 (.ofNat 169), .sl 0 true 1 [.int .u64 (.ofNat 1), .int .u64 (.ofNat 3), .int .u64 (.ofNat 9), .int .u64 (.ofNat 27), .int .u64 (.ofNat 81), .int .u64 (.ofNat 50), .int .u64 (.ofNat 150), .int .u64 (.ofNat 64)], .sl 0 true 1 [.int .u64 (.ofNat 1), .int .u64 (.ofNat 129), .int .u64 (.ofNat 43), .int .u64 (.ofNat 143), .int .u64 (.ofNat 112), .int .u64 (.ofNat 166), .int .u64 (.ofNat 184), .int .u64 (.ofNat 190)]]), .int .i64 (.ofNat 0)]
def t125_2305843009213693921 : AV := .tup [.pt false (.agg [.int .i64 (.ofNat 8), .int .u64 (.ofNat 2305843009213693921), .int .u64 (.ofNat 2017612633061982181), .sl 0 true 1 [.int .u64 (.ofNat 1), .int .u64 (.ofNat 378544403021442738), .int .u64 (.ofNat 2245462399116318643), .int .u64 (.ofNat 842622794965585324), .int .u64 (.ofNat 583529827753931384), .int .u64 (.ofNat 1775694425901431138), .int .u64 (.ofNat 372360517656615300), .int .u64 (.ofNat 511752826216178310)], .sl 0 true 1 [.int .u64 (.ofNat 1), .int .u64 (.ofNat 1794090182997515611), .int .u64 (.ofNat 1933482491557078621), .int .u64 (.ofNat 530148583312262783), .int .u64 (.ofNat 1722313181459762537), .int .u64 (.ofNat 1463220214248108597), .int .u64 (.ofNat 60380610097375278), .int .u64 (.ofNat 1927298606192251183)]]), .int .i64 (.ofNat 0)]

/-- Primes that are asked for again and again. -/
def asked (n : Nat) : Bool := Nat.beq n 17 || Nat.beq n 97 || Nat.beq n 193 || Nat.beq n 2305843009213693921
def t125 (q : Nat) : Option AV := if Nat.beq q 17 then some t125_17 else if Nat.beq q 97 then some t125_97 else if Nat.beq q 193 then some t125_193 else if Nat.beq q 2305843009213693921 then some t125_2305843009213693921 else none
def sm3 : CallF := fun f args =>
  if Nat.beq f 188 then match args with
    | [.lit (.int .u64 (.ofNat n))] => if asked n then some (.bool true) else none
    | _ => none
  else if Nat.beq f 125 then match args with
    | [.lit (.int .i64 (.ofNat k)), .lit (.int .u64 (.ofNat n))] => if Nat.beq k 8 then t125 n else none
    | _ => none
  else sm2 f args
def env3 : Env := { env with sm := sm3 }
theorem is17 : evF env2 100 20 188 [.int .u64 (.ofNat 17)] = some (.bool true) := by kernel_rfl
theorem new17 : evF env2 100 20 125 [.int .i64 (.ofNat 8), .int .u64 (.ofNat 17)] = some t125_17 := by kernel_rfl
theorem is97 : evF env2 100 20 188 [.int .u64 (.ofNat 97)] = some (.bool true) := by kernel_rfl
theorem new97 : evF env2 100 20 125 [.int .i64 (.ofNat 8), .int .u64 (.ofNat 97)] = some t125_97 := by kernel_rfl
theorem is193 : evF env2 100 20 188 [.int .u64 (.ofNat 193)] = some (.bool true) := by kernel_rfl
theorem new193 : evF env2 100 20 125 [.int .i64 (.ofNat 8), .int .u64 (.ofNat 193)] = some t125_193 := by kernel_rfl
theorem is2305843009213693921 : evF env2 100 20 188 [.int .u64 (.ofNat 2305843009213693921)] = some (.bool true) := by kernel_rfl
theorem new2305843009213693921 : evF env2 100 20 125 [.int .i64 (.ofNat 8), .int .u64 (.ofNat 2305843009213693921)] = some t125_2305843009213693921 := by kernel_rfl
theorem sm3_ok : ∀ f args r, sm3 f args = some r → CallOK Pz globs f args r := by
  intro f args r h
  unfold sm3 at h
  split at h
  · rename_i hf
    have hf : f = 188 := Nat.eq_of_beq_eq_true hf
    subst hf
    split at h
    · rename_i n
      split at h
      · rename_i hc
        simp only [Option.some.injEq] at h
        subst h
        simp only [asked, Bool.or_eq_true, Nat.beq_eq] at hc
        rcases hc with ((rfl | rfl) | rfl) | rfl
        · exact evF_sound mixed env2_ok 20 188 _ _ is17
        · exact evF_sound mixed env2_ok 20 188 _ _ is97
        · exact evF_sound mixed env2_ok 20 188 _ _ is193
        · exact evF_sound mixed env2_ok 20 188 _ _ is2305843009213693921
      · cases h
    · cases h
  · split at h
    · rename_i hf
      have hf : f = 125 := Nat.eq_of_beq_eq_true hf
      subst hf
      split at h
      · rename_i k n
        split at h
        · rename_i hk
          have hk : k = 8 := Nat.eq_of_beq_eq_true hk
          subst hk
          unfold t125 at h
          split at h
          · rename_i hq
            have hq : n = 17 := Nat.eq_of_beq_eq_true hq
            subst hq
            simp only [Option.some.injEq] at h
            subst h
            exact evF_sound mixed env2_ok 20 125 _ _ new17
          · split at h
            · rename_i hq
              have hq : n = 97 := Nat.eq_of_beq_eq_true hq
              subst hq
              simp only [Option.some.injEq] at h
              subst h
              exact evF_sound mixed env2_ok 20 125 _ _ new97
            · split at h
              · rename_i hq
                have hq : n = 193 := Nat.eq_of_beq_eq_true hq
                subst hq
                simp only [Option.some.injEq] at h
                subst h
                exact evF_sound mixed env2_ok 20 125 _ _ new193
              · split at h
                · rename_i hq
                  have hq : n = 2305843009213693921 := Nat.eq_of_beq_eq_true hq
                  subst hq
                  simp only [Option.some.injEq] at h
                  subst h
                  exact evF_sound mixed env2_ok 20 125 _ _ new2305843009213693921
                · cases h
        · cases h
      · cases h
    · exact sm2_ok f args r h
theorem env3_ok : EnvOK Pz globs env3 := ⟨env_ok.fs, sm3_ok⟩

end Go.AM
