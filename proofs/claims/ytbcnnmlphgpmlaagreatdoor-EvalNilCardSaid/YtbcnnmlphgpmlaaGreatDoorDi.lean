/-
  This text proves what its parts' remarks say, of the abstract machine (part Di); no condition stands ahead of the claim's statement.
-/
import Derived.Test.YtbcnnmlphgpmlaaGreatDoorIrB
import Derived.Test.YtbcnnmlphgpmlaaGreatDoorMc
import Derived.Lib.BitFns

namespace Go.AM
set_option maxRecDepth 100000
def nop : CallP := fun _ _ => none
theorem nop_ok {cf : CallF} : ∀ f args r cs, nop f args = some (r, cs) → Holds cs → cf f args = some r := fun _ _ _ _ h => nomatch h
def sp230 := spine ir230.body
def S0 (y s yn1 yn0 un32 un1 un0 q r : Int) : St := { tm := [(2, .int .u64 y), (8, .int .u64 s), (9, .int .u64 yn1), (10, .int .u64 yn0), (11, .int .u64 un32), (13, .int .u64 un1), (14, .int .u64 un0), (15, .int .u64 q), (16, .int .u64 r)], ob := [] }
def R0 (y s yn1 yn0 un32 un1 un0 q : Int) : St := { tm := [(2, .int .u64 y), (8, .int .u64 s), (9, .int .u64 yn1), (10, .int .u64 yn0), (11, .int .u64 un32), (13, .int .u64 un1), (14, .int .u64 un0), (15, .int .u64 q)], ob := [] }
def c28 := (sp230.drop 28).take 2
def c36 := (sp230.drop 36).take 2
def S2 (y s yn1 yn0 un0 q un21 r q0 : Int) : St := { tm := [(2, .int .u64 y), (8, .int .u64 s), (9, .int .u64 yn1), (10, .int .u64 yn0), (14, .int .u64 un0), (15, .int .u64 q), (16, .int .u64 r), (17, .int .u64 un21), (18, .int .u64 q0)], ob := [] }
def R2 (y s un0 q un21 q0 : Int) : St := { tm := [(2, .int .u64 y), (8, .int .u64 s), (14, .int .u64 un0), (15, .int .u64 q), (17, .int .u64 un21), (18, .int .u64 q0)], ob := [] }
def lF : List Bool := [true, true, true, true, true, true, true, true, false, false]
def lT : List Bool := [true, true, true, true, true, true, true, true, false, true]
def lS : List Bool := [false, false, false, false, false, false, false, false, true, true]
def gt32 (q : Int) : Bool := decide (q ≥ 4294967296)
def over (q yn0 r un : Int) : Bool := decide (w64 (q * yn0) > w64 (w64 (4294967296 * r) + un))
def g8 (q : Int) (b : Bool) : Cs := [(gt32 q == false, b), (gt32 q == false, b), (gt32 q == false, b), (gt32 q == false, b), (gt32 q == false, b), (gt32 q == false, b), (gt32 q == false, b), (gt32 q == false, b)]
def kF (q yn0 r un : Int) : Cs := g8 q true ++ [(gt32 q, false), (over q yn0 r un, false)]
def kT (q yn0 r un : Int) : Cs := g8 q true ++ [(gt32 q, false), (over q yn0 r un, true)]
def kS (q _yn0 _r _un : Int) : Cs := g8 q false ++ [(gt32 q, true), (true, true)]
theorem kF_ok {q yn0 r un : Int} (h1 : gt32 q = false) (h2 : over q yn0 r un = false) : Holds (kF q yn0 r un) := by simp [kF, g8, Holds, h1, h2]
theorem kT_ok {q yn0 r un : Int} (h1 : gt32 q = false) (h2 : over q yn0 r un = true) : Holds (kT q yn0 r un) := by simp [kT, g8, Holds, h1, h2]
theorem kS_ok {q yn0 r un : Int} (h1 : gt32 q = true) : Holds (kS q yn0 r un) := by simp [kS, g8, Holds, h1]
theorem one_ok {a b : Bool} (h : a = b) : Holds [(a, b)] := by simp [Holds, h]
theorem app_ok {a b : Cs} (h1 : Holds a) (h2 : Holds b) : Holds (a ++ b) := Holds.append.2 ⟨h1, h2⟩

theorem a0p (cf : CallF) (y s yn1 yn0 un32 un1 un0 q r : Int) : evLP env cf nop 10 c28 (S0 y s yn1 yn0 un32 un1 un0 q r) (lF) = (.nx (R0 y s yn1 yn0 un32 un1 un0 (q)), [], kF (q) yn0 (r) un1) := by kernel_rfl
theorem a0 (cf : CallF) (y s yn1 yn0 un32 un1 un0 q r : Int) (h1 : gt32 (q) = false) (g1 : over (q) yn0 (r) un1 = false) : evL env cf 10 c28 (S0 y s yn1 yn0 un32 un1 un0 q r) = .nx (R0 y s yn1 yn0 un32 un1 un0 (q)) := evLP_ok nop_ok _ (a0p cf y s yn1 yn0 un32 un1 un0 q r) (by simp) (kF_ok h1 g1)
theorem a1p (cf : CallF) (y s yn1 yn0 un32 un1 un0 q r : Int) : evLP env cf nop 10 c28 (S0 y s yn1 yn0 un32 un1 un0 q r) (lT ++ ([true])) = (.nx (R0 y s yn1 yn0 un32 un1 un0 (w64 (q - 1))), [], kT (q) yn0 (r) un1 ++ ([(gt32 (w64 (r + yn1)), true)])) := by kernel_rfl
theorem a1 (cf : CallF) (y s yn1 yn0 un32 un1 un0 q r : Int) (h1 : gt32 (q) = false) (g1 : over (q) yn0 (r) un1 = true) (m1 : gt32 (w64 (r + yn1)) = true) : evL env cf 10 c28 (S0 y s yn1 yn0 un32 un1 un0 q r) = .nx (R0 y s yn1 yn0 un32 un1 un0 (w64 (q - 1))) := evLP_ok nop_ok _ (a1p cf y s yn1 yn0 un32 un1 un0 q r) (by simp) (app_ok (kT_ok h1 g1) (one_ok m1))
theorem a2p (cf : CallF) (y s yn1 yn0 un32 un1 un0 q r : Int) : evLP env cf nop 10 c28 (S0 y s yn1 yn0 un32 un1 un0 q r) (lT ++ ([false] ++ (lF))) = (.nx (R0 y s yn1 yn0 un32 un1 un0 (w64 (q - 1))), [], kT (q) yn0 (r) un1 ++ ([(gt32 (w64 (r + yn1)), false)] ++ (kF (w64 (q - 1)) yn0 (w64 (r + yn1)) un1))) := by kernel_rfl
theorem a2 (cf : CallF) (y s yn1 yn0 un32 un1 un0 q r : Int) (h1 : gt32 (q) = false) (g1 : over (q) yn0 (r) un1 = true) (m1 : gt32 (w64 (r + yn1)) = false) (h2 : gt32 (w64 (q - 1)) = false) (g2 : over (w64 (q - 1)) yn0 (w64 (r + yn1)) un1 = false) : evL env cf 10 c28 (S0 y s yn1 yn0 un32 un1 un0 q r) = .nx (R0 y s yn1 yn0 un32 un1 un0 (w64 (q - 1))) := evLP_ok nop_ok _ (a2p cf y s yn1 yn0 un32 un1 un0 q r) (by simp) (app_ok (kT_ok h1 g1) (app_ok (one_ok m1) (kF_ok h2 g2)))
theorem a3p (cf : CallF) (y s yn1 yn0 un32 un1 un0 q r : Int) : evLP env cf nop 10 c28 (S0 y s yn1 yn0 un32 un1 un0 q r) (lT ++ ([false] ++ (lT ++ ([true])))) = (.nx (R0 y s yn1 yn0 un32 un1 un0 (w64 (w64 (q - 1) - 1))), [], kT (q) yn0 (r) un1 ++ ([(gt32 (w64 (r + yn1)), false)] ++ (kT (w64 (q - 1)) yn0 (w64 (r + yn1)) un1 ++ ([(gt32 (w64 (w64 (r + yn1) + yn1)), true)])))) := by kernel_rfl
theorem a3 (cf : CallF) (y s yn1 yn0 un32 un1 un0 q r : Int) (h1 : gt32 (q) = false) (g1 : over (q) yn0 (r) un1 = true) (m1 : gt32 (w64 (r + yn1)) = false) (h2 : gt32 (w64 (q - 1)) = false) (g2 : over (w64 (q - 1)) yn0 (w64 (r + yn1)) un1 = true) (m2 : gt32 (w64 (w64 (r + yn1) + yn1)) = true) : evL env cf 10 c28 (S0 y s yn1 yn0 un32 un1 un0 q r) = .nx (R0 y s yn1 yn0 un32 un1 un0 (w64 (w64 (q - 1) - 1))) := evLP_ok nop_ok _ (a3p cf y s yn1 yn0 un32 un1 un0 q r) (by simp) (app_ok (kT_ok h1 g1) (app_ok (one_ok m1) (app_ok (kT_ok h2 g2) (one_ok m2))))
theorem a4p (cf : CallF) (y s yn1 yn0 un32 un1 un0 q r : Int) : evLP env cf nop 10 c28 (S0 y s yn1 yn0 un32 un1 un0 q r) (lT ++ ([false] ++ (lS ++ ([true])))) = (.nx (R0 y s yn1 yn0 un32 un1 un0 (w64 (w64 (q - 1) - 1))), [], kT (q) yn0 (r) un1 ++ ([(gt32 (w64 (r + yn1)), false)] ++ (kS (w64 (q - 1)) yn0 (w64 (r + yn1)) un1 ++ ([(gt32 (w64 (w64 (r + yn1) + yn1)), true)])))) := by kernel_rfl
theorem a4 (cf : CallF) (y s yn1 yn0 un32 un1 un0 q r : Int) (h1 : gt32 (q) = false) (g1 : over (q) yn0 (r) un1 = true) (m1 : gt32 (w64 (r + yn1)) = false) (h2 : gt32 (w64 (q - 1)) = true) (m2 : gt32 (w64 (w64 (r + yn1) + yn1)) = true) : evL env cf 10 c28 (S0 y s yn1 yn0 un32 un1 un0 q r) = .nx (R0 y s yn1 yn0 un32 un1 un0 (w64 (w64 (q - 1) - 1))) := evLP_ok nop_ok _ (a4p cf y s yn1 yn0 un32 un1 un0 q r) (by simp) (app_ok (kT_ok h1 g1) (app_ok (one_ok m1) (app_ok (kS_ok h2) (one_ok m2))))
theorem a5p (cf : CallF) (y s yn1 yn0 un32 un1 un0 q r : Int) : evLP env cf nop 10 c28 (S0 y s yn1 yn0 un32 un1 un0 q r) (lS ++ ([true])) = (.nx (R0 y s yn1 yn0 un32 un1 un0 (w64 (q - 1))), [], kS (q) yn0 (r) un1 ++ ([(gt32 (w64 (r + yn1)), true)])) := by kernel_rfl
theorem a5 (cf : CallF) (y s yn1 yn0 un32 un1 un0 q r : Int) (h1 : gt32 (q) = true) (m1 : gt32 (w64 (r + yn1)) = true) : evL env cf 10 c28 (S0 y s yn1 yn0 un32 un1 un0 q r) = .nx (R0 y s yn1 yn0 un32 un1 un0 (w64 (q - 1))) := evLP_ok nop_ok _ (a5p cf y s yn1 yn0 un32 un1 un0 q r) (by simp) (app_ok (kS_ok h1) (one_ok m1))
theorem a6p (cf : CallF) (y s yn1 yn0 un32 un1 un0 q r : Int) : evLP env cf nop 10 c28 (S0 y s yn1 yn0 un32 un1 un0 q r) (lS ++ ([false] ++ (lF))) = (.nx (R0 y s yn1 yn0 un32 un1 un0 (w64 (q - 1))), [], kS (q) yn0 (r) un1 ++ ([(gt32 (w64 (r + yn1)), false)] ++ (kF (w64 (q - 1)) yn0 (w64 (r + yn1)) un1))) := by kernel_rfl
theorem a6 (cf : CallF) (y s yn1 yn0 un32 un1 un0 q r : Int) (h1 : gt32 (q) = true) (m1 : gt32 (w64 (r + yn1)) = false) (h2 : gt32 (w64 (q - 1)) = false) (g2 : over (w64 (q - 1)) yn0 (w64 (r + yn1)) un1 = false) : evL env cf 10 c28 (S0 y s yn1 yn0 un32 un1 un0 q r) = .nx (R0 y s yn1 yn0 un32 un1 un0 (w64 (q - 1))) := evLP_ok nop_ok _ (a6p cf y s yn1 yn0 un32 un1 un0 q r) (by simp) (app_ok (kS_ok h1) (app_ok (one_ok m1) (kF_ok h2 g2)))
theorem a7p (cf : CallF) (y s yn1 yn0 un32 un1 un0 q r : Int) : evLP env cf nop 10 c28 (S0 y s yn1 yn0 un32 un1 un0 q r) (lS ++ ([false] ++ (lT ++ ([true])))) = (.nx (R0 y s yn1 yn0 un32 un1 un0 (w64 (w64 (q - 1) - 1))), [], kS (q) yn0 (r) un1 ++ ([(gt32 (w64 (r + yn1)), false)] ++ (kT (w64 (q - 1)) yn0 (w64 (r + yn1)) un1 ++ ([(gt32 (w64 (w64 (r + yn1) + yn1)), true)])))) := by kernel_rfl
theorem a7 (cf : CallF) (y s yn1 yn0 un32 un1 un0 q r : Int) (h1 : gt32 (q) = true) (m1 : gt32 (w64 (r + yn1)) = false) (h2 : gt32 (w64 (q - 1)) = false) (g2 : over (w64 (q - 1)) yn0 (w64 (r + yn1)) un1 = true) (m2 : gt32 (w64 (w64 (r + yn1) + yn1)) = true) : evL env cf 10 c28 (S0 y s yn1 yn0 un32 un1 un0 q r) = .nx (R0 y s yn1 yn0 un32 un1 un0 (w64 (w64 (q - 1) - 1))) := evLP_ok nop_ok _ (a7p cf y s yn1 yn0 un32 un1 un0 q r) (by simp) (app_ok (kS_ok h1) (app_ok (one_ok m1) (app_ok (kT_ok h2 g2) (one_ok m2))))
theorem a8p (cf : CallF) (y s yn1 yn0 un32 un1 un0 q r : Int) : evLP env cf nop 10 c28 (S0 y s yn1 yn0 un32 un1 un0 q r) (lS ++ ([false] ++ (lS ++ ([true])))) = (.nx (R0 y s yn1 yn0 un32 un1 un0 (w64 (w64 (q - 1) - 1))), [], kS (q) yn0 (r) un1 ++ ([(gt32 (w64 (r + yn1)), false)] ++ (kS (w64 (q - 1)) yn0 (w64 (r + yn1)) un1 ++ ([(gt32 (w64 (w64 (r + yn1) + yn1)), true)])))) := by kernel_rfl
theorem a8 (cf : CallF) (y s yn1 yn0 un32 un1 un0 q r : Int) (h1 : gt32 (q) = true) (m1 : gt32 (w64 (r + yn1)) = false) (h2 : gt32 (w64 (q - 1)) = true) (m2 : gt32 (w64 (w64 (r + yn1) + yn1)) = true) : evL env cf 10 c28 (S0 y s yn1 yn0 un32 un1 un0 q r) = .nx (R0 y s yn1 yn0 un32 un1 un0 (w64 (w64 (q - 1) - 1))) := evLP_ok nop_ok _ (a8p cf y s yn1 yn0 un32 un1 un0 q r) (by simp) (app_ok (kS_ok h1) (app_ok (one_ok m1) (app_ok (kS_ok h2) (one_ok m2))))
theorem b0p (cf : CallF) (y s yn1 yn0 un0 q1 un21 r q : Int) : evLP env cf nop 10 c36 (S2 y s yn1 yn0 un0 q1 un21 r q) (lF) = (.nx (R2 y s un0 q1 un21 (q)), [], kF (q) yn0 (r) un0) := by kernel_rfl
theorem b0 (cf : CallF) (y s yn1 yn0 un0 q1 un21 r q : Int) (h1 : gt32 (q) = false) (g1 : over (q) yn0 (r) un0 = false) : evL env cf 10 c36 (S2 y s yn1 yn0 un0 q1 un21 r q) = .nx (R2 y s un0 q1 un21 (q)) := evLP_ok nop_ok _ (b0p cf y s yn1 yn0 un0 q1 un21 r q) (by simp) (kF_ok h1 g1)
theorem b1p (cf : CallF) (y s yn1 yn0 un0 q1 un21 r q : Int) : evLP env cf nop 10 c36 (S2 y s yn1 yn0 un0 q1 un21 r q) (lT ++ ([true])) = (.nx (R2 y s un0 q1 un21 (w64 (q - 1))), [], kT (q) yn0 (r) un0 ++ ([(gt32 (w64 (r + yn1)), true)])) := by kernel_rfl
theorem b1 (cf : CallF) (y s yn1 yn0 un0 q1 un21 r q : Int) (h1 : gt32 (q) = false) (g1 : over (q) yn0 (r) un0 = true) (m1 : gt32 (w64 (r + yn1)) = true) : evL env cf 10 c36 (S2 y s yn1 yn0 un0 q1 un21 r q) = .nx (R2 y s un0 q1 un21 (w64 (q - 1))) := evLP_ok nop_ok _ (b1p cf y s yn1 yn0 un0 q1 un21 r q) (by simp) (app_ok (kT_ok h1 g1) (one_ok m1))
theorem b2p (cf : CallF) (y s yn1 yn0 un0 q1 un21 r q : Int) : evLP env cf nop 10 c36 (S2 y s yn1 yn0 un0 q1 un21 r q) (lT ++ ([false] ++ (lF))) = (.nx (R2 y s un0 q1 un21 (w64 (q - 1))), [], kT (q) yn0 (r) un0 ++ ([(gt32 (w64 (r + yn1)), false)] ++ (kF (w64 (q - 1)) yn0 (w64 (r + yn1)) un0))) := by kernel_rfl
theorem b2 (cf : CallF) (y s yn1 yn0 un0 q1 un21 r q : Int) (h1 : gt32 (q) = false) (g1 : over (q) yn0 (r) un0 = true) (m1 : gt32 (w64 (r + yn1)) = false) (h2 : gt32 (w64 (q - 1)) = false) (g2 : over (w64 (q - 1)) yn0 (w64 (r + yn1)) un0 = false) : evL env cf 10 c36 (S2 y s yn1 yn0 un0 q1 un21 r q) = .nx (R2 y s un0 q1 un21 (w64 (q - 1))) := evLP_ok nop_ok _ (b2p cf y s yn1 yn0 un0 q1 un21 r q) (by simp) (app_ok (kT_ok h1 g1) (app_ok (one_ok m1) (kF_ok h2 g2)))
theorem b3p (cf : CallF) (y s yn1 yn0 un0 q1 un21 r q : Int) : evLP env cf nop 10 c36 (S2 y s yn1 yn0 un0 q1 un21 r q) (lT ++ ([false] ++ (lT ++ ([true])))) = (.nx (R2 y s un0 q1 un21 (w64 (w64 (q - 1) - 1))), [], kT (q) yn0 (r) un0 ++ ([(gt32 (w64 (r + yn1)), false)] ++ (kT (w64 (q - 1)) yn0 (w64 (r + yn1)) un0 ++ ([(gt32 (w64 (w64 (r + yn1) + yn1)), true)])))) := by kernel_rfl
theorem b3 (cf : CallF) (y s yn1 yn0 un0 q1 un21 r q : Int) (h1 : gt32 (q) = false) (g1 : over (q) yn0 (r) un0 = true) (m1 : gt32 (w64 (r + yn1)) = false) (h2 : gt32 (w64 (q - 1)) = false) (g2 : over (w64 (q - 1)) yn0 (w64 (r + yn1)) un0 = true) (m2 : gt32 (w64 (w64 (r + yn1) + yn1)) = true) : evL env cf 10 c36 (S2 y s yn1 yn0 un0 q1 un21 r q) = .nx (R2 y s un0 q1 un21 (w64 (w64 (q - 1) - 1))) := evLP_ok nop_ok _ (b3p cf y s yn1 yn0 un0 q1 un21 r q) (by simp) (app_ok (kT_ok h1 g1) (app_ok (one_ok m1) (app_ok (kT_ok h2 g2) (one_ok m2))))
theorem b4p (cf : CallF) (y s yn1 yn0 un0 q1 un21 r q : Int) : evLP env cf nop 10 c36 (S2 y s yn1 yn0 un0 q1 un21 r q) (lT ++ ([false] ++ (lS ++ ([true])))) = (.nx (R2 y s un0 q1 un21 (w64 (w64 (q - 1) - 1))), [], kT (q) yn0 (r) un0 ++ ([(gt32 (w64 (r + yn1)), false)] ++ (kS (w64 (q - 1)) yn0 (w64 (r + yn1)) un0 ++ ([(gt32 (w64 (w64 (r + yn1) + yn1)), true)])))) := by kernel_rfl
theorem b4 (cf : CallF) (y s yn1 yn0 un0 q1 un21 r q : Int) (h1 : gt32 (q) = false) (g1 : over (q) yn0 (r) un0 = true) (m1 : gt32 (w64 (r + yn1)) = false) (h2 : gt32 (w64 (q - 1)) = true) (m2 : gt32 (w64 (w64 (r + yn1) + yn1)) = true) : evL env cf 10 c36 (S2 y s yn1 yn0 un0 q1 un21 r q) = .nx (R2 y s un0 q1 un21 (w64 (w64 (q - 1) - 1))) := evLP_ok nop_ok _ (b4p cf y s yn1 yn0 un0 q1 un21 r q) (by simp) (app_ok (kT_ok h1 g1) (app_ok (one_ok m1) (app_ok (kS_ok h2) (one_ok m2))))
theorem b5p (cf : CallF) (y s yn1 yn0 un0 q1 un21 r q : Int) : evLP env cf nop 10 c36 (S2 y s yn1 yn0 un0 q1 un21 r q) (lS ++ ([true])) = (.nx (R2 y s un0 q1 un21 (w64 (q - 1))), [], kS (q) yn0 (r) un0 ++ ([(gt32 (w64 (r + yn1)), true)])) := by kernel_rfl
theorem b5 (cf : CallF) (y s yn1 yn0 un0 q1 un21 r q : Int) (h1 : gt32 (q) = true) (m1 : gt32 (w64 (r + yn1)) = true) : evL env cf 10 c36 (S2 y s yn1 yn0 un0 q1 un21 r q) = .nx (R2 y s un0 q1 un21 (w64 (q - 1))) := evLP_ok nop_ok _ (b5p cf y s yn1 yn0 un0 q1 un21 r q) (by simp) (app_ok (kS_ok h1) (one_ok m1))
theorem b6p (cf : CallF) (y s yn1 yn0 un0 q1 un21 r q : Int) : evLP env cf nop 10 c36 (S2 y s yn1 yn0 un0 q1 un21 r q) (lS ++ ([false] ++ (lF))) = (.nx (R2 y s un0 q1 un21 (w64 (q - 1))), [], kS (q) yn0 (r) un0 ++ ([(gt32 (w64 (r + yn1)), false)] ++ (kF (w64 (q - 1)) yn0 (w64 (r + yn1)) un0))) := by kernel_rfl
theorem b6 (cf : CallF) (y s yn1 yn0 un0 q1 un21 r q : Int) (h1 : gt32 (q) = true) (m1 : gt32 (w64 (r + yn1)) = false) (h2 : gt32 (w64 (q - 1)) = false) (g2 : over (w64 (q - 1)) yn0 (w64 (r + yn1)) un0 = false) : evL env cf 10 c36 (S2 y s yn1 yn0 un0 q1 un21 r q) = .nx (R2 y s un0 q1 un21 (w64 (q - 1))) := evLP_ok nop_ok _ (b6p cf y s yn1 yn0 un0 q1 un21 r q) (by simp) (app_ok (kS_ok h1) (app_ok (one_ok m1) (kF_ok h2 g2)))
theorem b7p (cf : CallF) (y s yn1 yn0 un0 q1 un21 r q : Int) : evLP env cf nop 10 c36 (S2 y s yn1 yn0 un0 q1 un21 r q) (lS ++ ([false] ++ (lT ++ ([true])))) = (.nx (R2 y s un0 q1 un21 (w64 (w64 (q - 1) - 1))), [], kS (q) yn0 (r) un0 ++ ([(gt32 (w64 (r + yn1)), false)] ++ (kT (w64 (q - 1)) yn0 (w64 (r + yn1)) un0 ++ ([(gt32 (w64 (w64 (r + yn1) + yn1)), true)])))) := by kernel_rfl
theorem b7 (cf : CallF) (y s yn1 yn0 un0 q1 un21 r q : Int) (h1 : gt32 (q) = true) (m1 : gt32 (w64 (r + yn1)) = false) (h2 : gt32 (w64 (q - 1)) = false) (g2 : over (w64 (q - 1)) yn0 (w64 (r + yn1)) un0 = true) (m2 : gt32 (w64 (w64 (r + yn1) + yn1)) = true) : evL env cf 10 c36 (S2 y s yn1 yn0 un0 q1 un21 r q) = .nx (R2 y s un0 q1 un21 (w64 (w64 (q - 1) - 1))) := evLP_ok nop_ok _ (b7p cf y s yn1 yn0 un0 q1 un21 r q) (by simp) (app_ok (kS_ok h1) (app_ok (one_ok m1) (app_ok (kT_ok h2 g2) (one_ok m2))))
theorem b8p (cf : CallF) (y s yn1 yn0 un0 q1 un21 r q : Int) : evLP env cf nop 10 c36 (S2 y s yn1 yn0 un0 q1 un21 r q) (lS ++ ([false] ++ (lS ++ ([true])))) = (.nx (R2 y s un0 q1 un21 (w64 (w64 (q - 1) - 1))), [], kS (q) yn0 (r) un0 ++ ([(gt32 (w64 (r + yn1)), false)] ++ (kS (w64 (q - 1)) yn0 (w64 (r + yn1)) un0 ++ ([(gt32 (w64 (w64 (r + yn1) + yn1)), true)])))) := by kernel_rfl
theorem b8 (cf : CallF) (y s yn1 yn0 un0 q1 un21 r q : Int) (h1 : gt32 (q) = true) (m1 : gt32 (w64 (r + yn1)) = false) (h2 : gt32 (w64 (q - 1)) = true) (m2 : gt32 (w64 (w64 (r + yn1) + yn1)) = true) : evL env cf 10 c36 (S2 y s yn1 yn0 un0 q1 un21 r q) = .nx (R2 y s un0 q1 un21 (w64 (w64 (q - 1) - 1))) := evLP_ok nop_ok _ (b8p cf y s yn1 yn0 un0 q1 un21 r q) (by simp) (app_ok (kS_ok h1) (app_ok (one_ok m1) (app_ok (kS_ok h2) (one_ok m2))))
end Go.AM

namespace Go.AM
set_option maxRecDepth 100000
def tab8 : ByteArray := ⟨#[0, 1, 2, 2, 3, 3, 3, 3, 4, 4, 4, 4, 4, 4, 4, 4, 5, 5, 5, 5, 5, 5, 5, 5, 5, 5, 5, 5, 5, 5, 5, 5, 6, 6, 6, 6, 6, 6, 6, 6, 6, 6, 6, 6, 6, 6, 6, 6, 6, 6, 6, 6, 6, 6, 6, 6, 6, 6, 6, 6, 6, 6, 6, 6, 7, 7, 7, 7, 7, 7, 7, 7, 7, 7, 7, 7, 7, 7, 7, 7, 7, 7, 7, 7, 7, 7, 7, 7, 7, 7, 7, 7, 7, 7, 7, 7, 7, 7, 7, 7, 7, 7, 7, 7, 7, 7, 7, 7, 7, 7, 7, 7, 7, 7, 7, 7, 7, 7, 7, 7, 7, 7, 7, 7, 7, 7, 7, 7, 8, 8, 8, 8, 8, 8, 8, 8, 8, 8, 8, 8, 8, 8, 8, 8, 8, 8, 8, 8, 8, 8, 8, 8, 8, 8, 8, 8, 8, 8, 8, 8, 8, 8, 8, 8, 8, 8, 8, 8, 8, 8, 8, 8, 8, 8, 8, 8, 8, 8, 8, 8, 8, 8, 8, 8, 8, 8, 8, 8, 8, 8, 8, 8, 8, 8, 8, 8, 8, 8, 8, 8, 8, 8, 8, 8, 8, 8, 8, 8, 8, 8, 8, 8, 8, 8, 8, 8, 8, 8, 8, 8, 8, 8, 8, 8, 8, 8, 8, 8, 8, 8, 8, 8, 8, 8, 8, 8, 8, 8, 8, 8, 8, 8, 8, 8, 8, 8, 8, 8, 8, 8, 8, 8, 8, 8, 8, 8]⟩
theorem tab8_eq : ∀ n : Fin 256, (tab8[n.val]?.getD 0).toNat = Lib.bitLen n.val := by decide +kernel
theorem shr_nat (x n : Nat) : (x : Int).fdiv (2 ^ min (Int.toNat n) 64) = ((x / 2 ^ min n 64 : Nat) : Int) := by
  rw [Int.fdiv_eq_ediv_of_nonneg _ (by exact_mod_cast Nat.zero_le _)]
  push_cast
  rfl
def shr (x n : Int) : Int := x.fdiv (2 ^ min n.toNat IntKind.u64.bits)
theorem shrN (x n : Nat) : shr x n = ((x / 2 ^ min n 64 : Nat) : Int) := shr_nat x n
def tb (x : Int) : Int := IntKind.i64.wrap (((tab8[(IntKind.u8.wrap x).toNat]?.getD 0).toNat : Nat) : Int)
theorem tbN (x : Nat) (h : x < 256) : tb x = (Lib.bitLen x : Int) := by
  unfold tb
  have h1 : IntKind.u8.wrap (x : Int) = x := by rw [IntKind.wrap_u8]; omega
  rw [h1]
  have h2 := tab8_eq ⟨x, h⟩
  have h3 := Lib.bitLen_le8 ⟨x, h⟩
  simp only [Int.toNat_natCast] at h2 h3 ⊢
  rw [h2, IntKind.wrap_i64]
  omega
def i64 (x : Int) : Int := IntKind.i64.wrap x
theorem i64N (x : Nat) (h : x < 1000) : i64 x = x := by unfold i64; rw [IntKind.wrap_i64]; omega

theorem len0p (cf : CallF) (x : Int) : evFP env cf nop 10 ir186 [.int .u64 x] [false, false, false] = some (.int .i64 (i64 (0 + tb (x))), [(decide (x ≥ 4294967296), false), (decide (x ≥ 65536), false), (decide (x ≥ 256), false), (decide (0 ≤ IntKind.u8.wrap (x)), true), (decide ((IntKind.u8.wrap (x)).toNat < tab8.size), true)]) := by kernel_rfl
theorem len1p (cf : CallF) (x : Int) : evFP env cf nop 10 ir186 [.int .u64 x] [false, false, true] = some (.int .i64 (i64 (i64 (0 + 8) + tb (shr (x) 8))), [(decide (x ≥ 4294967296), false), (decide (x ≥ 65536), false), (decide (x ≥ 256), true), (decide ((8 : Int) < 0), false), (decide (0 ≤ IntKind.u8.wrap (shr (x) 8)), true), (decide ((IntKind.u8.wrap (shr (x) 8)).toNat < tab8.size), true)]) := by kernel_rfl
theorem len2p (cf : CallF) (x : Int) : evFP env cf nop 10 ir186 [.int .u64 x] [false, true, false] = some (.int .i64 (i64 (i64 (0 + 16) + tb (shr (x) 16))), [(decide (x ≥ 4294967296), false), (decide (x ≥ 65536), true), (decide ((16 : Int) < 0), false), (decide (shr (x) 16 ≥ 256), false), (decide (0 ≤ IntKind.u8.wrap (shr (x) 16)), true), (decide ((IntKind.u8.wrap (shr (x) 16)).toNat < tab8.size), true)]) := by kernel_rfl
theorem len3p (cf : CallF) (x : Int) : evFP env cf nop 10 ir186 [.int .u64 x] [false, true, true] = some (.int .i64 (i64 (i64 (i64 (0 + 16) + 8) + tb (shr (shr (x) 16) 8))), [(decide (x ≥ 4294967296), false), (decide (x ≥ 65536), true), (decide ((16 : Int) < 0), false), (decide (shr (x) 16 ≥ 256), true), (decide ((8 : Int) < 0), false), (decide (0 ≤ IntKind.u8.wrap (shr (shr (x) 16) 8)), true), (decide ((IntKind.u8.wrap (shr (shr (x) 16) 8)).toNat < tab8.size), true)]) := by kernel_rfl
theorem len4p (cf : CallF) (x : Int) : evFP env cf nop 10 ir186 [.int .u64 x] [true, false, false] = some (.int .i64 (i64 (32 + tb (shr (x) 32))), [(decide (x ≥ 4294967296), true), (decide ((32 : Int) < 0), false), (decide (shr (x) 32 ≥ 65536), false), (decide (shr (x) 32 ≥ 256), false), (decide (0 ≤ IntKind.u8.wrap (shr (x) 32)), true), (decide ((IntKind.u8.wrap (shr (x) 32)).toNat < tab8.size), true)]) := by kernel_rfl
theorem len5p (cf : CallF) (x : Int) : evFP env cf nop 10 ir186 [.int .u64 x] [true, false, true] = some (.int .i64 (i64 (i64 (32 + 8) + tb (shr (shr (x) 32) 8))), [(decide (x ≥ 4294967296), true), (decide ((32 : Int) < 0), false), (decide (shr (x) 32 ≥ 65536), false), (decide (shr (x) 32 ≥ 256), true), (decide ((8 : Int) < 0), false), (decide (0 ≤ IntKind.u8.wrap (shr (shr (x) 32) 8)), true), (decide ((IntKind.u8.wrap (shr (shr (x) 32) 8)).toNat < tab8.size), true)]) := by kernel_rfl
theorem len6p (cf : CallF) (x : Int) : evFP env cf nop 10 ir186 [.int .u64 x] [true, true, false] = some (.int .i64 (i64 (i64 (32 + 16) + tb (shr (shr (x) 32) 16))), [(decide (x ≥ 4294967296), true), (decide ((32 : Int) < 0), false), (decide (shr (x) 32 ≥ 65536), true), (decide ((16 : Int) < 0), false), (decide (shr (shr (x) 32) 16 ≥ 256), false), (decide (0 ≤ IntKind.u8.wrap (shr (shr (x) 32) 16)), true), (decide ((IntKind.u8.wrap (shr (shr (x) 32) 16)).toNat < tab8.size), true)]) := by kernel_rfl
theorem len7p (cf : CallF) (x : Int) : evFP env cf nop 10 ir186 [.int .u64 x] [true, true, true] = some (.int .i64 (i64 (i64 (i64 (32 + 16) + 8) + tb (shr (shr (shr (x) 32) 16) 8))), [(decide (x ≥ 4294967296), true), (decide ((32 : Int) < 0), false), (decide (shr (x) 32 ≥ 65536), true), (decide ((16 : Int) < 0), false), (decide (shr (shr (x) 32) 16 ≥ 256), true), (decide ((8 : Int) < 0), false), (decide (0 ≤ IntKind.u8.wrap (shr (shr (shr (x) 32) 16) 8)), true), (decide ((IntKind.u8.wrap (shr (shr (shr (x) 32) 16) 8)).toNat < tab8.size), true)]) := by kernel_rfl
theorem u8_lt (x : Int) : (IntKind.u8.wrap x).toNat < tab8.size := by
  rw [IntKind.wrap_u8]
  have : tab8.size = 256 := by decide +kernel
  omega
theorem u8_nn (x : Int) : 0 ≤ IntKind.u8.wrap x := by rw [IntKind.wrap_u8]; omega
theorem len64 (d : Nat) (x : Nat) (hx : x < 18446744073709551616) : evF env 10 (d + 1) 186 [.int .u64 x] = some (.int .i64 (Lib.bitLen x)) := by
  have hsm : env.sm 186 [.int .u64 x] = none := by rfl
  have hfs : env.fs 186 = some ir186 := by rfl
  have e32 : shr (x : Int) 32 = ((x / 4294967296 : Nat) : Int) := shrN x 32
  have e16 : shr (x : Int) 16 = ((x / 65536 : Nat) : Int) := shrN x 16
  have e8 : shr (x : Int) 8 = ((x / 256 : Nat) : Int) := shrN x 8
  have e3216 : shr (((x / 4294967296 : Nat)) : Int) 16 = ((x / 4294967296 / 65536 : Nat) : Int) := shrN _ 16
  have e328 : shr (((x / 4294967296 : Nat)) : Int) 8 = ((x / 4294967296 / 256 : Nat) : Int) := shrN _ 8
  have e168 : shr (((x / 65536 : Nat)) : Int) 8 = ((x / 65536 / 256 : Nat) : Int) := shrN _ 8
  have e32168 : shr (((x / 4294967296 / 65536 : Nat)) : Int) 8 = ((x / 4294967296 / 65536 / 256 : Nat) : Int) := shrN _ 8
  have bl : ∀ {x : Nat}, x < 256 → Lib.bitLen x ≤ 8 := fun {x} h => Lib.bitLen_le8 ⟨x, h⟩
  by_cases h1 : 4294967296 ≤ x
  · by_cases h2 : 65536 ≤ x / 4294967296
    · by_cases h3 : 256 ≤ x / 4294967296 / 65536
      · have hh := evFP_ok (cp := nop) (d := d) (fun f args r cs h => nomatch h) hsm hfs (len7p (evF env 10 d) x) (by simp only [Holds.cons, e32, e16, e8, e3216, e328, e168, e32168, decide_eq_true_eq, decide_eq_false_iff_not, u8_nn, u8_lt, Holds.nil, and_true, true_and]; omega)
        have hb := bl (x := x / 4294967296 / 65536 / 256) (by omega)
        rw [hh]
        simp only [e32, e16, e8, e3216, e328, e168, e32168]
        rw [tbN _ (by omega)]
        rw [Lib.bitLen_shift32 (x) (by omega) (by omega), Lib.bitLen_shift16 (x / 4294967296) (by omega) (by omega), Lib.bitLen_shift8 (x / 4294967296 / 65536) (by omega) (by omega)]
        have e1 : ∀ a : Nat, a ≤ 100 → i64 (a : Int) = a := fun a ha => i64N a (by omega)
        simp only [Option.some.injEq, AV.lit.injEq, Value.int.injEq, true_and]
        unfold i64
        simp only [IntKind.wrap_i64]
        omega
      · have hh := evFP_ok (cp := nop) (d := d) (fun f args r cs h => nomatch h) hsm hfs (len6p (evF env 10 d) x) (by simp only [Holds.cons, e32, e16, e8, e3216, e328, e168, e32168, decide_eq_true_eq, decide_eq_false_iff_not, u8_nn, u8_lt, Holds.nil, and_true, true_and]; omega)
        have hb := bl (x := x / 4294967296 / 65536) (by omega)
        rw [hh]
        simp only [e32, e16, e8, e3216, e328, e168, e32168]
        rw [tbN _ (by omega)]
        rw [Lib.bitLen_shift32 (x) (by omega) (by omega), Lib.bitLen_shift16 (x / 4294967296) (by omega) (by omega)]
        have e1 : ∀ a : Nat, a ≤ 100 → i64 (a : Int) = a := fun a ha => i64N a (by omega)
        simp only [Option.some.injEq, AV.lit.injEq, Value.int.injEq, true_and]
        unfold i64
        simp only [IntKind.wrap_i64]
        omega
    · by_cases h3 : 256 ≤ x / 4294967296
      · have hh := evFP_ok (cp := nop) (d := d) (fun f args r cs h => nomatch h) hsm hfs (len5p (evF env 10 d) x) (by simp only [Holds.cons, e32, e16, e8, e3216, e328, e168, e32168, decide_eq_true_eq, decide_eq_false_iff_not, u8_nn, u8_lt, Holds.nil, and_true, true_and]; omega)
        have hb := bl (x := x / 4294967296 / 256) (by omega)
        rw [hh]
        simp only [e32, e16, e8, e3216, e328, e168, e32168]
        rw [tbN _ (by omega)]
        rw [Lib.bitLen_shift32 (x) (by omega) (by omega), Lib.bitLen_shift8 (x / 4294967296) (by omega) (by omega)]
        have e1 : ∀ a : Nat, a ≤ 100 → i64 (a : Int) = a := fun a ha => i64N a (by omega)
        simp only [Option.some.injEq, AV.lit.injEq, Value.int.injEq, true_and]
        unfold i64
        simp only [IntKind.wrap_i64]
        omega
      · have hh := evFP_ok (cp := nop) (d := d) (fun f args r cs h => nomatch h) hsm hfs (len4p (evF env 10 d) x) (by simp only [Holds.cons, e32, e16, e8, e3216, e328, e168, e32168, decide_eq_true_eq, decide_eq_false_iff_not, u8_nn, u8_lt, Holds.nil, and_true, true_and]; omega)
        have hb := bl (x := x / 4294967296) (by omega)
        rw [hh]
        simp only [e32, e16, e8, e3216, e328, e168, e32168]
        rw [tbN _ (by omega)]
        rw [Lib.bitLen_shift32 (x) (by omega) (by omega)]
        have e1 : ∀ a : Nat, a ≤ 100 → i64 (a : Int) = a := fun a ha => i64N a (by omega)
        simp only [Option.some.injEq, AV.lit.injEq, Value.int.injEq, true_and]
        unfold i64
        simp only [IntKind.wrap_i64]
        omega
  · by_cases h2 : 65536 ≤ x
    · by_cases h3 : 256 ≤ x / 65536
      · have hh := evFP_ok (cp := nop) (d := d) (fun f args r cs h => nomatch h) hsm hfs (len3p (evF env 10 d) x) (by simp only [Holds.cons, e32, e16, e8, e3216, e328, e168, e32168, decide_eq_true_eq, decide_eq_false_iff_not, u8_nn, u8_lt, Holds.nil, and_true, true_and]; omega)
        have hb := bl (x := x / 65536 / 256) (by omega)
        rw [hh]
        simp only [e32, e16, e8, e3216, e328, e168, e32168]
        rw [tbN _ (by omega)]
        rw [Lib.bitLen_shift16 (x) (by omega) (by omega), Lib.bitLen_shift8 (x / 65536) (by omega) (by omega)]
        have e1 : ∀ a : Nat, a ≤ 100 → i64 (a : Int) = a := fun a ha => i64N a (by omega)
        simp only [Option.some.injEq, AV.lit.injEq, Value.int.injEq, true_and]
        unfold i64
        simp only [IntKind.wrap_i64]
        omega
      · have hh := evFP_ok (cp := nop) (d := d) (fun f args r cs h => nomatch h) hsm hfs (len2p (evF env 10 d) x) (by simp only [Holds.cons, e32, e16, e8, e3216, e328, e168, e32168, decide_eq_true_eq, decide_eq_false_iff_not, u8_nn, u8_lt, Holds.nil, and_true, true_and]; omega)
        have hb := bl (x := x / 65536) (by omega)
        rw [hh]
        simp only [e32, e16, e8, e3216, e328, e168, e32168]
        rw [tbN _ (by omega)]
        rw [Lib.bitLen_shift16 (x) (by omega) (by omega)]
        have e1 : ∀ a : Nat, a ≤ 100 → i64 (a : Int) = a := fun a ha => i64N a (by omega)
        simp only [Option.some.injEq, AV.lit.injEq, Value.int.injEq, true_and]
        unfold i64
        simp only [IntKind.wrap_i64]
        omega
    · by_cases h3 : 256 ≤ x
      · have hh := evFP_ok (cp := nop) (d := d) (fun f args r cs h => nomatch h) hsm hfs (len1p (evF env 10 d) x) (by simp only [Holds.cons, e32, e16, e8, e3216, e328, e168, e32168, decide_eq_true_eq, decide_eq_false_iff_not, u8_nn, u8_lt, Holds.nil, and_true, true_and]; omega)
        have hb := bl (x := x / 256) (by omega)
        rw [hh]
        simp only [e32, e16, e8, e3216, e328, e168, e32168]
        rw [tbN _ (by omega)]
        rw [Lib.bitLen_shift8 (x) (by omega) (by omega)]
        have e1 : ∀ a : Nat, a ≤ 100 → i64 (a : Int) = a := fun a ha => i64N a (by omega)
        simp only [Option.some.injEq, AV.lit.injEq, Value.int.injEq, true_and]
        unfold i64
        simp only [IntKind.wrap_i64]
        omega
      · have hh := evFP_ok (cp := nop) (d := d) (fun f args r cs h => nomatch h) hsm hfs (len0p (evF env 10 d) x) (by simp only [Holds.cons, e32, e16, e8, e3216, e328, e168, e32168, decide_eq_true_eq, decide_eq_false_iff_not, u8_nn, u8_lt, Holds.nil, and_true, true_and]; omega)
        have hb := bl (x := x) (by omega)
        rw [hh]
        rw [tbN _ (by omega)]
        have e1 : ∀ a : Nat, a ≤ 100 → i64 (a : Int) = a := fun a ha => i64N a (by omega)
        simp only [Option.some.injEq, AV.lit.injEq, Value.int.injEq, true_and]
        unfold i64
        simp only [IntKind.wrap_i64]
        omega
end Go.AM

namespace Go.AM
set_option maxRecDepth 100000

theorem gt32N (q : Nat) : gt32 (q : Int) = decide (4294967296 ≤ q) := by
  unfold gt32
  congr 1
  apply propext
  omega

theorem w64_pred (q : Nat) (h : 1 ≤ q) (h2 : q < 18446744073709551616) : w64 ((q : Int) - 1) = ((q - 1 : Nat) : Int) := by
  rw [show (q : Int) - 1 = ((q - 1 : Nat) : Int) by omega, w64_nat]
  omega

theorem w64_add (a b : Nat) (h : a + b < 18446744073709551616) : w64 ((a : Int) + b) = ((a + b : Nat) : Int) := by
  rw [show (a : Int) + b = ((a + b : Nat) : Int) by push_cast; rfl, w64_nat, Nat.mod_eq_of_lt h]

theorem overN (q yn0 r un : Nat) (h1 : q < 4294967296) (h2 : yn0 < 4294967296) (h3 : r < 4294967296) (h4 : un < 4294967296) : over (q : Int) yn0 r un = decide (4294967296 * r + un < q * yn0) := by
  have b1 : q * yn0 < 18446744073709551616 := Nat.lt_of_lt_of_le (Nat.mul_lt_mul'' h1 h2) (by decide)
  unfold over
  rw [show (q : Int) * yn0 = ((q * yn0 : Nat) : Int) by push_cast; rfl, show (4294967296 : Int) * r = ((4294967296 * r : Nat) : Int) by omega, w64_nat, w64_nat]
  rw [show ((4294967296 * r % 18446744073709551616 : Nat) : Int) + un = ((4294967296 * r + un : Nat) : Int) by omega, w64_nat, Nat.mod_eq_of_lt b1, Nat.mod_eq_of_lt (show 4294967296 * r + un < 18446744073709551616 by omega)]
  congr 1
  apply propext
  omega

/-- The quotient's digit is found by at most two corrections. -/
theorem corr {goal : Int → Prop} (q r y yn1 yn0 u un : Nat) (hy : y = yn1 * 4294967296 + yn0) (h31 : 2147483648 ≤ yn1) (hyn1 : yn1 < 4294967296) (hyn0 : yn0 < 4294967296) (hu : u < y) (hun : un < 4294967296)
    (hq : q = u / yn1) (hr : r = u % yn1)
    (p0 : ∀ (_ : gt32 q = false) (_ : over q yn0 r un = false), goal q)
    (p1 : ∀ (_ : gt32 q = false) (_ : over q yn0 r un = true) (_ : gt32 (w64 (r + yn1)) = true), goal (w64 (q - 1)))
    (p2 : ∀ (_ : gt32 q = false) (_ : over q yn0 r un = true) (_ : gt32 (w64 (r + yn1)) = false) (_ : gt32 (w64 (q - 1)) = false) (_ : over (w64 (q - 1)) yn0 (w64 (r + yn1)) un = false), goal (w64 (q - 1)))
    (p3 : ∀ (_ : gt32 q = false) (_ : over q yn0 r un = true) (_ : gt32 (w64 (r + yn1)) = false) (_ : gt32 (w64 (q - 1)) = false) (_ : over (w64 (q - 1)) yn0 (w64 (r + yn1)) un = true) (_ : gt32 (w64 (w64 (r + yn1) + yn1)) = true), goal (w64 (w64 (q - 1) - 1)))
    (p5 : ∀ (_ : gt32 q = true) (_ : gt32 (w64 (r + yn1)) = true), goal (w64 (q - 1)))
    (p6 : ∀ (_ : gt32 q = true) (_ : gt32 (w64 (r + yn1)) = false) (_ : gt32 (w64 (q - 1)) = false) (_ : over (w64 (q - 1)) yn0 (w64 (r + yn1)) un = false), goal (w64 (q - 1)))
    (p7 : ∀ (_ : gt32 q = true) (_ : gt32 (w64 (r + yn1)) = false) (_ : gt32 (w64 (q - 1)) = false) (_ : over (w64 (q - 1)) yn0 (w64 (r + yn1)) un = true) (_ : gt32 (w64 (w64 (r + yn1) + yn1)) = true), goal (w64 (w64 (q - 1) - 1)))
    (p8 : ∀ (_ : gt32 q = true) (_ : gt32 (w64 (r + yn1)) = false) (_ : gt32 (w64 (q - 1)) = true) (_ : gt32 (w64 (w64 (r + yn1) + yn1)) = true), goal (w64 (w64 (q - 1) - 1))) :
    goal (((u * 4294967296 + un) / y : Nat) : Int) := by
  have hyn : 0 < yn1 := by omega
  have hyp : 0 < y := by omega
  -- the true digit
  have hQ : (u * 4294967296 + un) / y < 4294967296 := Nat.div_lt_of_lt_mul (by
    have : (u + 1) * 4294967296 ≤ y * 4294967296 := Nat.mul_le_mul_right _ hu
    omega)
  generalize hQQ : (u * 4294967296 + un) / y = Q at *
  have hlt : ∀ k : Nat, u * 4294967296 + un < k * y → Q < k := fun k hk => by rw [← hQQ]; exact (Nat.div_lt_iff_lt_mul hyp).2 hk
  have hle : ∀ k : Nat, k * y ≤ u * 4294967296 + un → k ≤ Q := fun k hk => by rw [← hQQ]; exact (Nat.le_div_iff_mul_le hyp).2 hk
  have hdm : yn1 * q + r = u := by rw [hq, hr]; exact Nat.div_add_mod u yn1
  have hrl : r < yn1 := by rw [hr]; exact Nat.mod_lt _ hyn
  have hexp : ∀ k : Nat, k * y = yn1 * k * 4294967296 + k * yn0 := fun k => by rw [hy, Nat.mul_add, ← Nat.mul_assoc, Nat.mul_comm k yn1]
  -- what the loop knows
  have up : ∀ k s : Nat, yn1 * k + s = u → s < 4294967296 → (4294967296 ≤ k ∨ 4294967296 * s + un < k * yn0) → Q < k := by
    intro k s hks hs h
    rcases h with h | h
    · omega
    · apply hlt; rw [hexp]; omega
  have dn : ∀ k s : Nat, yn1 * k + s = u → k * yn0 ≤ 4294967296 * s + un → k ≤ Q := by
    intro k s hks h
    apply hle; rw [hexp]; omega
  have big : ∀ k s : Nat, k < 4294967296 → 4294967296 ≤ s → k * yn0 ≤ 4294967296 * s + un := by
    intro k s hk hs
    have : k * yn0 ≤ 4294967296 * 4294967296 := Nat.mul_le_mul (by omega) (by omega)
    omega
  have hq2 : q ≤ 4294967297 := by
    rw [hq]
    apply Nat.le_of_lt_succ
    apply Nat.div_lt_of_lt_mul
    omega
  have pred : ∀ k s : Nat, yn1 * (k + 1) + s = u → yn1 * k + (s + yn1) = u := fun k s h => by rw [Nat.mul_add] at h; omega
  by_cases c1 : q < 4294967296
  · have e1 : gt32 (q : Int) = false := by rw [gt32N]; simp; omega
    by_cases c2 : 4294967296 * r + un < q * yn0
    · have e2 : over (q : Int) yn0 r un = true := by rw [overN _ _ _ _ c1 hyn0 (by omega) hun]; simpa using c2
      have hgt := up q r hdm (by omega) (.inr c2)
      obtain ⟨k, rfl⟩ : ∃ k, q = k + 1 := ⟨q - 1, by omega⟩
      have ew : w64 (((k + 1 : Nat) : Int) - 1) = (k : Int) := by rw [w64_pred _ (by omega) (by omega)]; rfl
      have er : w64 ((r : Int) + yn1) = ((r + yn1 : Nat) : Int) := w64_add _ _ (by omega)
      have hk := pred k r hdm
      by_cases c3 : 4294967296 ≤ r + yn1
      · have := p1 e1 e2 (by rw [er, gt32N]; simpa using c3)
        rw [ew] at this
        have : k = Q := Nat.le_antisymm (dn k _ hk (big k _ (by omega) c3)) (by omega)
        subst this; assumption
      · have e3 : gt32 (w64 ((r : Int) + yn1)) = false := by rw [er, gt32N]; simp; omega
        have e4 : gt32 (w64 (((k + 1 : Nat) : Int) - 1)) = false := by rw [ew, gt32N]; simp; omega
        by_cases c5 : 4294967296 * (r + yn1) + un < k * yn0
        · have e5 : over (w64 (((k + 1 : Nat) : Int) - 1)) yn0 (w64 ((r : Int) + yn1)) un = true := by rw [ew, er, overN _ _ _ _ (by omega) hyn0 (by omega) hun]; simpa using c5
          have hgt2 := up k (r + yn1) hk (by omega) (.inr c5)
          obtain ⟨j, rfl⟩ : ∃ j, k = j + 1 := ⟨k - 1, by omega⟩
          have er2 : w64 (w64 ((r : Int) + yn1) + yn1) = ((r + yn1 + yn1 : Nat) : Int) := by rw [er]; exact w64_add _ _ (by omega)
          have := p3 e1 e2 e3 e4 e5 (by rw [er2, gt32N]; simp; omega)
          rw [ew, w64_pred _ (by omega) (by omega)] at this
          have hj := pred j _ hk
          have : j = Q := Nat.le_antisymm (dn j _ hj (big j _ (by omega) (by omega))) (by omega)
          subst this; assumption
        · have e5 : over (w64 (((k + 1 : Nat) : Int) - 1)) yn0 (w64 ((r : Int) + yn1)) un = false := by rw [ew, er, overN _ _ _ _ (by omega) hyn0 (by omega) hun]; simp; omega
          have := p2 e1 e2 e3 e4 e5
          rw [ew] at this
          have : k = Q := Nat.le_antisymm (dn k _ hk (by omega)) (by omega)
          subst this; assumption
    · have e2 : over (q : Int) yn0 r un = false := by rw [overN _ _ _ _ c1 hyn0 (by omega) hun]; simp; omega
      have := p0 e1 e2
      have hge : Q ≤ q := by
        have h1 : Q * y ≤ u * 4294967296 + un := by rw [← hQQ]; exact Nat.div_mul_le_self _ _
        apply Nat.le_of_not_lt
        intro hlt'
        have h2 : (q + 1) * y ≤ Q * y := Nat.mul_le_mul_right _ hlt'
        rw [hexp, Nat.mul_add, Nat.add_mul] at h2
        omega
      have : q = Q := Nat.le_antisymm (dn q r hdm (by omega)) hge
      subst this; assumption
  · have e1 : gt32 (q : Int) = true := by rw [gt32N]; simp; omega
    have hgt := up q r hdm (by omega) (.inl (by omega))
    obtain ⟨k, rfl⟩ : ∃ k, q = k + 1 := ⟨q - 1, by omega⟩
    have ew : w64 (((k + 1 : Nat) : Int) - 1) = (k : Int) := by rw [w64_pred _ (by omega) (by omega)]; rfl
    have er : w64 ((r : Int) + yn1) = ((r + yn1 : Nat) : Int) := w64_add _ _ (by omega)
    have hk := pred k r hdm
    by_cases c3 : 4294967296 ≤ r + yn1
    · have := p5 e1 (by rw [er, gt32N]; simpa using c3)
      rw [ew] at this
      have hk32 : k < 4294967296 := by
        apply Nat.lt_of_not_le
        intro h
        have h2 : yn1 * 4294967296 ≤ yn1 * k := Nat.mul_le_mul_left _ h
        omega
      have : k = Q := Nat.le_antisymm (dn k _ hk (big k _ hk32 c3)) (by omega)
      subst this; assumption
    · have e3 : gt32 (w64 ((r : Int) + yn1)) = false := by rw [er, gt32N]; simp; omega
      by_cases c4 : k < 4294967296
      · have e4 : gt32 (w64 (((k + 1 : Nat) : Int) - 1)) = false := by rw [ew, gt32N]; simp; omega
        by_cases c5 : 4294967296 * (r + yn1) + un < k * yn0
        · have e5 : over (w64 (((k + 1 : Nat) : Int) - 1)) yn0 (w64 ((r : Int) + yn1)) un = true := by rw [ew, er, overN _ _ _ _ (by omega) hyn0 (by omega) hun]; simpa using c5
          have hgt2 := up k (r + yn1) hk (by omega) (.inr c5)
          obtain ⟨j, rfl⟩ : ∃ j, k = j + 1 := ⟨k - 1, by omega⟩
          have er2 : w64 (w64 ((r : Int) + yn1) + yn1) = ((r + yn1 + yn1 : Nat) : Int) := by rw [er]; exact w64_add _ _ (by omega)
          have := p7 e1 e3 e4 e5 (by rw [er2, gt32N]; simp; omega)
          rw [ew, w64_pred _ (by omega) (by omega)] at this
          have hj := pred j _ hk
          have : j = Q := Nat.le_antisymm (dn j _ hj (big j _ (by omega) (by omega))) (by omega)
          subst this; assumption
        · have e5 : over (w64 (((k + 1 : Nat) : Int) - 1)) yn0 (w64 ((r : Int) + yn1)) un = false := by rw [ew, er, overN _ _ _ _ (by omega) hyn0 (by omega) hun]; simp; omega
          have := p6 e1 e3 e4 e5
          rw [ew] at this
          have : k = Q := Nat.le_antisymm (dn k _ hk (by omega)) (by omega)
          subst this; assumption
      · have e4 : gt32 (w64 (((k + 1 : Nat) : Int) - 1)) = true := by rw [ew, gt32N]; simp; omega
        obtain ⟨j, rfl⟩ : ∃ j, k = j + 1 := ⟨k - 1, by omega⟩
        have er2 : w64 (w64 ((r : Int) + yn1) + yn1) = ((r + yn1 + yn1 : Nat) : Int) := by rw [er]; exact w64_add _ _ (by omega)
        have := p8 e1 e3 e4 (by rw [er2, gt32N]; simp; omega)
        rw [ew, w64_pred _ (by omega) (by omega)] at this
        have hj := pred j _ hk
        have hgt2 := up (j + 1) (r + yn1) hk (by omega) (.inl (by omega))
        have : j = Q := Nat.le_antisymm (dn j _ hj (big j _ (by omega) (by omega))) (by omega)
        subst this; assumption

end Go.AM

namespace Go.AM
set_option maxRecDepth 100000

def sh (x n : Int) : Int := w64 (x * 2 ^ min n.toNat IntKind.u64.bits)
def or64 (a b : Int) : Int := w64 (((BitVec.ofInt IntKind.u64.bits a ||| BitVec.ofInt IntKind.u64.bits b).toNat : Nat) : Int)
def cpLen : CallP := fun f args => if f == 186 then match args with
  | [.lit (.int .u64 y)] => some (.int .i64 (Lib.bitLen y.toNat), [(decide (0 ≤ y), true), (decide (y < 18446744073709551616), true)])
  | _ => none else none

theorem cpLen_ok (d : Nat) : ∀ f args r cs, cpLen f args = some (r, cs) → Holds cs → evF env 10 (d + 1) f args = some r := by
  intro f args r cs h hc
  unfold cpLen at h
  split at h
  · rename_i hf
    have hf : f = 186 := by simpa using hf
    subst hf
    split at h
    · rename_i y
      simp only [Option.some.injEq, Prod.mk.injEq] at h
      obtain ⟨rfl, rfl⟩ := h
      simp only [Holds.cons, decide_eq_true_eq] at hc
      obtain ⟨h0, h1, _⟩ := hc
      obtain ⟨n, rfl⟩ := Int.eq_ofNat_of_zero_le h0
      exact len64 d n (by omega)
    · cases h
  · cases h

theorem lz64 (d : Nat) (x : Nat) (hx : x < 18446744073709551616) : evF env 10 (d + 2) 200 [.int .u64 x] = some (.int .i64 (i64 (64 - (Lib.bitLen x : Int)))) :=
  evFP_ok (cp := cpLen) (d := d + 1) (fn := ir200) (q := []) (cs := [(decide (0 ≤ (x : Int)), true), (decide ((x : Int) < 18446744073709551616), true)]) (cpLen_ok d) rfl rfl (by kernel_rfl) (by simp only [Holds.cons, decide_eq_true_eq, Holds.nil, and_true]; omega)

def cpLz : CallP := fun f args => if f == 200 then match args with
  | [.lit (.int .u64 y)] => some (.int .i64 (i64 (64 - (Lib.bitLen y.toNat : Int))), [(decide (0 ≤ y), true), (decide (y < 18446744073709551616), true)])
  | _ => none else none

theorem cpLz_ok (d : Nat) : ∀ f args r cs, cpLz f args = some (r, cs) → Holds cs → evF env 10 (d + 2) f args = some r := by
  intro f args r cs h hc
  unfold cpLz at h
  split at h
  · rename_i hf
    have hf : f = 200 := by simpa using hf
    subst hf
    split at h
    · rename_i y
      simp only [Option.some.injEq, Prod.mk.injEq] at h
      obtain ⟨rfl, rfl⟩ := h
      simp only [Holds.cons, decide_eq_true_eq] at hc
      obtain ⟨h0, h1, _⟩ := hc
      obtain ⟨n, rfl⟩ := Int.eq_ofNat_of_zero_le h0
      exact lz64 d n (by omega)
    · cases h
  · cases h

def mask (x : Int) : Int := and64 x 4294967295
def hS (y : Int) : Int := w64 (i64 (64 - (Lib.bitLen y.toNat : Int)))
def hU (hi lo y : Int) : Int := or64 (sh hi (hS y)) (shr lo (w64 (64 - hS y)))
def hN (y : Int) : Int := shr (sh y (hS y)) 32
def hQ (hi lo y : Int) : Int := w64 ((hU hi lo y).tdiv (hN y))

theorem head (cf : CallF) (hi lo y : Int) : evLP env cf cpLz 10 (sp230.take 28) { tm := enter [.int .u64 hi, .int .u64 lo, .int .u64 y], ob := [] } [false, false, false] =
    (.nx (S0 (sh y (hS y)) (hS y) (hN y) (mask (sh y (hS y))) (hU hi lo y) (shr (sh lo (hS y)) 32) (mask (sh lo (hS y))) (hQ hi lo y) (w64 (hU hi lo y - w64 (hQ hi lo y * hN y)))), [],
      [(y == 0, false), (decide (y ≤ hi), false), (hi == 0, false), (decide (0 ≤ y), true), (decide (y < 18446744073709551616), true), (decide (hS y < 0), false), (decide ((32 : Int) < 0), false), (decide (hS y < 0), false),
       (decide (w64 (64 - hS y) < 0), false), (decide (hS y < 0), false), (decide ((32 : Int) < 0), false), (decide (hN y = 0), false)]) := by kernel_rfl

theorem low (cf : CallF) (hi lo y : Int) : evFP env cf nop 10 ir230 [.int .u64 hi, .int .u64 lo, .int .u64 y] [false, false, true] =
    some (.tup [.int .u64 (w64 (lo.tdiv y)), .int .u64 (lo.tmod y)], [(y == 0, false), (decide (y ≤ hi), false), (hi == 0, true), (decide (y = 0), false), (decide (y = 0), false)]) := by kernel_rfl

def mD (un32 un1 q y : Int) : Int := w64 (w64 (w64 (un32 * 4294967296) + un1) - w64 (q * y))
theorem mid (cf : CallF) (y s yn1 yn0 un32 un1 un0 q : Int) : evLP env cf nop 10 ((sp230.drop 30).take 6) (R0 y s yn1 yn0 un32 un1 un0 q) [] =
    (.nx (S2 y s yn1 yn0 un0 q (mD un32 un1 q y) (w64 (mD un32 un1 q y - w64 (w64 ((mD un32 un1 q y).tdiv yn1) * yn1))) (w64 ((mD un32 un1 q y).tdiv yn1))), [], [(decide (yn1 = 0), false)]) := by kernel_rfl

def tailS (y s un0 q un21 q0 : Int) : Out × List Bool × Cs := evLP env (fun _ _ => none) nop 10 (sp230.drop 38) (R2 y s un0 q un21 q0) []
def finO : Out → Option AV
  | .rt s => finish ir230 s
  | .nx s => finish ir230 s
  | _ => none
theorem tail (cf : CallF) (y s un0 q un21 q0 : Int) : finO (evLP env cf nop 10 (sp230.drop 38) (R2 y s un0 q un21 q0) []).1 = some (.tup [.int .u64 (w64 (w64 (q * 4294967296) + q0)), .int .u64 (shr (mD un21 un0 q0 y) s)]) := by kernel_rfl
theorem tailc (cf : CallF) (y s un0 q un21 q0 : Int) : (evLP env cf nop 10 (sp230.drop 38) (R2 y s un0 q un21 q0) []).2.2 = [(decide (s < 0), false)] := by kernel_rfl
theorem parts : sp230 = sp230.take 28 ++ (c28 ++ ((sp230.drop 30).take 6 ++ (c36 ++ sp230.drop 38))) := by kernel_rfl

end Go.AM

namespace Go.AM
set_option maxRecDepth 100000

theorem bitLen_bounds : ∀ (k x : Nat), 0 < x → x < 2 ^ k → k ≤ 64 → 2 ^ (Lib.bitLen x - 1) ≤ x ∧ x < 2 ^ Lib.bitLen x ∧ 1 ≤ Lib.bitLen x ∧ Lib.bitLen x ≤ k
  | 0, x, h0, h1, _ => by simp at h1; omega
  | k + 1, x, h0, h1, hk => by
    have hx : x < 2 ^ 64 := Nat.lt_of_lt_of_le h1 (Nat.pow_le_pow_right (by decide) hk)
    have e := Lib.bitLen_half x (by omega) hx
    by_cases h2 : x / 2 = 0
    · have hx1 : x = 1 := by omega
      subst hx1
      have e0 : Lib.bitLen 1 = 1 := by decide +kernel
      rw [e0]; simp
    · obtain ⟨a, b, c, d⟩ := bitLen_bounds k (x / 2) (by omega) (by rw [Nat.pow_succ] at h1; omega) (by omega)
      rw [e]
      obtain ⟨m, hm⟩ : ∃ m, Lib.bitLen (x / 2) = m + 1 := ⟨Lib.bitLen (x / 2) - 1, by omega⟩
      rw [hm] at a b d ⊢
      simp only [Nat.add_sub_cancel] at a
      have e1 : 1 + (m + 1) - 1 = m + 1 := by omega
      have e2 : 2 ^ (1 + (m + 1)) = 2 ^ (m + 1) * 2 := by rw [show 1 + (m + 1) = m + 1 + 1 by omega, Nat.pow_succ]
      have e3 : 2 ^ (m + 1) = 2 ^ m * 2 := Nat.pow_succ ..
      rw [e1, e2]
      refine ⟨by rw [e3]; omega, by rw [e3] at b ⊢; omega, by omega, by omega⟩

theorem shN (x n : Nat) (h : n ≤ 64) (hb : x * 2 ^ n < 18446744073709551616) : sh x n = ((x * 2 ^ n : Nat) : Int) := by
  unfold sh
  have : min (Int.toNat (n : Int)) IntKind.u64.bits = n := by simp only [IntKind.bits, Int.toNat_natCast]; exact Nat.min_eq_left h
  rw [this, show (x : Int) * 2 ^ n = ((x * 2 ^ n : Nat) : Int) by push_cast; rfl, w64_nat, Nat.mod_eq_of_lt hb]

theorem shNm (x n : Nat) (h : n ≤ 64) : sh x n = ((x * 2 ^ n % 18446744073709551616 : Nat) : Int) := by
  unfold sh
  have : min (Int.toNat (n : Int)) IntKind.u64.bits = n := by simp only [IntKind.bits, Int.toNat_natCast]; exact Nat.min_eq_left h
  rw [this, show (x : Int) * 2 ^ n = ((x * 2 ^ n : Nat) : Int) by push_cast; rfl, w64_nat]

theorem shrN' (x n : Nat) (h : n ≤ 64) : shr x n = ((x / 2 ^ n : Nat) : Int) := by
  rw [shrN, Nat.min_eq_left h]

theorem or64N (a b s : Nat) (ha : a * 2 ^ s + b < 18446744073709551616) (hb : b < 2 ^ s) : or64 ((a * 2 ^ s : Nat) : Int) b = ((a * 2 ^ s + b : Nat) : Int) := by
  unfold or64
  have h1 : BitVec.ofInt IntKind.u64.bits ((a * 2 ^ s : Nat) : Int) = BitVec.ofNat 64 (a * 2 ^ s) := BitVec.ofInt_natCast 64 _
  have h2 : BitVec.ofInt IntKind.u64.bits (b : Int) = BitVec.ofNat 64 b := BitVec.ofInt_natCast 64 _
  have h3 : (BitVec.ofInt IntKind.u64.bits ((a * 2 ^ s : Nat) : Int) ||| BitVec.ofInt IntKind.u64.bits (b : Int)).toNat = a * 2 ^ s + b := by
    rw [h1, h2]
    show (BitVec.ofNat 64 (a * 2 ^ s) ||| BitVec.ofNat 64 b).toNat = _
    rw [BitVec.toNat_or, BitVec.toNat_ofNat, BitVec.toNat_ofNat, Nat.mod_eq_of_lt (by omega), Nat.mod_eq_of_lt (by omega), ← Nat.shiftLeft_eq, Nat.shiftLeft_add_eq_or_of_lt hb]
  rw [h3, w64_nat, Nat.mod_eq_of_lt ha]

theorem tdivN (a b : Nat) : (a : Int).tdiv b = ((a / b : Nat) : Int) := by
  rw [Int.tdiv_eq_ediv_of_nonneg (by omega)]; push_cast; rfl

theorem tmodN (a b : Nat) : (a : Int).tmod b = ((a % b : Nat) : Int) := by
  rw [Int.tmod_eq_emod_of_nonneg (by omega)]; push_cast; rfl

theorem w64_id (a : Nat) (h : a < 18446744073709551616) : w64 (a : Int) = a := by rw [w64_nat, Nat.mod_eq_of_lt h]

theorem remN (a b : Nat) (ha : a < 18446744073709551616) : w64 ((a : Int) - w64 (w64 (((a / b : Nat) : Int)) * b)) = ((a % b : Nat) : Int) := by
  have h0 : a / b ≤ a := Nat.div_le_self a b
  rw [w64_id _ (by omega), show ((a / b : Nat) : Int) * b = ((a / b * b : Nat) : Int) by push_cast; rfl]
  have h1 : a / b * b ≤ a := Nat.div_mul_le_self a b
  rw [w64_id _ (by omega), show (a : Int) - ((a / b * b : Nat) : Int) = ((a - a / b * b : Nat) : Int) by omega, w64_id _ (by omega)]
  congr 1
  have := Nat.div_add_mod a b
  rw [Nat.mul_comm] at this
  omega

theorem mDN (u un q y : Nat) (h : q * y ≤ u * 4294967296 + un) (h2 : u * 4294967296 + un - q * y < 18446744073709551616) : mD u un q y = ((u * 4294967296 + un - q * y : Nat) : Int) := by
  unfold mD w64
  rw [show (q : Int) * y = ((q * y : Nat) : Int) by push_cast; rfl]
  generalize q * y = p at *
  simp only [IntKind.wrap_u64]
  omega

end Go.AM

namespace Go.AM
set_option maxRecDepth 100000

theorem evF_unf {E : Env} {fuel d f : Nat} {args : List AV} {fn : IFn} (hsm : E.sm f args = none) (hfs : E.fs f = some fn) : evF E fuel (d + 1) f args = (match evC E (evF E fuel d) fuel fn.body { tm := enter args, ob := [] } with
    | .rt s => finish fn s
    | .nx s => finish fn s
    | _ => none) := by
  simp only [evF, hsm, hfs]
  cases evC E (evF E fuel d) fuel fn.body { tm := enter args, ob := [] } <;> rfl

theorem loop1 (cf : CallF) (s un0 : Int) (y yn1 yn0 u un : Nat) (hy : y = yn1 * 4294967296 + yn0) (h31 : 2147483648 ≤ yn1) (hyn1 : yn1 < 4294967296) (hyn0 : yn0 < 4294967296) (hu : u < y) (hun : un < 4294967296) :
    evL env cf 10 c28 (S0 y s yn1 yn0 u un un0 ((u / yn1 : Nat) : Int) ((u % yn1 : Nat) : Int)) = .nx (R0 y s yn1 yn0 u un un0 (((u * 4294967296 + un) / y : Nat) : Int)) :=
  corr (goal := fun k => evL env cf 10 c28 (S0 y s yn1 yn0 u un un0 ((u / yn1 : Nat) : Int) ((u % yn1 : Nat) : Int)) = .nx (R0 y s yn1 yn0 u un un0 k)) (u / yn1) (u % yn1) y yn1 yn0 u un hy h31 hyn1 hyn0 hu hun rfl rfl
    (a0 cf _ _ _ _ _ _ _ _ _) (a1 cf _ _ _ _ _ _ _ _ _) (a2 cf _ _ _ _ _ _ _ _ _) (a3 cf _ _ _ _ _ _ _ _ _) (a5 cf _ _ _ _ _ _ _ _ _) (a6 cf _ _ _ _ _ _ _ _ _) (a7 cf _ _ _ _ _ _ _ _ _) (a8 cf _ _ _ _ _ _ _ _ _)

theorem loop2 (cf : CallF) (s q1 : Int) (y yn1 yn0 u un : Nat) (hy : y = yn1 * 4294967296 + yn0) (h31 : 2147483648 ≤ yn1) (hyn1 : yn1 < 4294967296) (hyn0 : yn0 < 4294967296) (hu : u < y) (hun : un < 4294967296) :
    evL env cf 10 c36 (S2 y s yn1 yn0 un q1 u ((u % yn1 : Nat) : Int) ((u / yn1 : Nat) : Int)) = .nx (R2 y s un q1 u (((u * 4294967296 + un) / y : Nat) : Int)) :=
  corr (goal := fun k => evL env cf 10 c36 (S2 y s yn1 yn0 un q1 u ((u % yn1 : Nat) : Int) ((u / yn1 : Nat) : Int)) = .nx (R2 y s un q1 u k)) (u / yn1) (u % yn1) y yn1 yn0 u un hy h31 hyn1 hyn0 hu hun rfl rfl
    (b0 cf _ _ _ _ _ _ _ _ _) (b1 cf _ _ _ _ _ _ _ _ _) (b2 cf _ _ _ _ _ _ _ _ _) (b3 cf _ _ _ _ _ _ _ _ _) (b5 cf _ _ _ _ _ _ _ _ _) (b6 cf _ _ _ _ _ _ _ _ _) (b7 cf _ _ _ _ _ _ _ _ _) (b8 cf _ _ _ _ _ _ _ _ _)

theorem whole_aux (a b : Nat) : a * 18446744073709551616 + b = (a + b / 18446744073709551616) * 18446744073709551616 + b % 18446744073709551616 := by omega
theorem sub_aux (a p r : Nat) (h : p + r = a) : a - p = r := by omega
theorem fs230 : env.fs 230 = some ir230 := by kernel_rfl
theorem sm230 (args : List AV) : env.sm 230 args = none := by kernel_rfl

/-- **Div64: a quotient and what is left.** -/
theorem div64 (d : Nat) (hi lo y : Nat) (hy0 : hi < y) (hy : y < 18446744073709551616) (hlo : lo < 18446744073709551616) :
    evF env 10 (d + 3) 230 [.int .u64 hi, .int .u64 lo, .int .u64 y] = some (.tup [.int .u64 (((hi * 18446744073709551616 + lo) / y : Nat) : Int), .int .u64 (((hi * 18446744073709551616 + lo) % y : Nat) : Int)]) := by
  by_cases hz : hi = 0
  · subst hz
    have h := evFP_ok (E := env) (cp := nop) (d := d + 2) (fn := ir230) (f := 230) (q := [false, false, true]) nop_ok (sm230 _) fs230 (low (evF env 10 (d + 2)) ((0 : Nat) : Int) lo y) (by simp only [Holds.cons, decide_eq_false_iff_not, Holds.nil, and_true, beq_eq_false_iff_ne, beq_iff_eq]; omega)
    rw [h, tdivN, tmodN, w64_id _ (Nat.lt_of_le_of_lt (Nat.div_le_self _ _) hlo)]
    simp
  -- normalised
  obtain ⟨hb1, hb2, hb3, hb4⟩ := bitLen_bounds 64 y (by omega) hy (Nat.le_refl _)
  obtain ⟨s, hs⟩ : ∃ s, s = 64 - Lib.bitLen y := ⟨_, rfl⟩
  have hsl : s ≤ 63 := by omega
  have hp : 2 ^ Lib.bitLen y * 2 ^ s = 18446744073709551616 := by rw [← Nat.pow_add, show Lib.bitLen y + s = 64 by omega]
  have hp1 : 2 ^ (Lib.bitLen y - 1) * 2 ^ s = 9223372036854775808 := by rw [← Nat.pow_add, show Lib.bitLen y - 1 + s = 63 by omega]
  have hsp : 0 < 2 ^ s := Nat.two_pow_pos s
  have hY1 : y * 2 ^ s < 18446744073709551616 := by rw [← hp]; exact Nat.mul_lt_mul_of_pos_right hb2 hsp
  have hY2 : 9223372036854775808 ≤ y * 2 ^ s := by rw [← hp1]; exact Nat.mul_le_mul_right _ hb1
  have hpow : 2 ^ (64 - s) * 2 ^ s = 18446744073709551616 := by rw [← Nat.pow_add, show 64 - s + s = 64 by omega]
  have hlos : lo / 2 ^ (64 - s) < 2 ^ s := Nat.div_lt_of_lt_mul (by rw [hpow]; exact hlo)
  have hhi : (hi + 1) * 2 ^ s ≤ y * 2 ^ s := Nat.mul_le_mul_right _ hy0
  rw [Nat.add_mul, Nat.one_mul] at hhi
  -- the parts
  have e1 : hS (y : Int) = (s : Int) := by
    unfold hS
    rw [Int.toNat_natCast, show (64 : Int) - (Lib.bitLen y : Int) = (s : Int) by omega, i64N _ (by omega), w64_id _ (by omega)]
  have e2 : sh (y : Int) (hS y) = ((y * 2 ^ s : Nat) : Int) := by rw [e1]; exact shN _ _ (by omega) hY1
  have e3 : hN (y : Int) = ((y * 2 ^ s / 4294967296 : Nat) : Int) := by unfold hN; rw [e2]; exact shrN' _ 32 (by omega)
  have e4 : mask (sh (y : Int) (hS y)) = ((y * 2 ^ s % 4294967296 : Nat) : Int) := by rw [e2]; exact and64_mask _ hY1
  have e5 : hU hi lo y = ((hi * 2 ^ s + lo / 2 ^ (64 - s) : Nat) : Int) := by
    unfold hU
    rw [e1, show (64 : Int) - (s : Int) = ((64 - s : Nat) : Int) by omega, w64_id _ (by omega), shrN' _ _ (by omega), shN _ _ (by omega) (by omega)]
    exact or64N _ _ _ (by omega) hlos
  have e6 : sh (lo : Int) (hS y) = ((lo * 2 ^ s % 18446744073709551616 : Nat) : Int) := by rw [e1]; exact shNm _ _ (by omega)
  obtain ⟨L, hL⟩ : ∃ L, L = lo * 2 ^ s % 18446744073709551616 := ⟨_, rfl⟩
  obtain ⟨u, hu⟩ : ∃ u, u = hi * 2 ^ s + lo / 2 ^ (64 - s) := ⟨_, rfl⟩
  obtain ⟨Y, hYY⟩ : ∃ Y, Y = y * 2 ^ s := ⟨_, rfl⟩
  rw [← hL] at e6
  rw [← hu] at e5
  rw [← hYY] at e2 e3 e4 hY1 hY2 hhi
  have e7 : shr (sh (lo : Int) (hS y)) 32 = ((L / 4294967296 : Nat) : Int) := by rw [e6]; exact shrN' _ 32 (by omega)
  have hLl : L < 18446744073709551616 := by rw [hL]; exact Nat.mod_lt _ (by decide)
  have e8 : mask (sh (lo : Int) (hS y)) = ((L % 4294967296 : Nat) : Int) := by rw [e6]; exact and64_mask _ hLl
  have huY : u < Y := by omega
  have e9 : hQ hi lo y = ((u / (Y / 4294967296) : Nat) : Int) := by
    unfold hQ
    rw [e5, e3, tdivN, w64_id _ (Nat.lt_of_le_of_lt (Nat.div_le_self _ _) (by omega))]
  have e10 : w64 (hU hi lo y - w64 (hQ hi lo y * hN y)) = ((u % (Y / 4294967296) : Nat) : Int) := by
    rw [e9, e5, e3]
    have := remN u (Y / 4294967296) (by omega)
    rw [w64_id (u / (Y / 4294967296)) (Nat.lt_of_le_of_lt (Nat.div_le_self _ _) (by omega))] at this
    exact this
  have whole : (hi * 18446744073709551616 + lo) * 2 ^ s = (u * 4294967296 + L / 4294967296) * 4294967296 + L % 4294967296 := by
    have h1 : (u * 4294967296 + L / 4294967296) * 4294967296 + L % 4294967296 = u * 18446744073709551616 + L := by omega
    rw [h1, hu, hL]
    have h2 : lo / 2 ^ (64 - s) = lo * 2 ^ s / 18446744073709551616 := by rw [← hpow]; exact (Nat.mul_div_mul_right _ _ hsp).symm
    rw [h2, Nat.add_mul (hi * 18446744073709551616) lo (2 ^ s)]
    have h3 : hi * 18446744073709551616 * 2 ^ s = hi * 2 ^ s * 18446744073709551616 := by rw [Nat.mul_right_comm]
    rw [h3]
    exact whole_aux _ _
  -- the road
  have r1 : evL env (evF env 10 (d + 2)) 10 (sp230.take 28) { tm := enter [.int .u64 hi, .int .u64 lo, .int .u64 y], ob := [] } = .nx (S0 (Y : Int) s ((Y / 4294967296 : Nat) : Int) ((Y % 4294967296 : Nat) : Int) u ((L / 4294967296 : Nat) : Int) ((L % 4294967296 : Nat) : Int) ((u / (Y / 4294967296) : Nat) : Int) ((u % (Y / 4294967296) : Nat) : Int)) := by
    have h := evLP_ok (cpLz_ok d) _ (head (evF env 10 (d + 2)) hi lo y) (by simp) (by
      rw [e1, e3]
      simp only [Holds.cons, decide_eq_false_iff_not, decide_eq_true_eq, Holds.nil, and_true, beq_eq_false_iff_ne]
      have : w64 (64 - (s : Int)) = ((64 - s : Nat) : Int) := by rw [show (64 : Int) - (s : Int) = ((64 - s : Nat) : Int) by omega, w64_id _ (by omega)]
      rw [this]
      omega)
    rw [e10, e9, e8, e7, e5, e4, e3, e2, e1] at h
    exact h
  have r2 := loop1 (evF env 10 (d + 2)) s ((L % 4294967296 : Nat) : Int) Y (Y / 4294967296) (Y % 4294967296) u (L / 4294967296) (by omega) (by omega) (by omega) (by omega) huY (by omega)
  obtain ⟨Q1, hQ1⟩ : ∃ Q, Q = (u * 4294967296 + L / 4294967296) / Y := ⟨_, rfl⟩
  obtain ⟨R1, hR1⟩ : ∃ R, R = (u * 4294967296 + L / 4294967296) % Y := ⟨_, rfl⟩
  have d1 : Q1 * Y + R1 = u * 4294967296 + L / 4294967296 := by rw [hQ1, hR1, Nat.mul_comm]; exact Nat.div_add_mod _ _
  have l1 : R1 < Y := by rw [hR1]; exact Nat.mod_lt _ (by omega)
  rw [← hQ1] at r2
  have eD : mD (u : Int) ((L / 4294967296 : Nat) : Int) Q1 Y = (R1 : Int) := by
    rw [mDN _ _ _ _ (by omega) (by rw [sub_aux _ _ _ d1]; omega), sub_aux _ _ _ d1]
  have r3 : evL env (evF env 10 (d + 2)) 10 ((sp230.drop 30).take 6) (R0 Y s ((Y / 4294967296 : Nat) : Int) ((Y % 4294967296 : Nat) : Int) u ((L / 4294967296 : Nat) : Int) ((L % 4294967296 : Nat) : Int) Q1) = .nx (S2 Y s ((Y / 4294967296 : Nat) : Int) ((Y % 4294967296 : Nat) : Int) ((L % 4294967296 : Nat) : Int) Q1 R1 ((R1 % (Y / 4294967296) : Nat) : Int) ((R1 / (Y / 4294967296) : Nat) : Int)) := by
    have h := evLP_ok (nop_ok (cf := evF env 10 (d + 2))) _ (mid (evF env 10 (d + 2)) Y s ((Y / 4294967296 : Nat) : Int) ((Y % 4294967296 : Nat) : Int) u ((L / 4294967296 : Nat) : Int) ((L % 4294967296 : Nat) : Int) Q1) (by simp) (by
      simp only [Holds.cons, decide_eq_false_iff_not, Holds.nil, and_true]
      omega)
    rw [h, eD, tdivN, remN _ _ (by omega), w64_id _ (Nat.lt_of_le_of_lt (Nat.div_le_self _ _) (by omega))]
  have r4 := loop2 (evF env 10 (d + 2)) s Q1 Y (Y / 4294967296) (Y % 4294967296) R1 (L % 4294967296) (by omega) (by omega) (by omega) (by omega) l1 (by omega)
  obtain ⟨Q0, hQ0⟩ : ∃ Q, Q = (R1 * 4294967296 + L % 4294967296) / Y := ⟨_, rfl⟩
  obtain ⟨R2v, hR2⟩ : ∃ R, R = (R1 * 4294967296 + L % 4294967296) % Y := ⟨_, rfl⟩
  have d2 : Q0 * Y + R2v = R1 * 4294967296 + L % 4294967296 := by rw [hQ0, hR2, Nat.mul_comm]; exact Nat.div_add_mod _ _
  have l2 : R2v < Y := by rw [hR2]; exact Nat.mod_lt _ (by omega)
  have lQ1 : Q1 < 4294967296 := by rw [hQ1]; exact Nat.div_lt_of_lt_mul (by have : (u + 1) * 4294967296 ≤ Y * 4294967296 := Nat.mul_le_mul_right _ huY; omega)
  have lQ0 : Q0 < 4294967296 := by rw [hQ0]; exact Nat.div_lt_of_lt_mul (by have : (R1 + 1) * 4294967296 ≤ Y * 4294967296 := Nat.mul_le_mul_right _ l1; omega)
  rw [← hQ0] at r4
  have eD2 : mD (R1 : Int) ((L % 4294967296 : Nat) : Int) Q0 Y = (R2v : Int) := by
    rw [mDN _ _ _ _ (by omega) (by rw [sub_aux _ _ _ d2]; omega), sub_aux _ _ _ d2]
  -- what is handed back
  have tot : (hi * 18446744073709551616 + lo) * 2 ^ s = (Q1 * 4294967296 + Q0) * Y + R2v := by
    rw [whole, ← d1]
    have h1 : (Q1 * Y + R1) * 4294967296 = Q1 * 4294967296 * Y + R1 * 4294967296 := by rw [Nat.add_mul, Nat.mul_right_comm]
    rw [h1, Nat.add_mul]
    omega
  have fq : (hi * 18446744073709551616 + lo) / y = Q1 * 4294967296 + Q0 := by
    rw [← Nat.mul_div_mul_right _ _ hsp, tot, ← hYY, Nat.mul_comm _ Y, Nat.mul_add_div (by omega), Nat.div_eq_of_lt l2, Nat.add_zero]
  have fr : (hi * 18446744073709551616 + lo) % y = R2v / 2 ^ s := by
    have h1 : (hi * 18446744073709551616 + lo) % y * 2 ^ s = R2v := by
      rw [← Nat.mul_mod_mul_right, tot, ← hYY, Nat.mul_comm _ Y, Nat.mul_add_mod, Nat.mod_eq_of_lt l2]
    rw [← h1, Nat.mul_div_cancel _ hsp]
  have ht := tail (evF env 10 (d + 2)) Y s ((L % 4294967296 : Nat) : Int) Q1 R1 Q0
  have htc := tailc (evF env 10 (d + 2)) Y s ((L % 4294967296 : Nat) : Int) Q1 R1 Q0
  generalize hT : evLP env (evF env 10 (d + 2)) nop 10 (sp230.drop 38) (R2 Y s ((L % 4294967296 : Nat) : Int) Q1 R1 Q0) [] = T at ht htc
  obtain ⟨o, q', cs⟩ := T
  simp only at ht htc
  have hno : o ≠ .no := by intro h; rw [h] at ht; cases ht
  have r5 := evLP_ok nop_ok _ hT hno (by
    rw [htc]
    simp only [Holds.cons, decide_eq_false_iff_not, Holds.nil, and_true]
    omega)
  have road : evL env (evF env 10 (d + 2)) 10 (spine ir230.body) { tm := enter [.int .u64 hi, .int .u64 lo, .int .u64 y], ob := [] } = o := by
    show evL env (evF env 10 (d + 2)) 10 sp230 _ = o
    rw [parts, evL_nx r1, evL_nx r2, evL_nx r3, evL_nx r4, r5]
  have eq1 : w64 (w64 ((Q1 : Int) * 4294967296) + (Q0 : Int)) = ((Q1 * 4294967296 + Q0 : Nat) : Int) := by
    rw [show (Q1 : Int) * 4294967296 = ((Q1 * 4294967296 : Nat) : Int) by omega, w64_id _ (by omega)]
    exact w64_add _ _ (by omega)
  rw [eq1, eD2, shrN' _ _ (by omega)] at ht
  have hsm := sm230 [.int .u64 hi, .int .u64 lo, .int .u64 y]
  have hfs := fs230
  rw [evF_unf hsm hfs, evC_spine, road, fq, fr]
  cases o with
  | rt s => exact ht
  | nx s => exact ht
  | ex i s => cases ht
  | no => cases ht

end Go.AM

namespace Go.AM
set_option maxRecDepth 100000
def mulHi (x y : Int) : Int :=
  w64 (w64 (w64 (shr64 x 32 * shr64 y 32) + shr64 (w64 (w64 (shr64 x 32 * and64 y 4294967295) + shr64 (w64 (and64 x 4294967295 * and64 y 4294967295)) 32)) 32) +
    shr64 (w64 (and64 (w64 (w64 (shr64 x 32 * and64 y 4294967295) + shr64 (w64 (and64 x 4294967295 * and64 y 4294967295)) 32)) 4294967295 + w64 (and64 x 4294967295 * shr64 y 32))) 32)
theorem ev203 (d : Nat) (x y : Int) : evF env 10 (d + 1) 203 [.int .u64 x, .int .u64 y] = some (.tup [.int .u64 (mulHi x y), .int .u64 (w64 (x * y))]) := by kernel_rfl
open Lib in
theorem mulHi_nat (x y : Nat) (hx : x < 18446744073709551616) (hy : y < 18446744073709551616) : mulHi x y = ((x * y / 18446744073709551616 : Nat) : Int) := by
  obtain ⟨bd, bt, bw, hhi⟩ := Lib.mul64_hi x y hx hy
  have ba := Lib.half_mul_le (a := x / 4294967296) (b := y / 4294967296) (by omega) (by omega)
  have bb := Lib.half_mul_le (a := x / 4294967296) (b := y % 4294967296) (by omega) (by omega)
  have bc := Lib.half_mul_le (a := x % 4294967296) (b := y / 4294967296) (by omega) (by omega)
  have ba' : x / 4294967296 * (y / 4294967296) < 18446744073709551616 := by omega
  have bb' : x / 4294967296 * (y % 4294967296) < 18446744073709551616 := by omega
  have bc' : x % 4294967296 * (y / 4294967296) < 18446744073709551616 := by omega
  have bh1 : x / 4294967296 * (y / 4294967296) + (x / 4294967296 * (y % 4294967296) + x % 4294967296 * (y % 4294967296) / 4294967296) / 4294967296 < 18446744073709551616 := by omega
  have bh : x / 4294967296 * (y / 4294967296) + (x / 4294967296 * (y % 4294967296) + x % 4294967296 * (y % 4294967296) / 4294967296) / 4294967296 + ((x / 4294967296 * (y % 4294967296) + x % 4294967296 * (y % 4294967296) / 4294967296) % 4294967296 + x % 4294967296 * (y / 4294967296)) / 4294967296 < 18446744073709551616 := by omega
  unfold mulHi
  rw [and64_mask x hx, and64_mask y hy]
  simp only [shr64_nat, ← Int.natCast_mul, ← Int.natCast_add, w64_nat, Nat.reducePow, Nat.mod_eq_of_lt bd, Nat.mod_eq_of_lt bb', Nat.mod_eq_of_lt bt, and64_mask _ bt, Nat.mod_eq_of_lt bc', Nat.mod_eq_of_lt bw, Nat.mod_eq_of_lt ba', Nat.mod_eq_of_lt bh1, Nat.mod_eq_of_lt bh]
  rw [hhi]

theorem mul64 (d x y : Nat) (hx : x < 18446744073709551616) (hy : y < 18446744073709551616) : evF env 10 (d + 1) 203 [.int .u64 x, .int .u64 y] = some (.tup [.int .u64 ((x * y / 18446744073709551616 : Nat) : Int), .int .u64 ((x * y % 18446744073709551616 : Nat) : Int)]) := by
  rw [ev203, mulHi_nat x y hx hy, show (x : Int) * y = ((x * y : Nat) : Int) by push_cast; rfl, w64_nat]

theorem divL (a : Nat) : (a : Int) / 18446744073709551616 = ((a / 18446744073709551616 : Nat) : Int) := by omega
theorem modL (a : Nat) : (a : Int) % 18446744073709551616 = ((a % 18446744073709551616 : Nat) : Int) := by omega
theorem dmL (a b : Nat) : (a : Int) * 18446744073709551616 + b = ((a * 18446744073709551616 + b : Nat) : Int) := by omega
theorem Holds.cons' {c : Bool × Bool} {cs : Cs} : Holds (c :: cs) ↔ c.1 = c.2 ∧ Holds cs := by
  unfold Holds; simp
def b64 (x : Int) : Bool × Bool := (decide (0 ≤ x ∧ x < 18446744073709551616), true)
def cpM : CallP := fun f args =>
  if f == 203 then match args with
    | [.lit (.int .u64 x), .lit (.int .u64 y)] => some (.tup [.int .u64 (x * y / 18446744073709551616), .int .u64 (x * y % 18446744073709551616)], [b64 x, b64 y])
    | _ => none
  else if f == 230 then match args with
    | [.lit (.int .u64 hi), .lit (.int .u64 lo), .lit (.int .u64 y)] => some (.tup [.int .u64 ((hi * 18446744073709551616 + lo) / y), .int .u64 ((hi * 18446744073709551616 + lo) % y)], [b64 hi, b64 lo, b64 y, (decide (hi < y), true)])
    | _ => none
  else none

theorem b64_inv {x : Int} (h : (b64 x).1 = (b64 x).2) : ∃ n : Nat, x = n ∧ n < 18446744073709551616 := by
  simp only [b64, decide_eq_true_eq] at h
  obtain ⟨n, rfl⟩ := Int.eq_ofNat_of_zero_le h.1
  exact ⟨n, rfl, by omega⟩

theorem cpM_ok (d : Nat) : ∀ f args r cs, cpM f args = some (r, cs) → Holds cs → evF env 10 (d + 3) f args = some r := by
  intro f args r cs h hc
  unfold cpM at h
  split at h
  · rename_i hf
    have hf : f = 203 := by simpa using hf
    subst hf
    split at h
    · rename_i x y
      simp only [Option.some.injEq, Prod.mk.injEq] at h
      obtain ⟨rfl, rfl⟩ := h
      obtain ⟨x, rfl, hx⟩ := b64_inv (hc _ (.head _))
      obtain ⟨y, rfl, hy⟩ := b64_inv (hc _ (.tail _ (.head _)))
      rw [mul64 (d + 2) x y hx hy, ← Int.natCast_mul, divL, modL]
    · cases h
  · split at h
    · rename_i hf
      have hf : f = 230 := by simpa using hf
      subst hf
      split at h
      · rename_i hi lo y
        simp only [Option.some.injEq, Prod.mk.injEq] at h
        obtain ⟨rfl, rfl⟩ := h
        obtain ⟨hi, rfl, h1⟩ := b64_inv (hc _ (.head _))
        obtain ⟨lo, rfl, h2⟩ := b64_inv (hc _ (.tail _ (.head _)))
        obtain ⟨y, rfl, h3⟩ := b64_inv (hc _ (.tail _ (.tail _ (.head _))))
        have h4 := hc _ (.tail _ (.tail _ (.tail _ (.head _))))
        simp only [decide_eq_true_eq] at h4
        rw [div64 d hi lo y (by omega) h3 h2, dmL, ← Int.natCast_ediv, ← Int.natCast_emod]
      · cases h
    · cases h

theorem mul_path (cf : CallF) (x y m : Int) : evFP env cf cpM 10 ir193 [.int .u64 x, .int .u64 y, .int .u64 m] [false] =
    some (.int .u64 ((x.tmod m * y.tmod m / 18446744073709551616 * 18446744073709551616 + x.tmod m * y.tmod m % 18446744073709551616) % m),
      [(m == 0, false), (decide (m = 0), false), (decide (m = 0), false), b64 (x.tmod m), b64 (y.tmod m), b64 (x.tmod m * y.tmod m / 18446744073709551616), b64 (x.tmod m * y.tmod m % 18446744073709551616), b64 m, (decide (x.tmod m * y.tmod m / 18446744073709551616 < m), true)]) := by kernel_rfl

theorem fs193 : env.fs 193 = some ir193 := by kernel_rfl
theorem sm193 (args : List AV) : env.sm 193 args = none := by kernel_rfl

theorem b64_ok (n : Nat) (h : n < 18446744073709551616) : (b64 (n : Int)).1 = (b64 (n : Int)).2 := by
  simp only [b64, decide_eq_true_eq]; omega

/-- **word.Mul: a product modulo a word.** -/
theorem mulW (d x y m : Nat) (_hx : x < 18446744073709551616) (_hy : y < 18446744073709551616) (h0 : 0 < m) (hm : m < 18446744073709551616) : evF env 10 (d + 4) 193 [.int .u64 x, .int .u64 y, .int .u64 m] = some (.int .u64 ((x * y % m : Nat) : Int)) := by
  have hp := mul_path (evF env 10 (d + 3)) x y m
  rw [tmodN, tmodN] at hp
  have l1 : x % m < m := Nat.mod_lt _ h0
  have l2 : y % m < m := Nat.mod_lt _ h0
  have l3 : x % m * (y % m) / 18446744073709551616 < m := Nat.div_lt_of_lt_mul (by
    rw [Nat.mul_comm 18446744073709551616 m]
    exact Nat.mul_lt_mul_of_lt_of_le l1 (by omega) (by omega))
  have e1 : ((x % m : Nat) : Int) * ((y % m : Nat) : Int) = ((x % m * (y % m) : Nat) : Int) := by push_cast; rfl
  generalize hPP : x % m * (y % m) = P at *
  rw [e1] at hp
  have e2 : (P : Int) / 18446744073709551616 = ((P / 18446744073709551616 : Nat) : Int) := by omega
  have e3 : (P : Int) % 18446744073709551616 = ((P % 18446744073709551616 : Nat) : Int) := by omega
  have e4 : ((P / 18446744073709551616 : Nat) : Int) * 18446744073709551616 + ((P % 18446744073709551616 : Nat) : Int) = (P : Int) := by omega
  rw [e2, e3, e4] at hp
  have := evFP_ok (cpM_ok d) (sm193 _) fs193 hp (by
    simp only [Holds.cons', Holds.nil, and_true, decide_eq_false_iff_not, decide_eq_true_eq, beq_eq_false_iff_ne]
    refine ⟨by omega, by omega, by omega, b64_ok _ (by omega), b64_ok _ (by omega), b64_ok _ (by omega), b64_ok _ (by omega), b64_ok _ hm, by omega⟩)
  rw [this]
  simp only [Option.some.injEq, AV.lit.injEq, Value.int.injEq, true_and]
  rw [← Int.natCast_emod, ← hPP, ← Nat.mul_mod]

end Go.AM

namespace Go.AM
set_option maxRecDepth 100000

def cpP : CallP := fun f args =>
  if f == 193 then match args with
    | [.lit (.int .u64 x), .lit (.int .u64 y), .lit (.int .u64 m)] => some (.int .u64 (x * y % m), [b64 x, b64 y, b64 m, (decide (0 < m), true)])
    | _ => none
  else none

theorem cpP_ok (d : Nat) : ∀ f args r cs, cpP f args = some (r, cs) → Holds cs → evF env 10 (d + 4) f args = some r := by
  intro f args r cs h hc
  unfold cpP at h
  split at h
  · rename_i hf
    have hf : f = 193 := by simpa using hf
    subst hf
    split at h
    · rename_i x y m
      simp only [Option.some.injEq, Prod.mk.injEq] at h
      obtain ⟨rfl, rfl⟩ := h
      obtain ⟨x, rfl, h1⟩ := b64_inv (hc _ (.head _))
      obtain ⟨y, rfl, h2⟩ := b64_inv (hc _ (.tail _ (.head _)))
      obtain ⟨m, rfl, h3⟩ := b64_inv (hc _ (.tail _ (.tail _ (.head _))))
      have h4 := hc _ (.tail _ (.tail _ (.tail _ (.head _))))
      simp only [decide_eq_true_eq] at h4
      rw [mulW d x y m h1 h2 (by omega) h3, ← Int.natCast_mul, ← Int.natCast_emod]
    · cases h
  · cases h

def sp228 := spine ir228.body
def Sp (a n m x : Int) : St := { tm := [(0, .int .u64 a), (1, .int .u64 n), (2, .int .u64 m), (7, .int .u64 x)], ob := [] }
def bodyOf : ICode → ICode | .blk _ (.loop (.seq (.live _) b)) => b | c => c
def liveOf : ICode → List Nat | .blk _ (.loop (.seq (.live l) _)) => l | _ => []
def lp228 : ICode := sp228.getD 6 .bad
def odd (n : Int) : Bool := and64 n 1 == 1

theorem pow_odd (cf : CallF) (fuel : Nat) (a n m x : Int) : evLP env cf cpP fuel [bodyOf lp228, .live (liveOf lp228)] (Sp a n m x) [true, true] =
    (.nx (Sp (a * a % m) (shr n 1) m (x * a % m)), [], [(decide (n > 0), true), (odd n, true), b64 x, b64 a, b64 m, (decide (0 < m), true), b64 a, b64 a, b64 m, (decide (0 < m), true), (decide ((1 : Int) < 0), false)]) := by kernel_rfl
theorem pow_even (cf : CallF) (fuel : Nat) (a n m x : Int) : evLP env cf cpP fuel [bodyOf lp228, .live (liveOf lp228)] (Sp a n m x) [true, false] =
    (.nx (Sp (a * a % m) (shr n 1) m x), [], [(decide (n > 0), true), (odd n, false), b64 a, b64 a, b64 m, (decide (0 < m), true), (decide ((1 : Int) < 0), false)]) := by kernel_rfl
def SpE (a n m x : Int) : St := { tm := [(0, .int .u64 a), (1, .int .u64 n), (2, .int .u64 m), (7, .int .u64 x), (13, .bool (decide (n > 0)))], ob := [] }
theorem pow_end (cf : CallF) (fuel : Nat) (a n m x : Int) : evLP env cf cpP fuel [bodyOf lp228, .live (liveOf lp228)] (Sp a n m x) [false] = (.ex 0 (SpE a n m x), [], [(decide (n > 0), false)]) := by kernel_rfl
theorem pow_head (cf : CallF) (fuel : Nat) (a n m : Int) : evLP env cf cpP fuel (sp228.take 6) { tm := enter [.int .u64 a, .int .u64 n, .int .u64 m], ob := [] } [false] = (.nx (Sp a n m (Int.tmod 1 m)), [], [(m == 0, false), (decide (m = 0), false)]) := by kernel_rfl
def finF (fn : IFn) : Out → Option AV
  | .rt s => finish fn s
  | .nx s => finish fn s
  | _ => none
theorem pow_tail (cf : CallF) (fuel : Nat) (a n m x : Int) : finF ir228 (evL env cf fuel (sp228.drop 7) (SpE a n m x)) = some (.int .u64 x) := by kernel_rfl
theorem evF_fin {E : Env} {fuel d f : Nat} {args : List AV} {fn : IFn} (hsm : E.sm f args = none) (hfs : E.fs f = some fn) : evF E fuel (d + 1) f args = finF fn (evL E (evF E fuel d) fuel (spine fn.body) { tm := enter args, ob := [] }) := by
  rw [evF_unf hsm hfs, evC_spine]
  cases evL E (evF E fuel d) fuel (spine fn.body) { tm := enter args, ob := [] } <;> rfl
theorem pow_parts : sp228 = sp228.take 6 ++ (lp228 :: sp228.drop 7) := by kernel_rfl

/-- A power modulo a number, as the loop reckons it. -/
def pw : Nat → Nat → Nat → Nat → Nat → Nat
  | 0, x, _, _, _ => x
  | k + 1, x, a, n, m => if n = 0 then x else pw k (if n % 2 = 1 then x * a % m else x) (a * a % m) (n / 2) m

theorem oddN (n : Nat) (h : n < 18446744073709551616) : odd (n : Int) = decide (n % 2 = 1) := by
  unfold odd and64
  have h1 : (BitVec.ofInt 64 (n : Int)) = BitVec.ofNat 64 n := BitVec.ofInt_natCast 64 _
  have h2 : (BitVec.ofInt 64 (1 : Int)) = BitVec.ofNat 64 1 := rfl
  have h3 : (BitVec.ofInt 64 (n : Int) &&& BitVec.ofInt 64 1).toNat = n % 2 := by
    rw [h1, h2, BitVec.toNat_and, BitVec.toNat_ofNat, BitVec.toNat_ofNat, Nat.mod_eq_of_lt (by omega), Nat.mod_eq_of_lt (by omega)]
    exact Nat.and_two_pow_sub_one_eq_mod n 1
  rw [h3, IntKind.wrap_u64]
  by_cases h : n % 2 = 1
  · rw [h]; rfl
  · have : n % 2 = 0 := by omega
    rw [this]; rfl

theorem pow_loop (d fuel : Nat) (hf : 10 ≤ fuel) (m : Nat) (h0 : 0 < m) (hm : m < 18446744073709551616) : ∀ (k : Nat) (a n x : Nat), a < 18446744073709551616 → x < 18446744073709551616 → n < 2 ^ k → k ≤ 64 →
    ∃ a' n' : Nat, rounds (roundN env (evF env fuel (d + 4)) fuel (liveOf lp228) (bodyOf lp228)) (k + 1) (Sp a n m x) = .ex 0 (SpE a' n' m ((pw k x a n m : Nat) : Int)) := by
  have hcp : ∀ f args r cs, cpP f args = some (r, cs) → Holds cs → evF env fuel (d + 4) f args = some r := fun f args r cs h1 h2 => evF_mono hf (Nat.le_refl _) _ _ _ (cpP_ok d f args r cs h1 h2)
  intro k
  induction k with
  | zero =>
    intro a n x ha hx hn _
    have hn0 : n = 0 := by simpa using hn
    subst hn0
    exact ⟨a, 0, rounds_ex (evLP_ok hcp _ (pow_end _ _ a ((0 : Nat) : Int) m x) (by simp) (by simp [Holds]))⟩
  | succ k ih =>
    intro a n x ha hx hn hk
    by_cases hn0 : n = 0
    · subst hn0
      have e : pw (k + 1) x a 0 m = x := by simp [pw]
      rw [e]
      exact ⟨a, 0, rounds_ex (evLP_ok hcp _ (pow_end _ _ a ((0 : Nat) : Int) m x) (by simp) (by simp [Holds]))⟩
    · have hn64 : n < 18446744073709551616 := Nat.lt_of_lt_of_le hn (Nat.pow_le_pow_right (by decide) hk)
      have hlt : a * a % m < 18446744073709551616 := Nat.lt_trans (Nat.mod_lt _ h0) hm
      have hlt2 : x * a % m < 18446744073709551616 := Nat.lt_trans (Nat.mod_lt _ h0) hm
      have e1 : shr (n : Int) 1 = ((n / 2 : Nat) : Int) := shrN' n 1 (by omega)
      have e2 : (a : Int) * a % m = ((a * a % m : Nat) : Int) := by rw [← Int.natCast_mul, ← Int.natCast_emod]
      have e3 : (x : Int) * a % m = ((x * a % m : Nat) : Int) := by rw [← Int.natCast_mul, ← Int.natCast_emod]
      by_cases hodd : n % 2 = 1
      · have h := evLP_ok hcp _ (pow_odd (evF env fuel (d + 4)) fuel a n m x) (by simp) (by
          simp only [Holds.cons', Holds.nil, and_true, decide_eq_true_eq, decide_eq_false_iff_not, oddN n hn64]
          refine ⟨by omega, hodd, b64_ok _ hx, b64_ok _ ha, b64_ok _ hm, by omega, b64_ok _ ha, b64_ok _ ha, b64_ok _ hm, by omega, by omega⟩)
        rw [e1, e2, e3] at h
        obtain ⟨a', n', hr⟩ := ih (a * a % m) (n / 2) (x * a % m) hlt hlt2 (by rw [Nat.pow_succ] at hn; omega) (by omega)
        refine ⟨a', n', ?_⟩
        rw [rounds_nx (f := roundN env (evF env fuel (d + 4)) fuel (liveOf lp228) (bodyOf lp228)) h, hr]
        simp only [pw, if_neg hn0, if_pos hodd]
      · have h := evLP_ok hcp _ (pow_even (evF env fuel (d + 4)) fuel a n m x) (by simp) (by
          simp only [Holds.cons', Holds.nil, and_true, decide_eq_true_eq, decide_eq_false_iff_not, oddN n hn64]
          refine ⟨by omega, hodd, b64_ok _ ha, b64_ok _ ha, b64_ok _ hm, by omega, by omega⟩)
        rw [e1, e2] at h
        obtain ⟨a', n', hr⟩ := ih (a * a % m) (n / 2) x hlt hx (by rw [Nat.pow_succ] at hn; omega) (by omega)
        refine ⟨a', n', ?_⟩
        rw [rounds_nx (f := roundN env (evF env fuel (d + 4)) fuel (liveOf lp228) (bodyOf lp228)) h, hr]
        simp only [pw, if_neg hn0, if_neg hodd]

theorem fs228 : env.fs 228 = some ir228 := by kernel_rfl
theorem sm228 (args : List AV) : env.sm 228 args = none := by kernel_rfl
theorem lp228_eq : lp228 = .blk 0 (.loop (.seq (.live (liveOf lp228)) (bodyOf lp228))) := by kernel_rfl
theorem keepSp (a n m x : Int) : (Sp a n m x).keep (liveOf lp228) = Sp a n m x := by kernel_rfl

/-- **word.Pow: a power modulo a word.** -/
theorem powW (d a n m : Nat) (ha : a < 18446744073709551616) (hn : n < 18446744073709551616) (h0 : 0 < m) (hm : m < 18446744073709551616) : evF env 65 (d + 5) 228 [.int .u64 a, .int .u64 n, .int .u64 m] = some (.int .u64 ((pw 64 (1 % m) a n m : Nat) : Int)) := by
  have hcp : ∀ f args r cs, cpP f args = some (r, cs) → Holds cs → evF env 65 (d + 4) f args = some r := fun f args r cs h1 h2 => evF_mono (by omega) (Nat.le_refl _) _ _ _ (cpP_ok d f args r cs h1 h2)
  have h1 := evLP_ok hcp _ (pow_head (evF env 65 (d + 4)) 65 a n m) (by simp) (by
    simp only [Holds.cons', Holds.nil, and_true, decide_eq_false_iff_not, beq_eq_false_iff_ne]; omega)
  rw [show Int.tmod 1 (m : Int) = ((1 % m : Nat) : Int) from tmodN 1 m] at h1
  obtain ⟨a', n', h2⟩ := pow_loop d 65 (by omega) m h0 hm 64 a n (1 % m) ha (Nat.lt_of_le_of_lt (Nat.mod_le _ _) (by omega)) hn (by omega)
  have h3 : evC env (evF env 65 (d + 4)) 65 lp228 (Sp a n m ((1 % m : Nat) : Int)) = .nx (SpE a' n' m ((pw 64 (1 % m) a n m : Nat) : Int)) := by
    rw [lp228_eq]
    apply evC_blk_ex
    rw [evC_loop, keepSp]
    exact h2
  rw [evF_fin (sm228 _) fs228]
  show finF ir228 (evL env (evF env 65 (d + 4)) 65 sp228 _) = _
  rw [pow_parts, evL_nx h1]
  simp only [evL, h3]
  exact pow_tail _ _ _ _ _ _

end Go.AM
