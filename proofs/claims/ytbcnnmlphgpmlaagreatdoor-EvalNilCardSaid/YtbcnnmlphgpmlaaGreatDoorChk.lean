/-
  This text proves what its parts' remarks say, of the abstract machine (part Chk); no condition stands ahead of the claim's statement.
-/
import Derived.Test.YtbcnnmlphgpmlaaGreatDoorIrB
import Derived.Test.YtbcnnmlphgpmlaaGreatDoorMc
import Derived.Test.YtbcnnmlphgpmlaaGreatDoorProg

/- The forms are the program's; the functions that add and subtract with a carry. -/
namespace Go.AM
set_option maxRecDepth 100000
theorem form138 : FormOK Go.Proofs.Tryz.prog globs 138 ir138 := ⟨by kernel_rfl, by kernel_rfl, by kernel_rfl⟩
theorem form65 : FormOK Go.Proofs.Tryz.prog globs 65 ir65 := ⟨by kernel_rfl, by kernel_rfl, by kernel_rfl⟩
theorem form221 : FormOK Go.Proofs.Tryz.prog globs 221 ir221 := ⟨by kernel_rfl, by kernel_rfl, by kernel_rfl⟩
theorem form180 : FormOK Go.Proofs.Tryz.prog globs 180 ir180 := ⟨by kernel_rfl, by kernel_rfl, by kernel_rfl⟩
theorem form225 : FormOK Go.Proofs.Tryz.prog globs 225 ir225 := ⟨by kernel_rfl, by kernel_rfl, by kernel_rfl⟩
theorem form203 : FormOK Go.Proofs.Tryz.prog globs 203 ir203 := ⟨by kernel_rfl, by kernel_rfl, by kernel_rfl⟩
theorem form186 : FormOK Go.Proofs.Tryz.prog globs 186 ir186 := ⟨by kernel_rfl, by kernel_rfl, by kernel_rfl⟩
theorem form200 : FormOK Go.Proofs.Tryz.prog globs 200 ir200 := ⟨by kernel_rfl, by kernel_rfl, by kernel_rfl⟩
theorem form230 : FormOK Go.Proofs.Tryz.prog globs 230 ir230 := ⟨by kernel_rfl, by kernel_rfl, by kernel_rfl⟩
theorem form193 : FormOK Go.Proofs.Tryz.prog globs 193 ir193 := ⟨by kernel_rfl, by kernel_rfl, by kernel_rfl⟩
theorem form228 : FormOK Go.Proofs.Tryz.prog globs 228 ir228 := ⟨by kernel_rfl, by kernel_rfl, by kernel_rfl⟩
theorem form226 : FormOK Go.Proofs.Tryz.prog globs 226 ir226 := ⟨by kernel_rfl, by kernel_rfl, by kernel_rfl⟩
theorem form188 : FormOK Go.Proofs.Tryz.prog globs 188 ir188 := ⟨by kernel_rfl, by kernel_rfl, by kernel_rfl⟩
theorem form222 : FormOK Go.Proofs.Tryz.prog globs 222 ir222 := ⟨by kernel_rfl, by kernel_rfl, by kernel_rfl⟩
theorem form181 : FormOK Go.Proofs.Tryz.prog globs 181 ir181 := ⟨by kernel_rfl, by kernel_rfl, by kernel_rfl⟩
theorem form223 : FormOK Go.Proofs.Tryz.prog globs 223 ir223 := ⟨by kernel_rfl, by kernel_rfl, by kernel_rfl⟩
theorem form185 : FormOK Go.Proofs.Tryz.prog globs 185 ir185 := ⟨by kernel_rfl, by kernel_rfl, by kernel_rfl⟩
theorem form182 : FormOK Go.Proofs.Tryz.prog globs 182 ir182 := ⟨by kernel_rfl, by kernel_rfl, by kernel_rfl⟩
theorem form122 : FormOK Go.Proofs.Tryz.prog globs 122 ir122 := ⟨by kernel_rfl, by kernel_rfl, by kernel_rfl⟩
theorem form137 : FormOK Go.Proofs.Tryz.prog globs 137 ir137 := ⟨by kernel_rfl, by kernel_rfl, by kernel_rfl⟩
theorem form123 : FormOK Go.Proofs.Tryz.prog globs 123 ir123 := ⟨by kernel_rfl, by kernel_rfl, by kernel_rfl⟩
theorem form183 : FormOK Go.Proofs.Tryz.prog globs 183 ir183 := ⟨by kernel_rfl, by kernel_rfl, by kernel_rfl⟩
theorem form120 : FormOK Go.Proofs.Tryz.prog globs 120 ir120 := ⟨by kernel_rfl, by kernel_rfl, by kernel_rfl⟩
theorem form224 : FormOK Go.Proofs.Tryz.prog globs 224 ir224 := ⟨by kernel_rfl, by kernel_rfl, by kernel_rfl⟩
theorem form227 : FormOK Go.Proofs.Tryz.prog globs 227 ir227 := ⟨by kernel_rfl, by kernel_rfl, by kernel_rfl⟩
theorem form189 : FormOK Go.Proofs.Tryz.prog globs 189 ir189 := ⟨by kernel_rfl, by kernel_rfl, by kernel_rfl⟩
theorem form187 : FormOK Go.Proofs.Tryz.prog globs 187 ir187 := ⟨by kernel_rfl, by kernel_rfl, by kernel_rfl⟩
theorem form229 : FormOK Go.Proofs.Tryz.prog globs 229 ir229 := ⟨by kernel_rfl, by kernel_rfl, by kernel_rfl⟩
theorem form190 : FormOK Go.Proofs.Tryz.prog globs 190 ir190 := ⟨by kernel_rfl, by kernel_rfl, by kernel_rfl⟩
theorem form177 : FormOK Go.Proofs.Tryz.prog globs 177 ir177 := ⟨by kernel_rfl, by kernel_rfl, by kernel_rfl⟩
theorem form191 : FormOK Go.Proofs.Tryz.prog globs 191 ir191 := ⟨by kernel_rfl, by kernel_rfl, by kernel_rfl⟩
theorem form192 : FormOK Go.Proofs.Tryz.prog globs 192 ir192 := ⟨by kernel_rfl, by kernel_rfl, by kernel_rfl⟩
theorem form125 : FormOK Go.Proofs.Tryz.prog globs 125 ir125 := ⟨by kernel_rfl, by kernel_rfl, by kernel_rfl⟩
theorem form184 : FormOK Go.Proofs.Tryz.prog globs 184 ir184 := ⟨by kernel_rfl, by kernel_rfl, by kernel_rfl⟩
theorem form121 : FormOK Go.Proofs.Tryz.prog globs 121 ir121 := ⟨by kernel_rfl, by kernel_rfl, by kernel_rfl⟩
theorem form124 : FormOK Go.Proofs.Tryz.prog globs 124 ir124 := ⟨by kernel_rfl, by kernel_rfl, by kernel_rfl⟩
theorem form50 : FormOK Go.Proofs.Tryz.prog globs 50 ir50 := ⟨by kernel_rfl, by kernel_rfl, by kernel_rfl⟩
theorem form51 : FormOK Go.Proofs.Tryz.prog globs 51 ir51 := ⟨by kernel_rfl, by kernel_rfl, by kernel_rfl⟩
theorem form110 : FormOK Go.Proofs.Tryz.prog globs 110 ir110 := ⟨by kernel_rfl, by kernel_rfl, by kernel_rfl⟩
theorem form52 : FormOK Go.Proofs.Tryz.prog globs 52 ir52 := ⟨by kernel_rfl, by kernel_rfl, by kernel_rfl⟩
theorem form13 : FormOK Go.Proofs.Tryz.prog globs 13 ir13 := ⟨by kernel_rfl, by kernel_rfl, by kernel_rfl⟩
theorem form195 : FormOK Go.Proofs.Tryz.prog globs 195 ir195 := ⟨by kernel_rfl, by kernel_rfl, by kernel_rfl⟩
theorem form235 : FormOK Go.Proofs.Tryz.prog globs 235 ir235 := ⟨by kernel_rfl, by kernel_rfl, by kernel_rfl⟩
theorem form214 : FormOK Go.Proofs.Tryz.prog globs 214 ir214 := ⟨by kernel_rfl, by kernel_rfl, by kernel_rfl⟩
theorem form215 : FormOK Go.Proofs.Tryz.prog globs 215 ir215 := ⟨by kernel_rfl, by kernel_rfl, by kernel_rfl⟩
theorem form165 : FormOK Go.Proofs.Tryz.prog globs 165 ir165 := ⟨by kernel_rfl, by kernel_rfl, by kernel_rfl⟩
theorem form196 : FormOK Go.Proofs.Tryz.prog globs 196 ir196 := ⟨by kernel_rfl, by kernel_rfl, by kernel_rfl⟩
theorem form128 : FormOK Go.Proofs.Tryz.prog globs 128 ir128 := ⟨by kernel_rfl, by kernel_rfl, by kernel_rfl⟩
theorem form58 : FormOK Go.Proofs.Tryz.prog globs 58 ir58 := ⟨by kernel_rfl, by kernel_rfl, by kernel_rfl⟩
theorem form129 : FormOK Go.Proofs.Tryz.prog globs 129 ir129 := ⟨by kernel_rfl, by kernel_rfl, by kernel_rfl⟩
theorem form59 : FormOK Go.Proofs.Tryz.prog globs 59 ir59 := ⟨by kernel_rfl, by kernel_rfl, by kernel_rfl⟩
theorem form170 : FormOK Go.Proofs.Tryz.prog globs 170 ir170 := ⟨by kernel_rfl, by kernel_rfl, by kernel_rfl⟩
theorem form130 : FormOK Go.Proofs.Tryz.prog globs 130 ir130 := ⟨by kernel_rfl, by kernel_rfl, by kernel_rfl⟩
theorem form131 : FormOK Go.Proofs.Tryz.prog globs 131 ir131 := ⟨by kernel_rfl, by kernel_rfl, by kernel_rfl⟩
theorem form60 : FormOK Go.Proofs.Tryz.prog globs 60 ir60 := ⟨by kernel_rfl, by kernel_rfl, by kernel_rfl⟩
theorem form16 : FormOK Go.Proofs.Tryz.prog globs 16 ir16 := ⟨by kernel_rfl, by kernel_rfl, by kernel_rfl⟩
theorem form239 : FormOK Go.Proofs.Tryz.prog globs 239 ir239 := ⟨by kernel_rfl, by kernel_rfl, by kernel_rfl⟩
theorem form249 : FormOK Go.Proofs.Tryz.prog globs 249 ir249 := ⟨by kernel_rfl, by kernel_rfl, by kernel_rfl⟩
theorem form246 : FormOK Go.Proofs.Tryz.prog globs 246 ir246 := ⟨by kernel_rfl, by kernel_rfl, by kernel_rfl⟩
theorem form250 : FormOK Go.Proofs.Tryz.prog globs 250 ir250 := ⟨by kernel_rfl, by kernel_rfl, by kernel_rfl⟩
theorem form247 : FormOK Go.Proofs.Tryz.prog globs 247 ir247 := ⟨by kernel_rfl, by kernel_rfl, by kernel_rfl⟩
theorem form240 : FormOK Go.Proofs.Tryz.prog globs 240 ir240 := ⟨by kernel_rfl, by kernel_rfl, by kernel_rfl⟩
theorem form241 : FormOK Go.Proofs.Tryz.prog globs 241 ir241 := ⟨by kernel_rfl, by kernel_rfl, by kernel_rfl⟩
theorem form218 : FormOK Go.Proofs.Tryz.prog globs 218 ir218 := ⟨by kernel_rfl, by kernel_rfl, by kernel_rfl⟩
theorem form219 : FormOK Go.Proofs.Tryz.prog globs 219 ir219 := ⟨by kernel_rfl, by kernel_rfl, by kernel_rfl⟩
theorem form171 : FormOK Go.Proofs.Tryz.prog globs 171 ir171 := ⟨by kernel_rfl, by kernel_rfl, by kernel_rfl⟩
theorem form97 : FormOK Go.Proofs.Tryz.prog globs 97 ir97 := ⟨by kernel_rfl, by kernel_rfl, by kernel_rfl⟩
theorem form139 : FormOK Go.Proofs.Tryz.prog globs 139 ir139 := ⟨by kernel_rfl, by kernel_rfl, by kernel_rfl⟩
theorem form199 : FormOK Go.Proofs.Tryz.prog globs 199 ir199 := ⟨by kernel_rfl, by kernel_rfl, by kernel_rfl⟩
theorem form134 : FormOK Go.Proofs.Tryz.prog globs 134 ir134 := ⟨by kernel_rfl, by kernel_rfl, by kernel_rfl⟩
theorem form140 : FormOK Go.Proofs.Tryz.prog globs 140 ir140 := ⟨by kernel_rfl, by kernel_rfl, by kernel_rfl⟩
theorem form66 : FormOK Go.Proofs.Tryz.prog globs 66 ir66 := ⟨by kernel_rfl, by kernel_rfl, by kernel_rfl⟩
theorem form236 : FormOK Go.Proofs.Tryz.prog globs 236 ir236 := ⟨by kernel_rfl, by kernel_rfl, by kernel_rfl⟩
theorem form238 : FormOK Go.Proofs.Tryz.prog globs 238 ir238 := ⟨by kernel_rfl, by kernel_rfl, by kernel_rfl⟩
theorem form244 : FormOK Go.Proofs.Tryz.prog globs 244 ir244 := ⟨by kernel_rfl, by kernel_rfl, by kernel_rfl⟩
theorem form198 : FormOK Go.Proofs.Tryz.prog globs 198 ir198 := ⟨by kernel_rfl, by kernel_rfl, by kernel_rfl⟩
theorem form248 : FormOK Go.Proofs.Tryz.prog globs 248 ir248 := ⟨by kernel_rfl, by kernel_rfl, by kernel_rfl⟩
theorem form245 : FormOK Go.Proofs.Tryz.prog globs 245 ir245 := ⟨by kernel_rfl, by kernel_rfl, by kernel_rfl⟩
theorem form237 : FormOK Go.Proofs.Tryz.prog globs 237 ir237 := ⟨by kernel_rfl, by kernel_rfl, by kernel_rfl⟩
theorem form216 : FormOK Go.Proofs.Tryz.prog globs 216 ir216 := ⟨by kernel_rfl, by kernel_rfl, by kernel_rfl⟩
theorem form166 : FormOK Go.Proofs.Tryz.prog globs 166 ir166 := ⟨by kernel_rfl, by kernel_rfl, by kernel_rfl⟩
theorem form167 : FormOK Go.Proofs.Tryz.prog globs 167 ir167 := ⟨by kernel_rfl, by kernel_rfl, by kernel_rfl⟩
theorem form136 : FormOK Go.Proofs.Tryz.prog globs 136 ir136 := ⟨by kernel_rfl, by kernel_rfl, by kernel_rfl⟩
theorem form64 : FormOK Go.Proofs.Tryz.prog globs 64 ir64 := ⟨by kernel_rfl, by kernel_rfl, by kernel_rfl⟩
theorem form201 : FormOK Go.Proofs.Tryz.prog globs 201 ir201 := ⟨by kernel_rfl, by kernel_rfl, by kernel_rfl⟩
theorem form202 : FormOK Go.Proofs.Tryz.prog globs 202 ir202 := ⟨by kernel_rfl, by kernel_rfl, by kernel_rfl⟩
theorem form133 : FormOK Go.Proofs.Tryz.prog globs 133 ir133 := ⟨by kernel_rfl, by kernel_rfl, by kernel_rfl⟩
theorem form217 : FormOK Go.Proofs.Tryz.prog globs 217 ir217 := ⟨by kernel_rfl, by kernel_rfl, by kernel_rfl⟩
theorem form168 : FormOK Go.Proofs.Tryz.prog globs 168 ir168 := ⟨by kernel_rfl, by kernel_rfl, by kernel_rfl⟩
theorem form93 : FormOK Go.Proofs.Tryz.prog globs 93 ir93 := ⟨by kernel_rfl, by kernel_rfl, by kernel_rfl⟩
theorem form28 : FormOK Go.Proofs.Tryz.prog globs 28 ir28 := ⟨by kernel_rfl, by kernel_rfl, by kernel_rfl⟩
theorem form86 : FormOK Go.Proofs.Tryz.prog globs 86 ir86 := ⟨by kernel_rfl, by kernel_rfl, by kernel_rfl⟩
theorem form102 : FormOK Go.Proofs.Tryz.prog globs 102 ir102 := ⟨by kernel_rfl, by kernel_rfl, by kernel_rfl⟩
theorem form114 : FormOK Go.Proofs.Tryz.prog globs 114 ir114 := ⟨by kernel_rfl, by kernel_rfl, by kernel_rfl⟩
theorem form49 : FormOK Go.Proofs.Tryz.prog globs 49 ir49 := ⟨by kernel_rfl, by kernel_rfl, by kernel_rfl⟩
theorem form11 : FormOK Go.Proofs.Tryz.prog globs 11 ir11 := ⟨by kernel_rfl, by kernel_rfl, by kernel_rfl⟩
theorem form61 : FormOK Go.Proofs.Tryz.prog globs 61 ir61 := ⟨by kernel_rfl, by kernel_rfl, by kernel_rfl⟩
theorem form132 : FormOK Go.Proofs.Tryz.prog globs 132 ir132 := ⟨by kernel_rfl, by kernel_rfl, by kernel_rfl⟩
theorem form62 : FormOK Go.Proofs.Tryz.prog globs 62 ir62 := ⟨by kernel_rfl, by kernel_rfl, by kernel_rfl⟩
theorem form135 : FormOK Go.Proofs.Tryz.prog globs 135 ir135 := ⟨by kernel_rfl, by kernel_rfl, by kernel_rfl⟩
theorem form63 : FormOK Go.Proofs.Tryz.prog globs 63 ir63 := ⟨by kernel_rfl, by kernel_rfl, by kernel_rfl⟩
theorem form17 : FormOK Go.Proofs.Tryz.prog globs 17 ir17 := ⟨by kernel_rfl, by kernel_rfl, by kernel_rfl⟩
theorem form169 : FormOK Go.Proofs.Tryz.prog globs 169 ir169 := ⟨by kernel_rfl, by kernel_rfl, by kernel_rfl⟩
theorem form94 : FormOK Go.Proofs.Tryz.prog globs 94 ir94 := ⟨by kernel_rfl, by kernel_rfl, by kernel_rfl⟩
theorem form95 : FormOK Go.Proofs.Tryz.prog globs 95 ir95 := ⟨by kernel_rfl, by kernel_rfl, by kernel_rfl⟩
theorem form96 : FormOK Go.Proofs.Tryz.prog globs 96 ir96 := ⟨by kernel_rfl, by kernel_rfl, by kernel_rfl⟩
theorem form29 : FormOK Go.Proofs.Tryz.prog globs 29 ir29 := ⟨by kernel_rfl, by kernel_rfl, by kernel_rfl⟩
theorem form175 : FormOK Go.Proofs.Tryz.prog globs 175 ir175 := ⟨by kernel_rfl, by kernel_rfl, by kernel_rfl⟩
theorem form103 : FormOK Go.Proofs.Tryz.prog globs 103 ir103 := ⟨by kernel_rfl, by kernel_rfl, by kernel_rfl⟩
theorem form104 : FormOK Go.Proofs.Tryz.prog globs 104 ir104 := ⟨by kernel_rfl, by kernel_rfl, by kernel_rfl⟩
theorem form33 : FormOK Go.Proofs.Tryz.prog globs 33 ir33 := ⟨by kernel_rfl, by kernel_rfl, by kernel_rfl⟩
theorem form111 : FormOK Go.Proofs.Tryz.prog globs 111 ir111 := ⟨by kernel_rfl, by kernel_rfl, by kernel_rfl⟩
theorem form39 : FormOK Go.Proofs.Tryz.prog globs 39 ir39 := ⟨by kernel_rfl, by kernel_rfl, by kernel_rfl⟩
theorem form116 : FormOK Go.Proofs.Tryz.prog globs 116 ir116 := ⟨by kernel_rfl, by kernel_rfl, by kernel_rfl⟩
theorem form43 : FormOK Go.Proofs.Tryz.prog globs 43 ir43 := ⟨by kernel_rfl, by kernel_rfl, by kernel_rfl⟩
theorem form10 : FormOK Go.Proofs.Tryz.prog globs 10 ir10 := ⟨by kernel_rfl, by kernel_rfl, by kernel_rfl⟩
theorem all_cons {α : Type} {p : α → Prop} {a : α} {l : List α} (h : p a) (hl : ∀ x ∈ l, p x) : ∀ x ∈ a :: l, p x := fun x hx => by
  cases hx with
  | head => exact h
  | tail _ hx => exact hl x hx
theorem all_nil {α : Type} {p : α → Prop} : ∀ x ∈ ([] : List α), p x := fun x hx => by cases hx
theorem forms : ∀ x ∈ irs, FormOK Go.Proofs.Tryz.prog globs x.1 x.2 :=
  all_cons form138 <|
  all_cons form65 <|
  all_cons form221 <|
  all_cons form180 <|
  all_cons form225 <|
  all_cons form203 <|
  all_cons form186 <|
  all_cons form200 <|
  all_cons form230 <|
  all_cons form193 <|
  all_cons form228 <|
  all_cons form226 <|
  all_cons form188 <|
  all_cons form222 <|
  all_cons form181 <|
  all_cons form223 <|
  all_cons form185 <|
  all_cons form182 <|
  all_cons form122 <|
  all_cons form137 <|
  all_cons form123 <|
  all_cons form183 <|
  all_cons form120 <|
  all_cons form224 <|
  all_cons form227 <|
  all_cons form189 <|
  all_cons form187 <|
  all_cons form229 <|
  all_cons form190 <|
  all_cons form177 <|
  all_cons form191 <|
  all_cons form192 <|
  all_cons form125 <|
  all_cons form184 <|
  all_cons form121 <|
  all_cons form124 <|
  all_cons form50 <|
  all_cons form51 <|
  all_cons form110 <|
  all_cons form52 <|
  all_cons form13 <|
  all_cons form195 <|
  all_cons form235 <|
  all_cons form214 <|
  all_cons form215 <|
  all_cons form165 <|
  all_cons form196 <|
  all_cons form128 <|
  all_cons form58 <|
  all_cons form129 <|
  all_cons form59 <|
  all_cons form170 <|
  all_cons form130 <|
  all_cons form131 <|
  all_cons form60 <|
  all_cons form16 <|
  all_cons form239 <|
  all_cons form249 <|
  all_cons form246 <|
  all_cons form250 <|
  all_cons form247 <|
  all_cons form240 <|
  all_cons form241 <|
  all_cons form218 <|
  all_cons form219 <|
  all_cons form171 <|
  all_cons form97 <|
  all_cons form139 <|
  all_cons form199 <|
  all_cons form134 <|
  all_cons form140 <|
  all_cons form66 <|
  all_cons form236 <|
  all_cons form238 <|
  all_cons form244 <|
  all_cons form198 <|
  all_cons form248 <|
  all_cons form245 <|
  all_cons form237 <|
  all_cons form216 <|
  all_cons form166 <|
  all_cons form167 <|
  all_cons form136 <|
  all_cons form64 <|
  all_cons form201 <|
  all_cons form202 <|
  all_cons form133 <|
  all_cons form217 <|
  all_cons form168 <|
  all_cons form93 <|
  all_cons form28 <|
  all_cons form86 <|
  all_cons form102 <|
  all_cons form114 <|
  all_cons form49 <|
  all_cons form11 <|
  all_cons form61 <|
  all_cons form132 <|
  all_cons form62 <|
  all_cons form135 <|
  all_cons form63 <|
  all_cons form17 <|
  all_cons form169 <|
  all_cons form94 <|
  all_cons form95 <|
  all_cons form96 <|
  all_cons form29 <|
  all_cons form175 <|
  all_cons form103 <|
  all_cons form104 <|
  all_cons form33 <|
  all_cons form111 <|
  all_cons form39 <|
  all_cons form116 <|
  all_cons form43 <|
  all_cons form10 <| all_nil
theorem add64_at : ∃ fn, Go.Proofs.Tryz.prog.funcs[197]? = some fn ∧ fn.body = none ∧ fn.name ≠ "runtime.NumGoroutine" ∧ Extern.findNext fn = none ∧ Extern.find fn = some add64Entry := ⟨_, rfl, rfl, by decide, by rfl, by rfl⟩
theorem sub64_at : ∃ fn, Go.Proofs.Tryz.prog.funcs[231]? = some fn ∧ fn.body = none ∧ fn.name ≠ "runtime.NumGoroutine" ∧ Extern.findNext fn = none ∧ Extern.find fn = some sub64Entry := ⟨_, rfl, rfl, by decide, by rfl, by rfl⟩
theorem mixed : Go.Proofs.Tryz.prog.follows .mixedOrders = true := by kernel_rfl
theorem env_ok : EnvOK Go.Proofs.Tryz.prog globs env where
  fs := forms_fs forms
  sm := by
    intro f args r h
    simp only [env] at h
    split at h
    · rename_i hf
      have hf : f = 197 := by simpa using hf
      subst hf
      obtain ⟨fn, h1, h2, h3, h4, h5⟩ := add64_at
      exact add64_ok h1 h2 h3 h4 h5 h
    · split at h
      · rename_i hf
        have hf : f = 231 := by simpa using hf
        subst hf
        obtain ⟨fn, h1, h2, h3, h4, h5⟩ := sub64_at
        exact sub64_ok h1 h2 h3 h4 h5 h
      · cases h
end Go.AM
