/- strings.Split, strconv.Atoi, strconv.Itoa over this program: the shelf's contracts, laid in plain words by the kit's lay-plain.mjs at this seat's dump; the package-level variables that they read. -/
import Derived.Shelf.Strings.SplitShaped
import Derived.Shelf.Strconv.AtoiAll
import Derived.Shelf.Strconv.Itoa3
import Derived.Sort.Grow
import Derived.Test.YtehhgpnaemffnaaDoorBlk
import Derived.Test.YtehhgpnaemffnaaDoorOpen
import Derived.Test.YtehhgpnaemffnaaDoorWords22
namespace Go.Proofs.YtehhgpnaemffnaaDoor
open Go.Shelf
def splitL_ren : Go.Shelf.Ren := ⟨fun | 146 => 10 | 221 => 18 | 268 => 27 | 138 => 28 | 143 => 29 | 195 => 34 | 197 => 35 | 218 => 36 | 219 => 37 | 260 => 41 | 217 => 42 | 225 => 43 | 224 => 44 | 267 => 45 | 266 => 52 | 314 => 53 | n => n, fun | 9 => 9 | 31 => 37 | 3 => 3 | 4 => 4 | 0 => 0 | 105 => 65 | 21 => 21 | 5 => 5 | 46 => 69 | 119 => 78 | 139 => 81 | 138 => 80 | 146 => 83 | 51 => 82 | n => n, fun | 1 => 0 | 3 => 1 | 4 => 2 | n => n⟩
theorem splitL : Go.Proofs.LaysM.n146 Tryd.prog splitL_ren := {
  mixed := by kernel_rfl
  f138 := Tryd.func28.trans (congrArg some (by kernel_rfl))
  f143 := Tryd.func29.trans (congrArg some (by kernel_rfl))
  f146 := Tryd.func10.trans (congrArg some (by kernel_rfl))
  f195 := Tryd.func34.trans (congrArg some (by kernel_rfl))
  f197 := Tryd.func35.trans (congrArg some (by kernel_rfl))
  f217 := Tryd.func42.trans (congrArg some (by kernel_rfl))
  f218 := Tryd.func36.trans (congrArg some (by kernel_rfl))
  f219 := Tryd.func37.trans (congrArg some (by kernel_rfl))
  f221 := Tryd.func18.trans (congrArg some (by kernel_rfl))
  f224 := Tryd.func44.trans (congrArg some (by kernel_rfl))
  f225 := Tryd.func43.trans (congrArg some (by kernel_rfl))
  f260 := Tryd.func41.trans (congrArg some (by kernel_rfl))
  f266 := Tryd.func52.trans (congrArg some (by kernel_rfl))
  f267 := Tryd.func45.trans (congrArg some (by kernel_rfl))
  f268 := Tryd.func27.trans (congrArg some (by kernel_rfl))
  f314 := Tryd.func53.trans (congrArg some (by kernel_rfl))
  t0 := Tryd.underlying0
  a0 := Tryd.isAgg0
  z0 := Tryd.sizeOf0
  v0 := Tryd.zeroValue0
  t3 := Tryd.underlying3
  a3 := Tryd.isAgg3
  z3 := Tryd.sizeOf3
  v3 := Tryd.zeroValue3
  t4 := Tryd.underlying4
  a4 := Tryd.isAgg4
  z4 := Tryd.sizeOf4
  v4 := Tryd.zeroValue4
  t5 := Tryd.underlying5
  a5 := Tryd.isAgg5
  z5 := Tryd.sizeOf5
  v5 := Tryd.zeroValue5
  t9 := Tryd.underlying9
  a9 := Tryd.isAgg9
  z9 := Tryd.sizeOf9
  v9 := Tryd.zeroValue9
  t21 := Tryd.underlying21
  a21 := Tryd.isAgg21
  z21 := Tryd.sizeOf21
  v21 := Tryd.zeroValue21
  t31 := Tryd.underlying37
  a31 := Tryd.isAgg37
  z31 := Tryd.sizeOf37
  v31 := Tryd.zeroValue37
  t46 := Tryd.underlying69
  a46 := Tryd.isAgg69
  z46 := Tryd.sizeOf69
  v46 := Tryd.zeroValue69
  t51 := Tryd.underlying82
  a51 := Tryd.isAgg82
  z51 := Tryd.sizeOf82
  v51 := Tryd.zeroValue82
  t105 := Tryd.underlying65
  a105 := Tryd.isAgg65
  z105 := Tryd.sizeOf65
  v105 := Tryd.zeroValue65
  t119 := Tryd.underlying78
  a119 := Tryd.isAgg78
  z119 := Tryd.sizeOf78
  t138 := Tryd.underlying80
  a138 := Tryd.isAgg80
  z138 := Tryd.sizeOf80
  v138 := Tryd.zeroValue80
  t139 := Tryd.underlying81
  a139 := Tryd.isAgg81
  z139 := Tryd.sizeOf81
  v139 := Tryd.zeroValue81
  t146 := Tryd.underlying83
  a146 := Tryd.isAgg83
  z146 := Tryd.sizeOf83
  v146 := Tryd.zeroValue83
  g1 := by kernel_rfl
  g3 := by kernel_rfl
  g4 := by kernel_rfl
  i0 := by kernel_rfl
  i3 := by kernel_rfl
  i4 := by kernel_rfl
  i5 := by kernel_rfl
  i9 := by kernel_rfl
  i21 := by kernel_rfl
  i31 := by kernel_rfl
  i46 := by kernel_rfl
  i51 := by kernel_rfl
  i105 := by kernel_rfl
  i138 := by kernel_rfl
  i139 := by kernel_rfl
  i146 := by kernel_rfl
  m1 := by kernel_rfl
  s1_3 := fun w h => Go.Proofs.cell_of_shapedOpen_int (zero := #[.int .i64 0]) (t := 3) h (of_decide_eq_true (by kernel_rfl)) (by kernel_rfl) rfl (by kernel_rfl) (by kernel_rfl) Tryd.underlying3
  m3 := by kernel_rfl
  m4 := by kernel_rfl }
def atoiL_ren : Go.Shelf.Ren := ⟨fun | 172 => 30 | 244 => 38 | 245 => 39 | 247 => 46 | 279 => 47 | 280 => 48 | 281 => 49 | 282 => 50 | 287 => 54 | 316 => 55 | 171 => 31 | 205 => 56 | 321 => 61 | 322 => 62 | 243 => 40 | 246 => 51 | 283 => 57 | 284 => 58 | 285 => 59 | 286 => 60 | 129 => 64 | 317 => 63 | 318 => 65 | 319 => 66 | 320 => 67 | 337 => 68 | 338 => 69 | n => n, fun | 9 => 9 | 3 => 3 | 75 => 59 | 76 => 60 | 4 => 4 | 5 => 5 | 167 => 70 | 37 => 71 | 0 => 0 | 85 => 72 | 2 => 2 | 168 => 74 | 53 => 85 | 175 => 86 | 46 => 69 | 210 => 90 | 127 => 98 | 145 => 101 | 143 => 99 | 21 => 21 | 171 => 92 | 173 => 95 | 212 => 103 | 51 => 82 | 20 => 20 | 213 => 104 | 232 => 107 | 233 => 108 | 80 => 42 | n => n, fun | 15 => 3 | 16 => 4 | 17 => 5 | 18 => 6 | 19 => 7 | n => n⟩
theorem atoiL : Go.Proofs.LaysC.n172 Tryd.prog atoiL_ren := {
  mixed := by kernel_rfl
  f129 := Tryd.func64.trans (congrArg some (by kernel_rfl))
  f171 := Tryd.func31.trans (congrArg some (by kernel_rfl))
  f172 := Tryd.func30.trans (congrArg some (by kernel_rfl))
  f205 := Tryd.func56.trans (congrArg some (by kernel_rfl))
  f243 := Tryd.func40.trans (congrArg some (by kernel_rfl))
  f244 := Tryd.func38.trans (congrArg some (by kernel_rfl))
  f245 := Tryd.func39.trans (congrArg some (by kernel_rfl))
  f246 := Tryd.func51.trans (congrArg some (by kernel_rfl))
  f247 := Tryd.func46.trans (congrArg some (by kernel_rfl))
  f279 := Tryd.func47.trans (congrArg some (by kernel_rfl))
  f280 := Tryd.func48.trans (congrArg some (by kernel_rfl))
  f281 := Tryd.func49.trans (congrArg some (by kernel_rfl))
  f282 := Tryd.func50.trans (congrArg some (by kernel_rfl))
  f283 := Tryd.func57.trans (congrArg some (by kernel_rfl))
  f284 := Tryd.func58.trans (congrArg some (by kernel_rfl))
  f285 := Tryd.func59.trans (congrArg some (by kernel_rfl))
  f286 := Tryd.func60.trans (congrArg some (by kernel_rfl))
  f287 := Tryd.func54.trans (congrArg some (by kernel_rfl))
  f316 := Tryd.func55.trans (congrArg some (by kernel_rfl))
  f317 := Tryd.func63.trans (congrArg some (by kernel_rfl))
  f318 := Tryd.func65.trans (congrArg some (by kernel_rfl))
  f319 := Tryd.func66.trans (congrArg some (by kernel_rfl))
  f320 := Tryd.func67.trans (congrArg some (by kernel_rfl))
  f321 := Tryd.func61.trans (congrArg some (by kernel_rfl))
  f322 := Tryd.func62.trans (congrArg some (by kernel_rfl))
  f337 := Tryd.func68.trans (congrArg some (by kernel_rfl))
  f338 := Tryd.func69.trans (congrArg some (by kernel_rfl))
  t0 := Tryd.underlying0
  a0 := Tryd.isAgg0
  z0 := Tryd.sizeOf0
  v0 := Tryd.zeroValue0
  t2 := Tryd.underlying2
  a2 := Tryd.isAgg2
  z2 := Tryd.sizeOf2
  v2 := Tryd.zeroValue2
  t3 := Tryd.underlying3
  a3 := Tryd.isAgg3
  z3 := Tryd.sizeOf3
  v3 := Tryd.zeroValue3
  t4 := Tryd.underlying4
  a4 := Tryd.isAgg4
  z4 := Tryd.sizeOf4
  v4 := Tryd.zeroValue4
  t5 := Tryd.underlying5
  a5 := Tryd.isAgg5
  z5 := Tryd.sizeOf5
  v5 := Tryd.zeroValue5
  t9 := Tryd.underlying9
  a9 := Tryd.isAgg9
  z9 := Tryd.sizeOf9
  v9 := Tryd.zeroValue9
  t20 := Tryd.underlying20
  a20 := Tryd.isAgg20
  z20 := Tryd.sizeOf20
  v20 := Tryd.zeroValue20
  t21 := Tryd.underlying21
  a21 := Tryd.isAgg21
  z21 := Tryd.sizeOf21
  v21 := Tryd.zeroValue21
  t37 := Tryd.underlying71
  a37 := Tryd.isAgg71
  z37 := Tryd.sizeOf71
  v37 := Tryd.zeroValue71
  t46 := Tryd.underlying69
  a46 := Tryd.isAgg69
  z46 := Tryd.sizeOf69
  v46 := Tryd.zeroValue69
  t51 := Tryd.underlying82
  a51 := Tryd.isAgg82
  z51 := Tryd.sizeOf82
  v51 := Tryd.zeroValue82
  t53 := Tryd.underlying85
  a53 := Tryd.isAgg85
  z53 := Tryd.sizeOf85
  v53 := Tryd.zeroValue85
  t75 := Tryd.underlying59
  a75 := Tryd.isAgg59
  z75 := Tryd.sizeOf59
  v75 := Tryd.zeroValue59
  t76 := Tryd.underlying60
  a76 := Tryd.isAgg60
  z76 := Tryd.sizeOf60
  v76 := Tryd.zeroValue60
  t85 := Tryd.underlying72
  a85 := Tryd.isAgg72
  z85 := Tryd.sizeOf72
  v85 := Tryd.zeroValue72
  t127 := Tryd.underlying98
  a127 := Tryd.isAgg98
  z127 := Tryd.sizeOf98
  v127 := Tryd.zeroValue98
  t143 := Tryd.underlying99
  a143 := Tryd.isAgg99
  z143 := Tryd.sizeOf99
  v143 := Tryd.zeroValue99
  t145 := Tryd.underlying101
  a145 := Tryd.isAgg101
  z145 := Tryd.sizeOf101
  v145 := Tryd.zeroValue101
  t167 := Tryd.underlying70
  a167 := Tryd.isAgg70
  z167 := Tryd.sizeOf70
  v167 := Tryd.zeroValue70
  t168 := Tryd.underlying74
  a168 := Tryd.isAgg74
  z168 := Tryd.sizeOf74
  v168 := Tryd.zeroValue74
  t171 := Tryd.underlying92
  a171 := Tryd.isAgg92
  z171 := Tryd.sizeOf92
  v171 := Tryd.zeroValue92
  t173 := Tryd.underlying95
  a173 := Tryd.isAgg95
  z173 := Tryd.sizeOf95
  v173 := Tryd.zeroValue95
  t175 := Tryd.underlying86
  a175 := Tryd.isAgg86
  z175 := Tryd.sizeOf86
  v175 := Tryd.zeroValue86
  t210 := Tryd.underlying90
  a210 := Tryd.isAgg90
  z210 := Tryd.sizeOf90
  v210 := Tryd.zeroValue90
  t212 := Tryd.underlying103
  a212 := Tryd.isAgg103
  z212 := Tryd.sizeOf103
  v212 := Tryd.zeroValue103
  t213 := Tryd.underlying104
  a213 := Tryd.isAgg104
  z213 := Tryd.sizeOf104
  t232 := Tryd.underlying107
  a232 := Tryd.isAgg107
  z232 := Tryd.sizeOf107
  v232 := Tryd.zeroValue107
  t233 := Tryd.underlying108
  a233 := Tryd.isAgg108
  z233 := Tryd.sizeOf108
  v233 := Tryd.zeroValue108
  g15 := by kernel_rfl
  g16 := by kernel_rfl
  g17 := by kernel_rfl
  g18 := by kernel_rfl
  g19 := by kernel_rfl
  t80 := Tryd.underlying42
  a80 := Tryd.isAgg42
  z80 := Tryd.sizeOf42
  v80 := Tryd.zeroValue42
  i0 := by kernel_rfl
  i2 := by kernel_rfl
  i3 := by kernel_rfl
  i4 := by kernel_rfl
  i5 := by kernel_rfl
  i9 := by kernel_rfl
  i20 := by kernel_rfl
  i21 := by kernel_rfl
  i37 := by kernel_rfl
  i46 := by kernel_rfl
  i51 := by kernel_rfl
  i53 := by kernel_rfl
  i75 := by kernel_rfl
  i76 := by kernel_rfl
  i80 := by kernel_rfl
  i85 := by kernel_rfl
  i127 := by kernel_rfl
  i143 := by kernel_rfl
  i145 := by kernel_rfl
  i167 := by kernel_rfl
  i168 := by kernel_rfl
  i171 := by kernel_rfl
  i173 := by kernel_rfl
  i175 := by kernel_rfl
  i210 := by kernel_rfl
  i212 := by kernel_rfl
  i232 := by kernel_rfl
  i233 := by kernel_rfl
  m15 := by kernel_rfl
  m16 := by kernel_rfl
  m17 := by kernel_rfl
  m18 := by kernel_rfl
  m19 := by kernel_rfl
  c0 := by kernel_rfl
  c2 := by kernel_rfl
  c3 := by kernel_rfl
  c4 := by kernel_rfl
  c5 := by kernel_rfl
  c9 := by kernel_rfl
  c20 := by kernel_rfl
  c21 := by kernel_rfl
  c37 := by kernel_rfl
  c46 := by kernel_rfl
  c51 := by kernel_rfl
  c53 := by kernel_rfl
  c75 := by kernel_rfl
  c76 := by kernel_rfl
  c80 := by kernel_rfl
  c85 := by kernel_rfl
  c127 := by kernel_rfl
  c143 := by kernel_rfl
  c145 := by kernel_rfl
  c167 := by kernel_rfl
  c168 := by kernel_rfl
  c171 := by kernel_rfl
  c173 := by kernel_rfl
  c175 := by kernel_rfl
  c210 := by kernel_rfl
  c212 := by kernel_rfl
  c213 := by kernel_rfl
  c232 := by kernel_rfl
  c233 := by kernel_rfl }
def itoaL_ren : Go.Shelf.Ren := ⟨fun | 171 => 31 | 243 => 40 | 246 => 51 | 283 => 57 | 284 => 58 | 285 => 59 | 286 => 60 | 129 => 64 | 317 => 63 | 318 => 65 | 319 => 66 | 320 => 67 | 337 => 68 | 338 => 69 | n => n, fun | 3 => 3 | 9 => 9 | 2 => 2 | 4 => 4 | 171 => 92 | 0 => 0 | 53 => 85 | 37 => 71 | 5 => 5 | 173 => 95 | 212 => 103 | 51 => 82 | 20 => 20 | 213 => 104 | 46 => 69 | 232 => 107 | 233 => 108 | n => n, fun | 17 => 5 | 18 => 6 | 19 => 7 | n => n⟩
theorem itoaL : Go.Proofs.LaysM.n171 Tryd.prog itoaL_ren := {
  mixed := by kernel_rfl
  f129 := Tryd.func64.trans (congrArg some (by kernel_rfl))
  f171 := Tryd.func31.trans (congrArg some (by kernel_rfl))
  f243 := Tryd.func40.trans (congrArg some (by kernel_rfl))
  f246 := Tryd.func51.trans (congrArg some (by kernel_rfl))
  f283 := Tryd.func57.trans (congrArg some (by kernel_rfl))
  f284 := Tryd.func58.trans (congrArg some (by kernel_rfl))
  f285 := Tryd.func59.trans (congrArg some (by kernel_rfl))
  f286 := Tryd.func60.trans (congrArg some (by kernel_rfl))
  f317 := Tryd.func63.trans (congrArg some (by kernel_rfl))
  f318 := Tryd.func65.trans (congrArg some (by kernel_rfl))
  f319 := Tryd.func66.trans (congrArg some (by kernel_rfl))
  f320 := Tryd.func67.trans (congrArg some (by kernel_rfl))
  f337 := Tryd.func68.trans (congrArg some (by kernel_rfl))
  f338 := Tryd.func69.trans (congrArg some (by kernel_rfl))
  t0 := Tryd.underlying0
  a0 := Tryd.isAgg0
  z0 := Tryd.sizeOf0
  v0 := Tryd.zeroValue0
  t2 := Tryd.underlying2
  a2 := Tryd.isAgg2
  z2 := Tryd.sizeOf2
  v2 := Tryd.zeroValue2
  t3 := Tryd.underlying3
  a3 := Tryd.isAgg3
  z3 := Tryd.sizeOf3
  v3 := Tryd.zeroValue3
  t4 := Tryd.underlying4
  a4 := Tryd.isAgg4
  z4 := Tryd.sizeOf4
  v4 := Tryd.zeroValue4
  t5 := Tryd.underlying5
  a5 := Tryd.isAgg5
  z5 := Tryd.sizeOf5
  v5 := Tryd.zeroValue5
  t9 := Tryd.underlying9
  a9 := Tryd.isAgg9
  z9 := Tryd.sizeOf9
  v9 := Tryd.zeroValue9
  t20 := Tryd.underlying20
  a20 := Tryd.isAgg20
  z20 := Tryd.sizeOf20
  v20 := Tryd.zeroValue20
  t37 := Tryd.underlying71
  a37 := Tryd.isAgg71
  z37 := Tryd.sizeOf71
  v37 := Tryd.zeroValue71
  t46 := Tryd.underlying69
  a46 := Tryd.isAgg69
  z46 := Tryd.sizeOf69
  v46 := Tryd.zeroValue69
  t51 := Tryd.underlying82
  a51 := Tryd.isAgg82
  z51 := Tryd.sizeOf82
  v51 := Tryd.zeroValue82
  t53 := Tryd.underlying85
  a53 := Tryd.isAgg85
  z53 := Tryd.sizeOf85
  v53 := Tryd.zeroValue85
  t171 := Tryd.underlying92
  a171 := Tryd.isAgg92
  z171 := Tryd.sizeOf92
  v171 := Tryd.zeroValue92
  t173 := Tryd.underlying95
  a173 := Tryd.isAgg95
  z173 := Tryd.sizeOf95
  v173 := Tryd.zeroValue95
  t212 := Tryd.underlying103
  a212 := Tryd.isAgg103
  z212 := Tryd.sizeOf103
  v212 := Tryd.zeroValue103
  t213 := Tryd.underlying104
  a213 := Tryd.isAgg104
  z213 := Tryd.sizeOf104
  t232 := Tryd.underlying107
  a232 := Tryd.isAgg107
  z232 := Tryd.sizeOf107
  v232 := Tryd.zeroValue107
  t233 := Tryd.underlying108
  a233 := Tryd.isAgg108
  z233 := Tryd.sizeOf108
  v233 := Tryd.zeroValue108
  g17 := by kernel_rfl
  g18 := by kernel_rfl
  g19 := by kernel_rfl
  i0 := by kernel_rfl
  i2 := by kernel_rfl
  i3 := by kernel_rfl
  i4 := by kernel_rfl
  i5 := by kernel_rfl
  i9 := by kernel_rfl
  i20 := by kernel_rfl
  i37 := by kernel_rfl
  i46 := by kernel_rfl
  i51 := by kernel_rfl
  i53 := by kernel_rfl
  i171 := by kernel_rfl
  i173 := by kernel_rfl
  i212 := by kernel_rfl
  i232 := by kernel_rfl
  i233 := by kernel_rfl
  m17 := by kernel_rfl
  m18 := by kernel_rfl
  m19 := by kernel_rfl }
open Go.RowKit
/-- What a world owes the library's calls. -/
structure Env (w : World) : Prop where
  most : ∃ m, w.cell? ⟨0, 0, none⟩ = some (.int .i64 m)
  synt : ∃ tp p, w.cell? ⟨3, 0, none⟩ = some (.iface tp p)
  rang : ∃ tp p, w.cell? ⟨4, 0, none⟩ = some (.iface tp p)
  tab : Lib.TabIs Tryd.prog w "internal/strconv.uint64pow10" .u64 Lib.pow10Tab
  big : 8 ≤ w.heap.size
theorem gPow : Tryd.prog.globalNamed "internal/strconv.uint64pow10" = some 5 := by kernel_rfl
theorem Env.blocks {w w' : World} (h : Env w) (hb : ∀ k, k < 8 → w'.heap[k]? = w.heap[k]?) (hs : w.heap.size ≤ w'.heap.size) : Env w' := by
  have hc : ∀ k, k < 8 → w'.cell? ⟨k, 0, none⟩ = w.cell? ⟨k, 0, none⟩ := fun k hk => by simp only [World.cell?, hb k hk]
  refine ⟨?_, ?_, ?_, ?_, Nat.le_trans h.big hs⟩
  · rw [hc 0 (by omega)]; exact h.most
  · rw [hc 3 (by omega)]; exact h.synt
  · rw [hc 4 (by omega)]; exact h.rang
  · have := h.tab
    unfold Lib.TabIs World.var? at *
    rw [gPow] at *
    simp only [Option.bind_some] at *
    rw [hb 5 (by omega)]
    exact this
theorem Env.below {w w' : World} {B : Nat} (h : Env w) (hb : Below B w w') (hB : 8 ≤ B) : Env w' := h.blocks (fun k hk => hb.block k (by omega)) hb.size
theorem Env.chg {w w' : World} {S : Nat → Prop} (h : Env w) (hc : Chg S w w') (hS : ∀ i, S i → 8 ≤ i) : Env w' :=
  h.blocks (fun k hk => hc.block k (Nat.lt_of_lt_of_le hk h.big) fun hs => by have := hS k hs; omega) hc.size
section
variable {w : World}
theorem split_any (h : Env w) (s : ByteArray) (hs : s.size < 4294967281) :
    Calls Tryd.prog 10 #[.string s, .string blank] w fun e w' => ∃ ws : List ByteArray, e = .returned (.slice (some ⟨w.heap.size, 0, none⟩) ws.length ws.length) ∧ ws.map (·.data.toList) = wordsL s.data.toList ∧ Blk w' w.heap.size 9 (sv ws) ∧ Below w.heap.size w w' := by
  obtain ⟨m, hm⟩ := h.most
  refine (Any.strings_Split { splitL with } splitL.i9 s blank m w hs hm (by decide)).mono ?_
  rintro e w' ⟨rfl, rfl⟩
  refine ⟨Lib.splitB blank 0 (Lib.countB s blank) s, ?_, split_words s, Blk.new _ _ _, (Below.refl _ _).alloc (Nat.le_refl _) _⟩
  rw [split_len]
theorem itoa_any (h : Env w) (n : Int) (h0 : -9223372036854775808 ≤ n) (h1 : n ≤ 9223372036854775807) :
    Calls Tryd.prog 31 #[.int .i64 n] w fun e w' => e = .returned (.string ⟨(Lib.itoa n).toArray⟩) ∧ Below w.heap.size w w' := by
  refine (Any.strconv_Itoa itoaL n h0 h1 w h.tab).mono ?_
  rintro e w' ⟨rfl, k, os, rfl⟩
  refine ⟨rfl, rfl, rfl, rfl, ?_, fun j hj => ?_⟩
  · simp [Sort.grow, World.drewN]
  · simp only [Sort.grow, World.drewN]
    exact Array.getElem?_append_left hj
theorem atoi_ok (s : ByteArray) (hs : s.size ≤ 281474976710656) (v : Int) (h : Lib.atoiAll s.data.toList = .ok v) :
    Calls Tryd.prog 30 #[.string s] w fun e w' => e = .returned (.tuple #[.int .i64 v, .nilIface]) ∧ Below w.heap.size w w' := by
  refine (Any.strconv_Atoi_ok atoiL s (by omega) v h w).mono ?_
  rintro e w' ⟨rfl, rfl | ⟨t, rfl⟩⟩
  · exact ⟨rfl, Below.refl _ _⟩
  · exact ⟨rfl, Lib.bytesWorld_below _ _ _⟩
theorem atoi_no (h : Env w) (s : ByteArray) (hs : s.size ≤ 281474976710656) (h : ∀ v, Lib.atoiAll s.data.toList ≠ .ok v) :
    Calls Tryd.prog 30 #[.string s] w fun e w' => ∃ n N : Int, e = .returned (.tuple #[.int .i64 n, .iface 74 (.pointer (some ⟨N.toNat, 0, none⟩))]) ∧ Below w.heap.size w w' := by
  rename_i henv
  rcases hr : Lib.atoiAll s.data.toList with v | _ | _
  · exact absurd hr (h v)
  · obtain ⟨tp, p, hv⟩ := henv.synt
    refine (Any.strconv_Atoi_syntax atoiL s hs hr _ w hv (.inr ⟨_, _, rfl⟩)).mono ?_
    rintro e w' ⟨N, rfl, _, _, hb⟩
    exact ⟨0, (N : Int), rfl, hb⟩
  · obtain ⟨tp, p, hv⟩ := henv.rang
    refine (Any.strconv_Atoi_range atoiL s hs hr _ w hv (.inr ⟨_, _, rfl⟩)).mono ?_
    rintro e w' ⟨N, rfl, _, _, hb⟩
    exact ⟨_, (N : Int), rfl, hb⟩
end
end Go.Proofs.YtehhgpnaemffnaaDoor
