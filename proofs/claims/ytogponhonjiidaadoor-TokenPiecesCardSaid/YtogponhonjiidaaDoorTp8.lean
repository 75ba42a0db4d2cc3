/- A part of the proof: lemmas about the walk of the program and about plain integers and lists. No conditions beyond those that each lemma states. -/
import Derived.Shelf.Strings.Prefix
import Derived.Shelf.Strings.Cut
import Derived.Shelf.Strconv.ParseIntPublic10
import Derived.Shelf.Strconv.Itoa4
import Derived.Shelf.Small.Strs
import Derived.Test.YtogponhonjiidaaDoorProg
import Derived.Test.YtogponhonjiidaaDoorTp6
import Derived.Test.YtogponhonjiidaaDoorTp7
import Derived.Shelf.Vars
import Derived.Test.YtogponhonjiidaaDoorRows
import Derived.Shelf.Bytes.BufferK
import Derived.Shelf.Bytes.String
import Derived.Test.YtogponhonjiidaaDoorTp1
import Derived.Lib.BufferKept
import Derived.BigCall
import Derived.Deep.RegionWith
import Derived.Lib.BufferOld
set_option maxRecDepth 100000
namespace Go.Proofs
open Go.Shelf
def Tryd.hasPrefixL_ren : Go.Shelf.Ren := ⟨fun | 99 => 86 | 206 => 102 | n => n, fun | 9 => 9 | 4 => 4 | 3 => 3 | n => n, fun | n => n⟩
theorem Tryd.hasPrefixL : Go.Proofs.Lays.n99 Tryd.prog Tryd.hasPrefixL_ren := {
  mixed := by kernel_rfl,
  f99 := Tryd.func86.trans (congrArg some (by kernel_rfl)),
  f206 := Tryd.func102.trans (congrArg some (by kernel_rfl)),
  t3 := Tryd.underlying3,
  a3 := Tryd.isAgg3,
  z3 := Tryd.sizeOf3,
  v3 := Tryd.zeroValue3,
  t4 := Tryd.underlying4,
  a4 := Tryd.isAgg4,
  z4 := Tryd.sizeOf4,
  v4 := Tryd.zeroValue4,
  t9 := Tryd.underlying9,
  a9 := Tryd.isAgg9,
  z9 := Tryd.sizeOf9,
  v9 := Tryd.zeroValue9 }
def Tryd.trimPrefixL_ren : Go.Shelf.Ren := ⟨fun | 101 => 82 | 208 => 97 | 206 => 102 | n => n, fun | 9 => 9 | 4 => 4 | 3 => 3 | n => n, fun | n => n⟩
theorem Tryd.trimPrefixL : Go.Proofs.Lays.n101 Tryd.prog Tryd.trimPrefixL_ren := {
  mixed := by kernel_rfl,
  f101 := Tryd.func82.trans (congrArg some (by kernel_rfl)),
  f206 := Tryd.func102.trans (congrArg some (by kernel_rfl)),
  f208 := Tryd.func97.trans (congrArg some (by kernel_rfl)),
  t3 := Tryd.underlying3,
  a3 := Tryd.isAgg3,
  z3 := Tryd.sizeOf3,
  v3 := Tryd.zeroValue3,
  t4 := Tryd.underlying4,
  a4 := Tryd.isAgg4,
  z4 := Tryd.sizeOf4,
  v4 := Tryd.zeroValue4,
  t9 := Tryd.underlying9,
  a9 := Tryd.isAgg9,
  z9 := Tryd.sizeOf9,
  v9 := Tryd.zeroValue9 }
def Tryd.parseIntL_ren : Go.Shelf.Ren := ⟨fun | 174 => 83 | 247 => 98 | 245 => 99 | 287 => 111 | 279 => 112 | 280 => 113 | 281 => 114 | 282 => 115 | 321 => 121 | 322 => 122 | 316 => 123 | 171 => 125 | 205 => 124 | 243 => 130 | 246 => 68 | 283 => 87 | 284 => 88 | 285 => 89 | 286 => 90 | 129 => 104 | 317 => 103 | 318 => 105 | 319 => 106 | 320 => 107 | 337 => 118 | 338 => 119 | n => n, fun | 9 => 9 | 3 => 3 | 2 => 2 | 75 => 82 | 85 => 112 | 4 => 4 | 167 => 141 | 5 => 5 | 53 => 107 | 175 => 142 | 46 => 36 | 168 => 144 | 37 => 40 | 0 => 0 | 210 => 151 | 21 => 21 | 127 => 106 | 145 => 157 | 143 => 155 | 171 => 119 | 173 => 122 | 212 => 134 | 51 => 135 | 20 => 20 | 213 => 136 | 232 => 153 | 233 => 154 | 80 => 85 | n => n, fun | 15 => 4 | 16 => 5 | 17 => 1 | 18 => 6 | 19 => 7 | n => n⟩
theorem Tryd.parseIntL : Go.Proofs.LaysC.n174 Tryd.prog Tryd.parseIntL_ren := {
  mixed := by kernel_rfl,
  f129 := Tryd.func104.trans (congrArg some (by kernel_rfl)),
  f171 := Tryd.func125.trans (congrArg some (by kernel_rfl)),
  f174 := Tryd.func83.trans (congrArg some (by kernel_rfl)),
  f205 := Tryd.func124.trans (congrArg some (by kernel_rfl)),
  f243 := Tryd.func130.trans (congrArg some (by kernel_rfl)),
  f245 := Tryd.func99.trans (congrArg some (by kernel_rfl)),
  f246 := Tryd.func68.trans (congrArg some (by kernel_rfl)),
  f247 := Tryd.func98.trans (congrArg some (by kernel_rfl)),
  f279 := Tryd.func112.trans (congrArg some (by kernel_rfl)),
  f280 := Tryd.func113.trans (congrArg some (by kernel_rfl)),
  f281 := Tryd.func114.trans (congrArg some (by kernel_rfl)),
  f282 := Tryd.func115.trans (congrArg some (by kernel_rfl)),
  f283 := Tryd.func87.trans (congrArg some (by kernel_rfl)),
  f284 := Tryd.func88.trans (congrArg some (by kernel_rfl)),
  f285 := Tryd.func89.trans (congrArg some (by kernel_rfl)),
  f286 := Tryd.func90.trans (congrArg some (by kernel_rfl)),
  f287 := Tryd.func111.trans (congrArg some (by kernel_rfl)),
  f316 := Tryd.func123.trans (congrArg some (by kernel_rfl)),
  f317 := Tryd.func103.trans (congrArg some (by kernel_rfl)),
  f318 := Tryd.func105.trans (congrArg some (by kernel_rfl)),
  f319 := Tryd.func106.trans (congrArg some (by kernel_rfl)),
  f320 := Tryd.func107.trans (congrArg some (by kernel_rfl)),
  f321 := Tryd.func121.trans (congrArg some (by kernel_rfl)),
  f322 := Tryd.func122.trans (congrArg some (by kernel_rfl)),
  f337 := Tryd.func118.trans (congrArg some (by kernel_rfl)),
  f338 := Tryd.func119.trans (congrArg some (by kernel_rfl)),
  t0 := Tryd.underlying0,
  a0 := Tryd.isAgg0,
  z0 := Tryd.sizeOf0,
  v0 := Tryd.zeroValue0,
  t2 := Tryd.underlying2,
  a2 := Tryd.isAgg2,
  z2 := Tryd.sizeOf2,
  v2 := Tryd.zeroValue2,
  t3 := Tryd.underlying3,
  a3 := Tryd.isAgg3,
  z3 := Tryd.sizeOf3,
  v3 := Tryd.zeroValue3,
  t4 := Tryd.underlying4,
  a4 := Tryd.isAgg4,
  z4 := Tryd.sizeOf4,
  v4 := Tryd.zeroValue4,
  t5 := Tryd.underlying5,
  a5 := Tryd.isAgg5,
  z5 := Tryd.sizeOf5,
  v5 := Tryd.zeroValue5,
  t9 := Tryd.underlying9,
  a9 := Tryd.isAgg9,
  z9 := Tryd.sizeOf9,
  v9 := Tryd.zeroValue9,
  t20 := Tryd.underlying20,
  a20 := Tryd.isAgg20,
  z20 := Tryd.sizeOf20,
  v20 := Tryd.zeroValue20,
  t21 := Tryd.underlying21,
  a21 := Tryd.isAgg21,
  z21 := Tryd.sizeOf21,
  v21 := Tryd.zeroValue21,
  t37 := Tryd.underlying40,
  a37 := Tryd.isAgg40,
  z37 := Tryd.sizeOf40,
  v37 := Tryd.zeroValue40,
  t46 := Tryd.underlying36,
  a46 := Tryd.isAgg36,
  z46 := Tryd.sizeOf36,
  v46 := Tryd.zeroValue36,
  t51 := Tryd.underlying135,
  a51 := Tryd.isAgg135,
  z51 := Tryd.sizeOf135,
  v51 := Tryd.zeroValue135,
  t53 := Tryd.underlying107,
  a53 := Tryd.isAgg107,
  z53 := Tryd.sizeOf107,
  v53 := Tryd.zeroValue107,
  t75 := Tryd.underlying82,
  a75 := Tryd.isAgg82,
  z75 := Tryd.sizeOf82,
  v75 := Tryd.zeroValue82,
  t85 := Tryd.underlying112,
  a85 := Tryd.isAgg112,
  z85 := Tryd.sizeOf112,
  v85 := Tryd.zeroValue112,
  t127 := Tryd.underlying106,
  a127 := Tryd.isAgg106,
  z127 := Tryd.sizeOf106,
  v127 := Tryd.zeroValue106,
  t143 := Tryd.underlying155,
  a143 := Tryd.isAgg155,
  z143 := Tryd.sizeOf155,
  v143 := Tryd.zeroValue155,
  t145 := Tryd.underlying157,
  a145 := Tryd.isAgg157,
  z145 := Tryd.sizeOf157,
  v145 := Tryd.zeroValue157,
  t167 := Tryd.underlying141,
  a167 := Tryd.isAgg141,
  z167 := Tryd.sizeOf141,
  v167 := Tryd.zeroValue141,
  t168 := Tryd.underlying144,
  a168 := Tryd.isAgg144,
  z168 := Tryd.sizeOf144,
  v168 := Tryd.zeroValue144,
  t171 := Tryd.underlying119,
  a171 := Tryd.isAgg119,
  z171 := Tryd.sizeOf119,
  v171 := Tryd.zeroValue119,
  t173 := Tryd.underlying122,
  a173 := Tryd.isAgg122,
  z173 := Tryd.sizeOf122,
  v173 := Tryd.zeroValue122,
  t175 := Tryd.underlying142,
  a175 := Tryd.isAgg142,
  z175 := Tryd.sizeOf142,
  v175 := Tryd.zeroValue142,
  t210 := Tryd.underlying151,
  a210 := Tryd.isAgg151,
  z210 := Tryd.sizeOf151,
  v210 := Tryd.zeroValue151,
  t212 := Tryd.underlying134,
  a212 := Tryd.isAgg134,
  z212 := Tryd.sizeOf134,
  v212 := Tryd.zeroValue134,
  t213 := Tryd.underlying136,
  a213 := Tryd.isAgg136,
  z213 := Tryd.sizeOf136,
  t232 := Tryd.underlying153,
  a232 := Tryd.isAgg153,
  z232 := Tryd.sizeOf153,
  v232 := Tryd.zeroValue153,
  t233 := Tryd.underlying154,
  a233 := Tryd.isAgg154,
  z233 := Tryd.sizeOf154,
  v233 := Tryd.zeroValue154,
  g15 := by kernel_rfl,
  g16 := by kernel_rfl,
  g17 := by kernel_rfl,
  g18 := by kernel_rfl,
  g19 := by kernel_rfl,
  t80 := Tryd.underlying85,
  a80 := Tryd.isAgg85,
  z80 := Tryd.sizeOf85,
  v80 := Tryd.zeroValue85,
  i0 := by kernel_rfl,
  i2 := by kernel_rfl,
  i3 := by kernel_rfl,
  i4 := by kernel_rfl,
  i5 := by kernel_rfl,
  i9 := by kernel_rfl,
  i20 := by kernel_rfl,
  i21 := by kernel_rfl,
  i37 := by kernel_rfl,
  i46 := by kernel_rfl,
  i51 := by kernel_rfl,
  i53 := by kernel_rfl,
  i75 := by kernel_rfl,
  i80 := by kernel_rfl,
  i85 := by kernel_rfl,
  i127 := by kernel_rfl,
  i143 := by kernel_rfl,
  i145 := by kernel_rfl,
  i167 := by kernel_rfl,
  i168 := by kernel_rfl,
  i171 := by kernel_rfl,
  i173 := by kernel_rfl,
  i175 := by kernel_rfl,
  i210 := by kernel_rfl,
  i212 := by kernel_rfl,
  i232 := by kernel_rfl,
  i233 := by kernel_rfl,
  m15 := by kernel_rfl,
  m16 := by kernel_rfl,
  m17 := by kernel_rfl,
  m18 := by kernel_rfl,
  m19 := by kernel_rfl,
  c0 := by kernel_rfl,
  c2 := by kernel_rfl,
  c3 := by kernel_rfl,
  c4 := by kernel_rfl,
  c5 := by kernel_rfl,
  c9 := by kernel_rfl,
  c20 := by kernel_rfl,
  c21 := by kernel_rfl,
  c37 := by kernel_rfl,
  c46 := by kernel_rfl,
  c51 := by kernel_rfl,
  c53 := by kernel_rfl,
  c75 := by kernel_rfl,
  c80 := by kernel_rfl,
  c85 := by kernel_rfl,
  c127 := by kernel_rfl,
  c143 := by kernel_rfl,
  c145 := by kernel_rfl,
  c167 := by kernel_rfl,
  c168 := by kernel_rfl,
  c171 := by kernel_rfl,
  c173 := by kernel_rfl,
  c175 := by kernel_rfl,
  c210 := by kernel_rfl,
  c212 := by kernel_rfl,
  c213 := by kernel_rfl,
  c232 := by kernel_rfl,
  c233 := by kernel_rfl }
def Tryd.cutL_ren : Go.Shelf.Ren := ⟨fun | 145 => 85 | 220 => 101 | 219 => 117 | 217 => 116 | 225 => 127 | 224 => 128 | 267 => 129 | 266 => 126 | 314 => 131 | n => n, fun | 9 => 9 | 4 => 4 | 59 => 116 | 3 => 3 | 5 => 5 | 46 => 36 | 146 => 158 | 51 => 135 | n => n, fun | 1 => 3 | n => n⟩
theorem Tryd.cutL : Go.Proofs.Lays.n145 Tryd.prog Tryd.cutL_ren := {
  mixed := by kernel_rfl,
  f145 := Tryd.func85.trans (congrArg some (by kernel_rfl)),
  f217 := Tryd.func116.trans (congrArg some (by kernel_rfl)),
  f219 := Tryd.func117.trans (congrArg some (by kernel_rfl)),
  f220 := Tryd.func101.trans (congrArg some (by kernel_rfl)),
  f224 := Tryd.func128.trans (congrArg some (by kernel_rfl)),
  f225 := Tryd.func127.trans (congrArg some (by kernel_rfl)),
  f266 := Tryd.func126.trans (congrArg some (by kernel_rfl)),
  f267 := Tryd.func129.trans (congrArg some (by kernel_rfl)),
  f314 := Tryd.func131.trans (congrArg some (by kernel_rfl)),
  t3 := Tryd.underlying3,
  a3 := Tryd.isAgg3,
  z3 := Tryd.sizeOf3,
  v3 := Tryd.zeroValue3,
  t4 := Tryd.underlying4,
  a4 := Tryd.isAgg4,
  z4 := Tryd.sizeOf4,
  v4 := Tryd.zeroValue4,
  t5 := Tryd.underlying5,
  a5 := Tryd.isAgg5,
  z5 := Tryd.sizeOf5,
  v5 := Tryd.zeroValue5,
  t9 := Tryd.underlying9,
  a9 := Tryd.isAgg9,
  z9 := Tryd.sizeOf9,
  v9 := Tryd.zeroValue9,
  t46 := Tryd.underlying36,
  a46 := Tryd.isAgg36,
  z46 := Tryd.sizeOf36,
  v46 := Tryd.zeroValue36,
  t51 := Tryd.underlying135,
  a51 := Tryd.isAgg135,
  z51 := Tryd.sizeOf135,
  v51 := Tryd.zeroValue135,
  t59 := Tryd.underlying116,
  a59 := Tryd.isAgg116,
  z59 := Tryd.sizeOf116,
  v59 := Tryd.zeroValue116,
  t146 := Tryd.underlying158,
  a146 := Tryd.isAgg158,
  z146 := Tryd.sizeOf158,
  v146 := Tryd.zeroValue158,
  g1 := by kernel_rfl }
def Tryd.indexByteL_ren : Go.Shelf.Ren := ⟨fun | 137 => 100 | 217 => 116 | 266 => 126 | n => n, fun | 9 => 9 | 5 => 5 | 3 => 3 | n => n, fun | n => n⟩
theorem Tryd.indexByteL : Go.Proofs.Lays.n137 Tryd.prog Tryd.indexByteL_ren := {
  mixed := by kernel_rfl,
  f137 := Tryd.func100.trans (congrArg some (by kernel_rfl)),
  f217 := Tryd.func116.trans (congrArg some (by kernel_rfl)),
  f266 := Tryd.func126.trans (congrArg some (by kernel_rfl)),
  t3 := Tryd.underlying3,
  a3 := Tryd.isAgg3,
  z3 := Tryd.sizeOf3,
  v3 := Tryd.zeroValue3,
  t5 := Tryd.underlying5,
  a5 := Tryd.isAgg5,
  z5 := Tryd.sizeOf5,
  v5 := Tryd.zeroValue5,
  t9 := Tryd.underlying9,
  a9 := Tryd.isAgg9,
  z9 := Tryd.sizeOf9,
  v9 := Tryd.zeroValue9 }
end Go.Proofs
set_option linter.unusedSimpArgs false
set_option linter.unusedVariables false
set_option maxRecDepth 20000
set_option maxHeartbeats 4000000
namespace Go.Proofs.YtogponhonjiidaaDoor
open Go Go.Sx Go.RowKit
abbrev Er (b : Bool) : T := .one (.dat (.err b))
theorem hasPrefix_c (s p : List UInt8) : PC Tryd.prog 86 [S s, S p] (Bo (Lib.hasPrefix s p)) := by
  refine PC.native ⟨_, Tryd.func86, by decide, rfl⟩ fun M ν w vs hf hv => ?_
  obtain ⟨x, y, rfl, h1, h2⟩ := reps2 hv
  rw [rep_S] at h1 h2
  subst h1 h2
  refine Calls.mono (Any.strings_HasPrefix Tryd.hasPrefixL ⟨s.toArray⟩ ⟨p.toArray⟩ w) ?_
  rintro e w' ⟨rfl, rfl⟩
  exact ⟨_, rfl, by simp only [T.rep, Cell.rep, C.rep], Below.refl _ _⟩
theorem trimPrefix_c (s p : List UInt8) : PC Tryd.prog 82 [S s, S p] (S (Lib.trimPrefix s p)) := by
  refine PC.native ⟨_, Tryd.func82, by decide, rfl⟩ fun M ν w vs hf hv => ?_
  obtain ⟨x, y, rfl, h1, h2⟩ := reps2 hv
  rw [rep_S] at h1 h2
  subst h1 h2
  refine Calls.mono (Any.strings_TrimPrefix Tryd.trimPrefixL ⟨s.toArray⟩ ⟨p.toArray⟩ w) ?_
  rintro e w' ⟨rfl, rfl⟩
  exact ⟨_, rfl, by simp only [T.rep, Cell.rep, C.rep], Below.refl _ _⟩
theorem cut_c (s p : List UInt8) (hs : s.length ≤ 1000000000) : PC Tryd.prog 85 [S s, S p] (.tup [S (Lib.cut s p).1, S (Lib.cut s p).2.1, Bo (Lib.cut s p).2.2]) := by
  refine PC.native ⟨_, Tryd.func85, by decide, rfl⟩ fun M ν w vs hf hv => ?_
  obtain ⟨x, y, rfl, h1, h2⟩ := reps2 hv
  rw [rep_S] at h1 h2
  subst h1 h2
  obtain ⟨m, hm⟩ := M.glo.2.1
  refine Calls.mono (Any.strings_Cut Tryd.cutL ⟨s.toArray⟩ ⟨p.toArray⟩ m w (by show s.toArray.size < _; simp; omega) (cell_of_At hf hm)) ?_
  rintro e w' ⟨rfl, n, rfl⟩
  refine ⟨_, rfl, ?_, ⟨rfl, rfl, rfl, Nat.le_refl _, fun _ _ => rfl⟩⟩
  simp only [T.rep, T.reps, Cell.rep, C.rep]
  exact ⟨_, rfl, _, _, rfl, rfl, _, _, rfl, rfl, _, _, rfl, rfl, rfl⟩
/-- what ParseInt gives -/
def piT (s : List UInt8) : T := match Lib.parseIntB 64 s with
  | .ok v => .tup [I .i64 v, Er false]
  | .range => .tup [I .i64 (Lib.intSat 64 s), Er true]
  | _ => .tup [I .i64 0, Er true]
theorem err_at {M : Mem} {w : World} (hf : ∀ b o, M b = some o → w.heap[b]? = some o) {g : Nat} (hg : gl.lookup g = some [.err true]) : ∃ te pe, w.cell? ⟨g, 0, none⟩ = some (.iface te pe) := by
  obtain ⟨vs, h1, h2⟩ := M.glo.1 g _ hg
  simp only [repRow, C.rep, cond_true] at h2
  obtain ⟨v, vs', rfl, ⟨te, pe, rfl⟩, rfl⟩ := h2
  exact ⟨te, pe, cell_of_At hf h1⟩
theorem parseInt_c (s : List UInt8) (hs : s.length ≤ 1000000000) : PC Tryd.prog 83 [S s, I .i64 10, I .i64 64] (piT s) := by
  refine PC.native ⟨_, Tryd.func83, by decide, rfl⟩ fun M ν w vs hf hv => ?_
  obtain ⟨x, y, z, rfl, h1, h2, h3⟩ := reps3 hv
  rw [rep_S] at h1
  simp only [T.rep, Cell.rep, C.rep] at h2 h3
  subst h1 h2 h3
  obtain ⟨t4, p4, e4⟩ := err_at (g := 4) hf rfl
  obtain ⟨t5, p5, e5⟩ := err_at (g := 5) hf rfl
  have hsz : ∀ n : Nat, 1000000000 ≤ n → (ByteArray.mk s.toArray).size ≤ n := fun n hn => by show s.toArray.size ≤ _; simp; omega
  unfold piT
  cases hp : Lib.parseIntB 64 s with
  | ok v =>
    refine Calls.mono (Any.strconv_ParseInt_10_at64_ok Tryd.parseIntL ⟨s.toArray⟩ (hsz _ (by decide)) v hp w) ?_
    rintro e w' ⟨rfl, hw⟩
    refine ⟨_, rfl, ?_, ?_⟩
    · simp only [T.rep, T.reps, Cell.rep, C.rep, cond_false]
      exact ⟨_, rfl, _, _, rfl, rfl, _, _, rfl, rfl, rfl⟩
    · rcases hw with rfl | ⟨t, rfl⟩
      · exact Below.refl _ _
      · exact Lib.bytesWorld_below _ _ _
  | range =>
    refine Calls.mono (Any.strconv_ParseInt_10_at64_range Tryd.parseIntL ⟨s.toArray⟩ (hsz _ (by decide)) hp _ w e5 (.inr ⟨_, _, rfl⟩)) ?_
    rintro e w' ⟨N, rfl, _, _, hb⟩
    refine ⟨_, rfl, ?_, hb⟩
    simp only [T.rep, T.reps, Cell.rep, C.rep, cond_true]
    exact ⟨_, rfl, _, _, rfl, rfl, _, _, rfl, ⟨_, _, rfl⟩, rfl⟩
  | _ =>
    refine Calls.mono (Any.strconv_ParseInt_10_at64_syntax Tryd.parseIntL ⟨s.toArray⟩ (hsz _ (by decide)) hp _ w e4 (.inr ⟨_, _, rfl⟩)) ?_
    rintro e w' ⟨N, rfl, _, _, hb⟩
    refine ⟨_, rfl, ?_, hb⟩
    simp only [T.rep, T.reps, Cell.rep, C.rep, cond_true]
    exact ⟨_, rfl, _, _, rfl, rfl, _, _, rfl, ⟨_, _, rfl⟩, rfl⟩
end Go.Proofs.YtogponhonjiidaaDoor
set_option linter.unusedSimpArgs false
set_option linter.unusedVariables false
set_option maxRecDepth 20000
set_option maxHeartbeats 16000000
namespace Go.Proofs.YtogponhonjiidaaDoor
open Go Go.Sx
open Nat renaming reduceBEq → zA, reduceBNe → zB, reduceAdd → zC, reduceSub → zD, reduceMul → zE, reduceLeDiff → zF, reduceLT → zG, reduceEqDiff → zH
open Int renaming reduceToNat → zI, reduceLE → zJ, reduceLT → zK, reduceEq → zL
open Bool renaming not_eq_true' → zM, not_eq_false' → zN
abbrev TkR (r : Tok × Int) : T := .tup [.st (encTok r.1), I .i64 r.2]
def wordV (kind : Int) (text : List UInt8) : Tok × Int := bif decide ((16 : Int) < (text.length : Int)) then (zeroTok, 2) else (⟨kind, text, 0, 0⟩, 0)
theorem word_c (kind : Int) (text : List UInt8) : PC Tryd.prog 58 [I .i64 kind, S text] (TkR (wordV kind text)) := by
  refine PCB.of_body Tryd.func58 rfl (by decide) Tryd.ntmps58 Tryd.results58 rfl rfl rfl ?_ rfl rfl
  cases h0 : decide ((16 : Int) < (text.length : Int))
  ·
    repeat' (first | (simp only [go_sem, zA, zB, zC, zD, zE, zF, zG, reduceCtorEq, zH, zI, zJ, zK, zL, h0]; all_goals fail_if_success guard_target =ₛ False) | (with_reducible first | ((first | refine seqVC_stepN rfl ?_ | refine AWP.seq ?_ | refine AWP.seqR (by kernel_rfl) ?_); intro K hK) | ((first | refine hK _ _ _ ?_ | refine hK _ _ ?_ | refine hK _ ?_); clear hK K) | refine seqVC_nil ?_ | refine AWP.block ?_ | (refine AWP.cond (by with_unfolding_all rfl) ?_ ?_ <;> intro h <;> (try simp only [zM, zN] at h) <;> try exact absurd h (by decide)) | refine AWP.skip ?_ | refine AWP.ret ?_ | refine AWP.exit ?_ | refine Or.inl ?_) | (clear hK K))
    all_goals (refine fin0 ?_; simp only [wordV, h0, cond_false]; rfl)
  ·
    repeat' (first | (simp only [go_sem, zA, zB, zC, zD, zE, zF, zG, reduceCtorEq, zH, zI, zJ, zK, zL, h0]; all_goals fail_if_success guard_target =ₛ False) | (with_reducible first | ((first | refine seqVC_stepN rfl ?_ | refine AWP.seq ?_ | refine AWP.seqR (by kernel_rfl) ?_); intro K hK) | ((first | refine hK _ _ _ ?_ | refine hK _ _ ?_ | refine hK _ ?_); clear hK K) | refine seqVC_nil ?_ | refine AWP.block ?_ | (refine AWP.cond (by with_unfolding_all rfl) ?_ ?_ <;> intro h <;> (try simp only [zM, zN] at h) <;> try exact absurd h (by decide)) | refine AWP.skip ?_ | refine AWP.ret ?_ | refine AWP.exit ?_ | refine Or.inl ?_) | (clear hK K))
    all_goals (refine fin0 ?_; simp only [wordV, h0, cond_true]; rfl)
theorem run_k (k : Nat) (F : FuncId) (p : Int → Bool) (hF : ∀ n : Int, PC Tryd.prog F [I .u8 n] (Bo (p n))) (s : List UInt8) (hs : s.length ≤ 1000000000000) (i : Nat) (hi : i < s.length) :
    PCBk Tryd.prog 59 [Scp k, .one (.dat (.fn F))] k (scB s i) (S ((s.take (toW p s (i + 1))).drop i)) (scB s (toW p s (i + 1))) := PCBk.mk k (run_c F p hF s hs i hi)
/-- what words.number gives at the text t -/
def numT (neg : Bool) (d : List UInt8) : Tok × Int := bif decide ((numM neg d).2 = 0) then (⟨3, [], (numM neg d).1, 0⟩, 0) else (zeroTok, (numM neg d).2)
theorem trim_minus (d : List UInt8) : Lib.trimPrefix (45 :: d) [45] = d := by simp [Lib.trimPrefix, Lib.hasPrefix]
theorem trim_digs {d : List UInt8} (hd : allDig d) (hne : d ≠ []) : Lib.trimPrefix d [45] = d := by
  cases d with
  | nil => exact absurd rfl hne
  | cons c r =>
    have h := dig_bd (hd c List.mem_cons_self)
    have hc : ¬ (45 : UInt8) = c := fun e => by subst e; exact absurd h.1 (by decide)
    have e : Lib.hasPrefix (c :: r) [45] = false := by simp [Lib.hasPrefix, List.isPrefixOf, hc]
    simp [Lib.trimPrefix, e]
theorem b48 (b : UInt8) : decide ((b.toNat : Int) = 48) = decide (b = 48) := by
  apply decide_eq_decide.2
  constructor
  · intro h; apply UInt8.toNat_inj.1; show b.toNat = 48; omega
  · rintro rfl; rfl
/-- the text of a number: a minus or none, digits -/
theorem number_c (s : List UInt8) (hs : s.length ≤ 1000000000) (i : Nat) (hi : i < s.length) (neg : Bool) (d : List UInt8) (ht : (s.take (toW digI s (i + 1))).drop i = bif neg then 45 :: d else d) (hd : allDig d) (hne : d ≠ []) :
    PCB Tryd.prog 64 [Scp pin] [(pin, scB s i)] (TkR (numT neg d)) [(pin, scB s (toW digI s (i + 1)))] := by
  have hr := run_k 1000000 61 digI wordsdigit_c s (by omega) i hi
  rw [ht] at hr
  have htl : (bif neg then 45 :: d else d).length ≤ 1000000000 := by rw [← ht, List.length_drop, List.length_take]; omega
  have hcut : Lib.trimPrefix (bif neg then 45 :: d else d) [45] = d := by
    cases neg
    · exact trim_digs hd hne
    · exact trim_minus d
  have hT := trimPrefix_c (bif neg then 45 :: d else d) [45]
  rw [hcut] at hT
  have hP := parseInt_c (bif neg then 45 :: d else d) htl
  have hpos := parseInt_pos hd hne
  have hneg := parseInt_neg hd hne
  obtain ⟨b, r, rfl⟩ : ∃ b r, d = b :: r := by cases d with | nil => exact absurd rfl hne | cons b r => exact ⟨b, r, rfl⟩
  have hb0 : (b :: r)[0]? = some b := rfl
  have e48 : (decide ((b.toNat : Int) = 48) && !decide ((bif neg then 45 :: b :: r else b :: r) = [48])) = (decide ((b :: r).head? = some 48) && (decide (1 < (b :: r).length) || neg)) := by
    rw [b48]
    cases neg
    · cases r with
      | nil => by_cases h : b = 48 <;> simp [h]
      | cons c r => by_cases h : b = 48 <;> simp [h]
    · by_cases h : b = 48 <;> simp [h]
  have hpi : (decide ((b :: r).head? = some 48) && (decide (1 < (b :: r).length) || neg)) = false → Lib.parseIntB 64 (bif neg then 45 :: b :: r else b :: r) = if (numM neg (b :: r)).2 = 0 then .ok (numM neg (b :: r)).1 else .range := by
    intro h0
    unfold numM
    rw [h0, cond_false]
    cases neg
    · simp only [cond_false]
      by_cases h : decA 0 (b :: r) < 9223372036854775808
      · rw [hpos.1 h, decide_eq_true h]; rfl
      · rw [hpos.2 (by omega), decide_eq_false h]; rfl
    · simp only [cond_true]
      by_cases h : decA 0 (b :: r) ≤ 9223372036854775808
      · rw [hneg.1 h, decide_eq_true h]; rfl
      · rw [hneg.2 (by omega), decide_eq_false h]; rfl
  have hcode : (numM neg (b :: r)).2 = 0 ∨ (numM neg (b :: r)).2 = 2 ∨ ((numM neg (b :: r)).2 = 5 ∧ (decide ((b :: r).head? = some 48) && (decide (1 < (b :: r).length) || neg)) = true) := by
    unfold numM
    cases h0 : (decide ((b :: r).head? = some 48) && (decide (1 < (b :: r).length) || neg))
    · rw [cond_false]
      cases neg
      · simp only [cond_false]; cases decide (decA 0 (b :: r) < 9223372036854775808) <;> simp
      · simp only [cond_true]; cases decide (decA 0 (b :: r) ≤ 9223372036854775808) <;> simp
    · exact .inr (.inr ⟨rfl, rfl⟩)
  have hfive : (decide ((b :: r).head? = some 48) && (decide (1 < (b :: r).length) || neg)) = true → (numM neg (b :: r)).2 = 5 := by
    intro h0; unfold numM; rw [h0]; rfl
  generalize hX : (bif neg then 45 :: b :: r else b :: r) = X at *
  generalize (decide ((b :: r).head? = some 48) && (decide (1 < (b :: r).length) || neg)) = z at *
  unfold piT at hP
  refine PCB.of_body Tryd.func64 rfl (by decide) Tryd.ntmps64 Tryd.results64 rfl rfl rfl ?_ rfl rfl
  cases z with
  | true =>
    have h1 : decide ((b.toNat : Int) = 48) = true := by revert e48; cases decide ((b.toNat : Int) = 48) <;> simp
    have h2 : decide (X = [48]) = false := by revert e48; rw [h1]; cases decide (X = [48]) <;> simp
    have hq := hfive rfl
    repeat' (first | (simp only [go_sem, zA, zB, zC, zD, zE, zF, zG, reduceCtorEq, zH, zI, zJ, zK, zL, pin, h1, h2, vErr]; all_goals fail_if_success guard_target =ₛ False) | (with_reducible first | ((first | refine seqVC_stepN rfl ?_ | refine seqVC_stepG rfl (by with_unfolding_all rfl) ?_ | refine AWP.seq ?_ | refine AWP.seqR (by kernel_rfl) ?_); intro K hK) | ((first | refine hK _ _ _ ?_ | refine hK _ _ ?_ | refine hK _ ?_); clear hK K) | refine seqVC_nil ?_ | refine AWP.block ?_ | (refine AWP.cond (by with_unfolding_all rfl) ?_ ?_ <;> intro h <;> (try simp only [zM, zN] at h) <;> try exact absurd h (by decide)) | refine AWP.skip ?_ | refine AWP.ret ?_ | refine AWP.exit ?_ | (refine ⟨fun h => ?_, fun h => ?_⟩ <;> (try simp only [zM, zN] at h) <;> try simp only [h]) | refine ⟨_, hT, ?_⟩ | refine ⟨by omega, b, hb0, ?_⟩) | (refine ⟨1000000, _, _, _, hr, rfl, ?_⟩) | (with_reducible first | refine Or.inl ?_) | (clear hK K))
    all_goals (simp only [numT, hq, zeroTok, encTok])
    all_goals (refine ⟨by first | trivial | rfl, fun x hx => ?_⟩; simp only [List.mem_singleton] at hx; subst hx; simp)
  | false =>
    have hp := hpi rfl
    cases h1 : decide ((b.toNat : Int) = 48) with
    | false =>
      by_cases hz : (numM neg (b :: r)).2 = 0
      · rw [if_pos hz] at hp
        rw [hp] at hP
        repeat' (first | (simp only [go_sem, zA, zB, zC, zD, zE, zF, zG, reduceCtorEq, zH, zI, zJ, zK, zL, pin, h1, vErr]; all_goals fail_if_success guard_target =ₛ False) | (with_reducible first | ((first | refine seqVC_stepN rfl ?_ | refine seqVC_stepG rfl (by with_unfolding_all rfl) ?_ | refine AWP.seq ?_ | refine AWP.seqR (by kernel_rfl) ?_); intro K hK) | ((first | refine hK _ _ _ ?_ | refine hK _ _ ?_ | refine hK _ ?_); clear hK K) | refine seqVC_nil ?_ | refine AWP.block ?_ | (refine AWP.cond (by with_unfolding_all rfl) ?_ ?_ <;> intro h <;> (try simp only [zM, zN] at h) <;> try exact absurd h (by decide)) | refine AWP.skip ?_ | refine AWP.ret ?_ | refine AWP.exit ?_ | (refine ⟨fun h => ?_, fun h => ?_⟩ <;> (try simp only [zM, zN] at h) <;> try simp only [h]) | refine ⟨_, hT, ?_⟩ | refine ⟨_, hP, ?_⟩ | refine ⟨by omega, b, hb0, ?_⟩) | (refine ⟨1000000, _, _, _, hr, rfl, ?_⟩) | (with_reducible first | refine Or.inl ?_) | (clear hK K))
        all_goals (simp only [numT, hz, decide_true, cond_true, encTok])
        all_goals (refine ⟨by first | trivial | rfl, fun x hx => ?_⟩; simp only [List.mem_singleton] at hx; subst hx; simp)
      · rw [if_neg hz] at hp
        rw [hp] at hP
        have h2 : (numM neg (b :: r)).2 = 2 := by
          rcases hcode with h | h | ⟨_, h⟩
          · exact absurd h hz
          · exact h
          · cases h
        repeat' (first | (simp only [go_sem, zA, zB, zC, zD, zE, zF, zG, reduceCtorEq, zH, zI, zJ, zK, zL, pin, h1, vErr]; all_goals fail_if_success guard_target =ₛ False) | (with_reducible first | ((first | refine seqVC_stepN rfl ?_ | refine seqVC_stepG rfl (by with_unfolding_all rfl) ?_ | refine AWP.seq ?_ | refine AWP.seqR (by kernel_rfl) ?_); intro K hK) | ((first | refine hK _ _ _ ?_ | refine hK _ _ ?_ | refine hK _ ?_); clear hK K) | refine seqVC_nil ?_ | refine AWP.block ?_ | (refine AWP.cond (by with_unfolding_all rfl) ?_ ?_ <;> intro h <;> (try simp only [zM, zN] at h) <;> try exact absurd h (by decide)) | refine AWP.skip ?_ | refine AWP.ret ?_ | refine AWP.exit ?_ | (refine ⟨fun h => ?_, fun h => ?_⟩ <;> (try simp only [zM, zN] at h) <;> try simp only [h]) | refine ⟨_, hT, ?_⟩ | refine ⟨_, hP, ?_⟩ | refine ⟨by omega, b, hb0, ?_⟩) | (refine ⟨1000000, _, _, _, hr, rfl, ?_⟩) | (with_reducible first | refine Or.inl ?_) | (clear hK K))
        all_goals (simp only [numT, h2, zeroTok, encTok])
        all_goals (refine ⟨by first | trivial | rfl, fun x hx => ?_⟩; simp only [List.mem_singleton] at hx; subst hx; simp)
    | true =>
      have h2 : decide (X = [48]) = true := by revert e48; rw [h1]; cases decide (X = [48]) <;> simp
      by_cases hz : (numM neg (b :: r)).2 = 0
      · rw [if_pos hz] at hp
        rw [hp] at hP
        repeat' (first | (simp only [go_sem, zA, zB, zC, zD, zE, zF, zG, reduceCtorEq, zH, zI, zJ, zK, zL, pin, h1, h2, vErr]; all_goals fail_if_success guard_target =ₛ False) | (with_reducible first | ((first | refine seqVC_stepN rfl ?_ | refine seqVC_stepG rfl (by with_unfolding_all rfl) ?_ | refine AWP.seq ?_ | refine AWP.seqR (by kernel_rfl) ?_); intro K hK) | ((first | refine hK _ _ _ ?_ | refine hK _ _ ?_ | refine hK _ ?_); clear hK K) | refine seqVC_nil ?_ | refine AWP.block ?_ | (refine AWP.cond (by with_unfolding_all rfl) ?_ ?_ <;> intro h <;> (try simp only [zM, zN] at h) <;> try exact absurd h (by decide)) | refine AWP.skip ?_ | refine AWP.ret ?_ | refine AWP.exit ?_ | (refine ⟨fun h => ?_, fun h => ?_⟩ <;> (try simp only [zM, zN] at h) <;> try simp only [h]) | refine ⟨_, hT, ?_⟩ | refine ⟨_, hP, ?_⟩ | refine ⟨by omega, b, hb0, ?_⟩) | (refine ⟨1000000, _, _, _, hr, rfl, ?_⟩) | (with_reducible first | refine Or.inl ?_) | (clear hK K))
        all_goals (simp only [numT, hz, decide_true, cond_true, encTok])
        all_goals (refine ⟨by first | trivial | rfl, fun x hx => ?_⟩; simp only [List.mem_singleton] at hx; subst hx; simp)
      · rw [if_neg hz] at hp
        rw [hp] at hP
        have h3 : (numM neg (b :: r)).2 = 2 := by
          rcases hcode with h | h | ⟨_, h⟩
          · exact absurd h hz
          · exact h
          · cases h
        repeat' (first | (simp only [go_sem, zA, zB, zC, zD, zE, zF, zG, reduceCtorEq, zH, zI, zJ, zK, zL, pin, h1, h2, vErr]; all_goals fail_if_success guard_target =ₛ False) | (with_reducible first | ((first | refine seqVC_stepN rfl ?_ | refine seqVC_stepG rfl (by with_unfolding_all rfl) ?_ | refine AWP.seq ?_ | refine AWP.seqR (by kernel_rfl) ?_); intro K hK) | ((first | refine hK _ _ _ ?_ | refine hK _ _ ?_ | refine hK _ ?_); clear hK K) | refine seqVC_nil ?_ | refine AWP.block ?_ | (refine AWP.cond (by with_unfolding_all rfl) ?_ ?_ <;> intro h <;> (try simp only [zM, zN] at h) <;> try exact absurd h (by decide)) | refine AWP.skip ?_ | refine AWP.ret ?_ | refine AWP.exit ?_ | (refine ⟨fun h => ?_, fun h => ?_⟩ <;> (try simp only [zM, zN] at h) <;> try simp only [h]) | refine ⟨_, hT, ?_⟩ | refine ⟨_, hP, ?_⟩ | refine ⟨by omega, b, hb0, ?_⟩) | (refine ⟨1000000, _, _, _, hr, rfl, ?_⟩) | (with_reducible first | refine Or.inl ?_) | (clear hK K))
        all_goals (simp only [numT, h3, zeroTok, encTok])
        all_goals (refine ⟨by first | trivial | rfl, fun x hx => ?_⟩; simp only [List.mem_singleton] at hx; subst hx; simp)
/-- the signs, the longer ones first -/
def signL : List (List UInt8) := [[35, 123], [45, 62], [61, 62], [61, 61], [61, 60], [40], [41], [91], [93], [123], [125], [44], [59], [46], [58], [124], [47], [38], [61], [60], [43], [45], [42]]
def findS (t : List UInt8) : List (List UInt8) → Option (List UInt8)
  | [] => none
  | x :: l => bif Lib.hasPrefix t x then some x else findS t l
def signV (t : List UInt8) : (Tok × Int) × Nat := match findS t signL with
  | some x => ((⟨6, x, 0, 0⟩, 0), x.length)
  | none => ((zeroTok, 5), 0)
theorem prefix_len {t x : List UInt8} (h : Lib.hasPrefix t x = true) : x.length ≤ t.length := by
  unfold Lib.hasPrefix at h
  exact (List.isPrefixOf_iff_prefix.1 h).length_le
theorem gl0 : gl.lookup 0 = some [.sl 1 (signL.map Sx.encStr)] := rfl
theorem sign_c (s : List UInt8) (hs : s.length ≤ 1000000000) (i : Nat) (hi : i ≤ s.length) :
    PCB Tryd.prog 67 [Scp pin] [(pin, scB s i)] (TkR (signV (s.drop i)).1) [(pin, scB s (i + (signV (s.drop i)).2))] := by
  refine PCB.of_body Tryd.func67 rfl (by decide) Tryd.ntmps67 Tryd.results67 rfl rfl rfl ?_ rfl rfl
  repeat' (first | (simp only [go_sem, zA, zB, zC, zD, zE, zF, zG, reduceCtorEq, zH, zI, zJ, zK, zL, pin, gl0]; all_goals fail_if_success guard_target =ₛ False) | (with_reducible first | ((first | refine seqVC_stepN rfl ?_ | refine AWP.seq ?_ | refine AWP.seqR (by kernel_rfl) ?_ | refine parVC_stepN rfl ?_ | refine parEVC_stepN rfl ?_ | refine genVC_stepN rfl ?_); intro K hK) | ((first | refine hK _ _ _ ?_ | refine hK _ _ ?_ | refine hK _ ?_); clear hK K) | refine seqVC_nil ?_ | refine parVC_nil ?_ | refine parEVC_nil ?_ | refine genVC_nil ?_ | refine AWP.block ?_ | (refine AWP.cond (by with_unfolding_all rfl) ?_ ?_ <;> intro h <;> (try simp only [zM, zN] at h) <;> try exact absurd h (by decide)) | refine AWP.skip ?_ | refine AWP.ret ?_ | refine AWP.exit ?_ | refine AWP.parR mixed (by kernel_rfl) fun K hK => ?_ | refine ⟨(by kernel_rfl : depB _ _ _ = true), ?_⟩ | refine Or.inl ?_) | (clear hK K))
  refine AWP.len 6 rfl fun hlen0 => ?_
  (try rw [List.length_map] at hlen0)
  refine AWP.range (S := Nat) (signL) Sx.encStr (fun k u => (8, I .i64 (k : Nat)) :: []) (fun k u => [(1000000, scB s i), (2, .cells [.dat (.int .i64 0), .dat (.str []), .dat (.int .i64 0), .dat (.int .i64 0)])]) [0, 2, 6, 7] [] (fun k u => findS (s.drop i) signL = findS (s.drop i) (signL.drop k)) (0) (by simp only [go_sem, zA, zB, zC, zD, zE, zF, zG, reduceCtorEq, zH, zI, zJ, zK, zL]; exact Gh.to [] (by repeat (first | exact trivial | refine ⟨rfl, ?_⟩ | refine ⟨by (simp only [go_sem, zA, zB, zC, zD, zE, zF, zG, reduceCtorEq, zH, zI, zJ, zK, zL, List.length_append, List.length_map, List.length_cons, List.length_nil, Nat.zero_add]) <;> rfl, ?_⟩)) (by repeat (first | exact trivial | refine ⟨rfl, ?_⟩ | refine ⟨by (simp only [go_sem, zA, zB, zC, zD, zE, zF, zG, reduceCtorEq, zH, zI, zJ, zK, zL, List.length_append, List.length_map, List.length_cons, List.length_nil, Nat.zero_add]) <;> rfl, ?_⟩)) rfl rfl rfl) ?_ ?_ ?_
  · rfl
  · intro k u x hlt hx hx' hb hok
    simp only [go_sem, zA, zB, zC, zD, zE, zF, zG, reduceCtorEq, zH, zI, zJ, zK, zL]
    rw [List.drop_eq_getElem_cons hlt, show signL[k] = x from (List.getElem?_eq_some_iff.1 hx).2, findS] at hok
    have hp := hasPrefix_c (s.drop i) x
    cases hz : Lib.hasPrefix (s.drop i) x
    ·
      rw [hz, cond_false] at hok
      rw [hz] at hp
      repeat' (first | (simp only [go_sem, zA, zB, zC, zD, zE, zF, zG, reduceCtorEq, zH, zI, zJ, zK, zL, List.length_map, List.take_length, hb, encStr, pin]; all_goals fail_if_success guard_target =ₛ False) | (with_reducible first | ((first | refine seqVC_stepN rfl ?_ | refine AWP.seq ?_ | refine AWP.seqR (by kernel_rfl) ?_ | refine parVC_stepN rfl ?_ | refine parEVC_stepN rfl ?_ | refine genVC_stepN rfl ?_); intro K hK) | ((first | refine hK _ _ _ ?_ | refine hK _ _ ?_ | refine hK _ ?_); clear hK K) | refine seqVC_nil ?_ | refine parVC_nil ?_ | refine parEVC_nil ?_ | refine genVC_nil ?_ | refine AWP.block ?_ | (refine AWP.cond (by with_unfolding_all rfl) ?_ ?_ <;> intro h <;> (try simp only [zM, zN] at h) <;> try exact absurd h (by decide)) | refine AWP.skip ?_ | refine AWP.ret ?_ | refine AWP.exit ?_ | refine ⟨_, hp, ?_⟩ | refine ⟨by omega, encStr x, hx', ?_⟩ | refine ⟨by omega, ?_⟩ | refine ⟨by omega, by omega, by omega, ?_⟩ | refine AWP.parR mixed (by kernel_rfl) fun K hK => ?_ | refine ⟨(by kernel_rfl : depB _ _ _ = true), ?_⟩ | refine Or.inl ?_) | (clear hK K))
      all_goals (rw [wrap_succ hlt hlen0])
      all_goals (exact Gh.to [] (by repeat (first | exact trivial | refine ⟨rfl, ?_⟩ | refine ⟨by (simp only [go_sem, zA, zB, zC, zD, zE, zF, zG, reduceCtorEq, zH, zI, zJ, zK, zL, List.length_append, List.length_map, List.length_cons, List.length_nil, Nat.zero_add]) <;> rfl, ?_⟩)) (by repeat (first | exact trivial | refine ⟨rfl, ?_⟩ | refine ⟨by (simp only [go_sem, zA, zB, zC, zD, zE, zF, zG, reduceCtorEq, zH, zI, zJ, zK, zL, List.length_append, List.length_map, List.length_cons, List.length_nil, Nat.zero_add]) <;> rfl, ?_⟩)) rfl rfl rfl)
    ·
      rw [hz, cond_true] at hok
      rw [hz] at hp
      have hl := prefix_len hz
      rw [List.length_drop] at hl
      have hw : IntKind.i64.wrap ((i : Int) + (x.length : Int)) = ((i + x.length : Nat) : Int) := by rw [w64 (by omega)]; rfl
      repeat' (first | (simp only [go_sem, zA, zB, zC, zD, zE, zF, zG, reduceCtorEq, zH, zI, zJ, zK, zL, List.length_map, List.take_length, hb, encStr, pin, hw]; all_goals fail_if_success guard_target =ₛ False) | (with_reducible first | ((first | refine seqVC_stepN rfl ?_ | refine AWP.seq ?_ | refine AWP.seqR (by kernel_rfl) ?_ | refine parVC_stepN rfl ?_ | refine parEVC_stepN rfl ?_ | refine genVC_stepN rfl ?_); intro K hK) | ((first | refine hK _ _ _ ?_ | refine hK _ _ ?_ | refine hK _ ?_); clear hK K) | refine seqVC_nil ?_ | refine parVC_nil ?_ | refine parEVC_nil ?_ | refine genVC_nil ?_ | refine AWP.block ?_ | (refine AWP.cond (by with_unfolding_all rfl) ?_ ?_ <;> intro h <;> (try simp only [zM, zN] at h) <;> try exact absurd h (by decide)) | refine AWP.skip ?_ | refine AWP.ret ?_ | refine AWP.exit ?_ | refine ⟨_, hp, ?_⟩ | refine ⟨by omega, encStr x, hx', ?_⟩ | refine ⟨by omega, ?_⟩ | refine ⟨by omega, by omega, by omega, ?_⟩ | refine AWP.parR mixed (by kernel_rfl) fun K hK => ?_ | refine ⟨(by kernel_rfl : depB _ _ _ = true), ?_⟩ | refine Or.inl ?_) | (clear hK K))
      all_goals (simp only [signV, hok])
      all_goals (refine ⟨by first | trivial | rfl, fun x hx => ?_⟩; simp only [List.mem_singleton] at hx; subst hx; simp)
  · intro u hb hok
    simp only [go_sem, zA, zB, zC, zD, zE, zF, zG, reduceCtorEq, zH, zI, zJ, zK, zL]
    rw [List.drop_length, findS] at hok
    repeat' (first | (simp only [go_sem, zA, zB, zC, zD, zE, zF, zG, reduceCtorEq, zH, zI, zJ, zK, zL, List.length_map, hb, pin]; all_goals fail_if_success guard_target =ₛ False) | (with_reducible first | ((first | refine seqVC_stepN rfl ?_ | refine AWP.seq ?_ | refine AWP.seqR (by kernel_rfl) ?_ | refine parVC_stepN rfl ?_ | refine parEVC_stepN rfl ?_ | refine genVC_stepN rfl ?_); intro K hK) | ((first | refine hK _ _ _ ?_ | refine hK _ _ ?_ | refine hK _ ?_); clear hK K) | refine seqVC_nil ?_ | refine parVC_nil ?_ | refine parEVC_nil ?_ | refine genVC_nil ?_ | refine AWP.block ?_ | (refine AWP.cond (by with_unfolding_all rfl) ?_ ?_ <;> intro h <;> (try simp only [zM, zN] at h) <;> try exact absurd h (by decide)) | refine AWP.skip ?_ | refine AWP.ret ?_ | refine AWP.exit ?_ | refine AWP.parR mixed (by kernel_rfl) fun K hK => ?_ | refine ⟨(by kernel_rfl : depB _ _ _ = true), ?_⟩ | refine Or.inl ?_) | (clear hK K))
    all_goals (simp only [signV, hok])
    all_goals (refine ⟨by first | trivial | rfl, fun x hx => ?_⟩; simp only [List.mem_singleton] at hx; subst hx; simp)
end Go.Proofs.YtogponhonjiidaaDoor
set_option linter.unusedVariables false
set_option maxRecDepth 20000
namespace Go.Proofs.YtogponhonjiidaaDoor
open Go Go.Sx
open Nat renaming reduceBEq → zA, reduceBNe → zB, reduceAdd → zC, reduceSub → zD, reduceMul → zE, reduceLeDiff → zF, reduceLT → zG, reduceEqDiff → zH
open Int renaming reduceToNat → zI, reduceLE → zJ, reduceLT → zK, reduceEq → zL
open Bool renaming not_eq_true' → zM, not_eq_false' → zN
theorem errG {W : World} {n : String} {d : DataW Unit} {nm : String} {rest : List (String × DataW Unit)} {g : Nat} (hg : Tryd.prog.globalNamed n = some g) (hty : (Tryd.prog.globals[g]?).map (·.type) = some 82)
    (h : laidMet Tryd.prog ((n, DataW.iface nm d) :: rest) W) : ∃ vs, At (W.heap[g]?) 0 vs ∧ repRow (fun b => W.heap[b]?) [.err true] vs := by
  obtain ⟨g', t, cs, fuel, p, h1, h2, h3, h4⟩ := laidMet_head h
  obtain rfl := Option.some.inj (hg.symm.trans h1)
  obtain rfl := Option.some.inj (hty.symm.trans h2)
  obtain ⟨et, fz, hb⟩ := tab_of h3 hg
  obtain ⟨te, pe, hcs⟩ := err_of Tryd.underlying82 h4
  refine ⟨[.iface te pe], ⟨cs, et, fz, [], [], hb, by rw [hcs]; rfl, rfl⟩, ?_⟩
  simp only [repRow, C.rep, cond_true]
  exact ⟨_, _, rfl, ⟨te, pe, rfl⟩, rfl⟩
theorem repStrs {M : Mem0} : ∀ l : List (List UInt8), repRows M 1 (l.map Sx.encStr) (l.map fun s => Value.string ⟨s.toArray⟩)
  | [] => by simp [repRows]
  | s :: l => by
    have := repStrs (M := M) l
    simp only [List.map_cons, repRows]
    exact ⟨[.string ⟨s.toArray⟩], _, rfl, rfl, by simp only [Sx.encStr, repRow, C.rep]; exact ⟨_, _, rfl, rfl, rfl⟩, this⟩
theorem repInts {M : Mem0} : ∀ l : List Int, repRow M (l.map fun z => C.int .u64 z) (l.map fun z => Value.int .u64 z)
  | [] => by simp [repRow]
  | s :: l => by
    have := repInts (M := M) l
    simp only [List.map_cons, repRow, C.rep]
    exact ⟨_, _, rfl, rfl, this⟩
theorem globOk {W : World} (hL : laidMet Tryd.prog Rows.tokenReservedRow.laid W) (hS : W.ShapedOpen Tryd.prog) : GlobOk (fun b => W.heap[b]?) := by
  have l2 := laidMet_tail (laidMet_tail hL)
  have l3 := laidMet_tail l2
  have l4 := laidMet_tail l3
  have l6 := laidMet_tail (laidMet_tail l4)
  have e5 := errG (g := 5) (by kernel_rfl) (by kernel_rfl) l3
  have e4 := errG (g := 4) (by kernel_rfl) (by kernel_rfl) l4
  have e1 : Lib.TabIs Tryd.prog W "internal/strconv.uint64pow10" .u64 pow10V := Lib.tabIs_of_head (g := 1) (t := 134) (e := 107) (n := 20) (by kernel_rfl) (by kernel_rfl) Tryd.underlying134 Tryd.underlying107 (by kernel_rfl) (by kernel_rfl) l2
  obtain ⟨t1, z1, b1⟩ := tab_of e1 (g := 1) (by kernel_rfl)
  have e0 : ∃ vs, At (W.heap[0]?) 0 vs ∧ repRow (fun b => W.heap[b]?) [.sl 1 (signL.map Sx.encStr)] vs := by
    obtain ⟨g', t, cs, fuel, p, h1, h2, h3, h4⟩ := laidMet_head l6
    obtain rfl := Option.some.inj ((show Tryd.prog.globalNamed "semtype/words.signs" = some 0 by kernel_rfl).symm.trans h1)
    obtain rfl := Option.some.inj ((show (Tryd.prog.globals[0]?).map (·.type) = some 28 by kernel_rfl).symm.trans h2)
    obtain ⟨et, fz, hb⟩ := tab_of h3 h1
    obtain ⟨b, off, cap, hcs, hc1, hc2, hat⟩ := strs_of (strs := signL) (rst := []) Tryd.underlying28 Tryd.underlying9 (by kernel_rfl) (by decide) h4
    refine ⟨[.slice (some ⟨b, off, none⟩) signL.length cap], ⟨cs, et, fz, [], [], hb, by rw [hcs]; rfl, rfl⟩, ?_⟩
    simp only [repRow, C.rep]
    refine ⟨_, _, rfl, ⟨_, cap, signL.map fun s => Value.string ⟨s.toArray⟩, rfl, hc1, hc2, repStrs signL, .inr ⟨b, off, rfl, hat⟩⟩, rfl⟩
  have em : ∃ m : Int, At (W.heap[3]?) 0 [.int .i64 m] := by
    obtain ⟨m, hm⟩ := Go.Proofs.cell_of_shapedOpen_int (g := 3) (k := .i64) (zero := #[.int .i64 0]) (t := 3) hS (of_decide_eq_true (by kernel_rfl)) (by kernel_rfl) rfl (by kernel_rfl) (by kernel_rfl) Tryd.underlying3
    exact ⟨m, at_of_cells (by simp) fun i v hv => by
      cases i with
      | zero => cases hv; exact hm
      | succ i => simp at hv⟩
  refine ⟨fun g r hg => ?_, em, t1, z1, b1⟩
  by_cases g0 : g = 0
  · subst g0
    obtain rfl := Option.some.inj (gl0.symm.trans hg)
    exact e0
  by_cases g1 : g = 1
  · subst g1
    obtain rfl := Option.some.inj ((show gl.lookup 1 = some (pow10V.map fun z => C.int .u64 z) from rfl).symm.trans hg)
    exact ⟨pow10V.map fun z => Value.int .u64 z, ⟨_, t1, z1, [], [], b1, by simp, rfl⟩, repInts pow10V⟩
  by_cases g4 : g = 4
  · subst g4
    obtain rfl := Option.some.inj ((show gl.lookup 4 = some [.err true] from rfl).symm.trans hg)
    exact e4
  by_cases g5 : g = 5
  · subst g5
    obtain rfl := Option.some.inj ((show gl.lookup 5 = some [.err true] from rfl).symm.trans hg)
    exact e5
  · exfalso
    have h0 : (g == 0) = false := by simpa using g0
    have h1 : (g == 1) = false := by simpa using g1
    have h4 : (g == 4) = false := by simpa using g4
    have h5 : (g == 5) = false := by simpa using g5
    unfold gl at hg
    simp only [List.lookup, h0, h1, h4, h5] at hg
    cases hg
end Go.Proofs.YtogponhonjiidaaDoor
set_option maxRecDepth 100000
namespace Go.Proofs
open Go.Shelf
def Tryd.writeByteL_ren : Go.Shelf.Ren := ⟨fun | 179 => 69 | 251 => 91 | 252 => 92 | 181 => 108 | 184 => 109 | 290 => 110 | 324 => 120 | n => n, fun | 130 => 124 | 5 => 5 | 75 => 82 | 0 => 0 | 93 => 104 | 91 => 102 | 3 => 3 | 131 => 125 | 4 => 4 | 37 => 40 | 20 => 20 | 80 => 85 | 9 => 9 | n => n, fun | 14 => 2 | n => n⟩
theorem Tryd.writeByteL : Go.Proofs.LaysM.n179 Tryd.prog Tryd.writeByteL_ren := {
  mixed := by kernel_rfl,
  f179 := Tryd.func69.trans (congrArg some (by kernel_rfl)),
  f181 := Tryd.func108.trans (congrArg some (by kernel_rfl)),
  f184 := Tryd.func109.trans (congrArg some (by kernel_rfl)),
  f251 := Tryd.func91.trans (congrArg some (by kernel_rfl)),
  f252 := Tryd.func92.trans (congrArg some (by kernel_rfl)),
  f290 := Tryd.func110.trans (congrArg some (by kernel_rfl)),
  f324 := Tryd.func120.trans (congrArg some (by kernel_rfl)),
  t0 := Tryd.underlying0,
  a0 := Tryd.isAgg0,
  z0 := Tryd.sizeOf0,
  v0 := Tryd.zeroValue0,
  t3 := Tryd.underlying3,
  a3 := Tryd.isAgg3,
  z3 := Tryd.sizeOf3,
  v3 := Tryd.zeroValue3,
  t4 := Tryd.underlying4,
  a4 := Tryd.isAgg4,
  z4 := Tryd.sizeOf4,
  v4 := Tryd.zeroValue4,
  t5 := Tryd.underlying5,
  a5 := Tryd.isAgg5,
  z5 := Tryd.sizeOf5,
  v5 := Tryd.zeroValue5,
  t20 := Tryd.underlying20,
  a20 := Tryd.isAgg20,
  z20 := Tryd.sizeOf20,
  v20 := Tryd.zeroValue20,
  t37 := Tryd.underlying40,
  a37 := Tryd.isAgg40,
  z37 := Tryd.sizeOf40,
  v37 := Tryd.zeroValue40,
  t75 := Tryd.underlying82,
  a75 := Tryd.isAgg82,
  z75 := Tryd.sizeOf82,
  v75 := Tryd.zeroValue82,
  t91 := Tryd.underlying102,
  a91 := Tryd.isAgg102,
  z91 := Tryd.sizeOf102,
  v91 := Tryd.zeroValue102,
  t93 := Tryd.underlying104,
  a93 := Tryd.isAgg104,
  z93 := Tryd.sizeOf104,
  v93 := Tryd.zeroValue104,
  t130 := Tryd.underlying124,
  a130 := Tryd.isAgg124,
  z130 := Tryd.sizeOf124,
  v130 := Tryd.zeroValue124,
  t131 := Tryd.underlying125,
  a131 := Tryd.isAgg125,
  z131 := Tryd.sizeOf125,
  v131 := Tryd.zeroValue125,
  g14 := by kernel_rfl,
  t9 := Tryd.underlying9,
  a9 := Tryd.isAgg9,
  z9 := Tryd.sizeOf9,
  v9 := Tryd.zeroValue9,
  t80 := Tryd.underlying85,
  a80 := Tryd.isAgg85,
  z80 := Tryd.sizeOf85,
  v80 := Tryd.zeroValue85,
  i0 := by kernel_rfl,
  i3 := by kernel_rfl,
  i4 := by kernel_rfl,
  i5 := by kernel_rfl,
  i9 := by kernel_rfl,
  i20 := by kernel_rfl,
  i37 := by kernel_rfl,
  i75 := by kernel_rfl,
  i80 := by kernel_rfl,
  i91 := by kernel_rfl,
  i93 := by kernel_rfl,
  i130 := by kernel_rfl,
  i131 := by kernel_rfl,
  m14 := by kernel_rfl }
def Tryd.writeStringL_ren : Go.Shelf.Ren := ⟨fun | 178 => 70 | 251 => 91 | 252 => 92 | 181 => 108 | 184 => 109 | 290 => 110 | 324 => 120 | n => n, fun | 130 => 124 | 9 => 9 | 3 => 3 | 75 => 82 | 0 => 0 | 93 => 104 | 91 => 102 | 131 => 125 | 4 => 4 | 37 => 40 | 20 => 20 | 80 => 85 | 5 => 5 | n => n, fun | 14 => 2 | n => n⟩
theorem Tryd.writeStringL : Go.Proofs.LaysM.n178 Tryd.prog Tryd.writeStringL_ren := {
  mixed := by kernel_rfl,
  f178 := Tryd.func70.trans (congrArg some (by kernel_rfl)),
  f181 := Tryd.func108.trans (congrArg some (by kernel_rfl)),
  f184 := Tryd.func109.trans (congrArg some (by kernel_rfl)),
  f251 := Tryd.func91.trans (congrArg some (by kernel_rfl)),
  f252 := Tryd.func92.trans (congrArg some (by kernel_rfl)),
  f290 := Tryd.func110.trans (congrArg some (by kernel_rfl)),
  f324 := Tryd.func120.trans (congrArg some (by kernel_rfl)),
  t0 := Tryd.underlying0,
  a0 := Tryd.isAgg0,
  z0 := Tryd.sizeOf0,
  v0 := Tryd.zeroValue0,
  t3 := Tryd.underlying3,
  a3 := Tryd.isAgg3,
  z3 := Tryd.sizeOf3,
  v3 := Tryd.zeroValue3,
  t4 := Tryd.underlying4,
  a4 := Tryd.isAgg4,
  z4 := Tryd.sizeOf4,
  v4 := Tryd.zeroValue4,
  t9 := Tryd.underlying9,
  a9 := Tryd.isAgg9,
  z9 := Tryd.sizeOf9,
  v9 := Tryd.zeroValue9,
  t20 := Tryd.underlying20,
  a20 := Tryd.isAgg20,
  z20 := Tryd.sizeOf20,
  v20 := Tryd.zeroValue20,
  t37 := Tryd.underlying40,
  a37 := Tryd.isAgg40,
  z37 := Tryd.sizeOf40,
  v37 := Tryd.zeroValue40,
  t75 := Tryd.underlying82,
  a75 := Tryd.isAgg82,
  z75 := Tryd.sizeOf82,
  v75 := Tryd.zeroValue82,
  t91 := Tryd.underlying102,
  a91 := Tryd.isAgg102,
  z91 := Tryd.sizeOf102,
  v91 := Tryd.zeroValue102,
  t93 := Tryd.underlying104,
  a93 := Tryd.isAgg104,
  z93 := Tryd.sizeOf104,
  v93 := Tryd.zeroValue104,
  t130 := Tryd.underlying124,
  a130 := Tryd.isAgg124,
  z130 := Tryd.sizeOf124,
  v130 := Tryd.zeroValue124,
  t131 := Tryd.underlying125,
  a131 := Tryd.isAgg125,
  z131 := Tryd.sizeOf125,
  v131 := Tryd.zeroValue125,
  g14 := by kernel_rfl,
  t5 := Tryd.underlying5,
  a5 := Tryd.isAgg5,
  z5 := Tryd.sizeOf5,
  v5 := Tryd.zeroValue5,
  t80 := Tryd.underlying85,
  a80 := Tryd.isAgg85,
  z80 := Tryd.sizeOf85,
  v80 := Tryd.zeroValue85,
  i0 := by kernel_rfl,
  i3 := by kernel_rfl,
  i4 := by kernel_rfl,
  i5 := by kernel_rfl,
  i9 := by kernel_rfl,
  i20 := by kernel_rfl,
  i37 := by kernel_rfl,
  i75 := by kernel_rfl,
  i80 := by kernel_rfl,
  i91 := by kernel_rfl,
  i93 := by kernel_rfl,
  i130 := by kernel_rfl,
  i131 := by kernel_rfl,
  m14 := by kernel_rfl }
def Tryd.bufStringL_ren : Go.Shelf.Ren := ⟨fun | 182 => 71 | n => n, fun | 130 => 124 | 9 => 9 | 4 => 4 | 0 => 0 | 93 => 104 | 37 => 40 | 3 => 3 | 91 => 102 | 5 => 5 | n => n, fun | n => n⟩
theorem Tryd.bufStringL : Go.Proofs.LaysM.n182 Tryd.prog Tryd.bufStringL_ren := {
  mixed := by kernel_rfl,
  f182 := Tryd.func71.trans (congrArg some (by kernel_rfl)),
  t0 := Tryd.underlying0,
  a0 := Tryd.isAgg0,
  z0 := Tryd.sizeOf0,
  v0 := Tryd.zeroValue0,
  t3 := Tryd.underlying3,
  a3 := Tryd.isAgg3,
  z3 := Tryd.sizeOf3,
  v3 := Tryd.zeroValue3,
  t4 := Tryd.underlying4,
  a4 := Tryd.isAgg4,
  z4 := Tryd.sizeOf4,
  v4 := Tryd.zeroValue4,
  t9 := Tryd.underlying9,
  a9 := Tryd.isAgg9,
  z9 := Tryd.sizeOf9,
  v9 := Tryd.zeroValue9,
  t37 := Tryd.underlying40,
  a37 := Tryd.isAgg40,
  z37 := Tryd.sizeOf40,
  v37 := Tryd.zeroValue40,
  t93 := Tryd.underlying104,
  a93 := Tryd.isAgg104,
  z93 := Tryd.sizeOf104,
  v93 := Tryd.zeroValue104,
  t130 := Tryd.underlying124,
  a130 := Tryd.isAgg124,
  z130 := Tryd.sizeOf124,
  v130 := Tryd.zeroValue124,
  t5 := Tryd.underlying5,
  a5 := Tryd.isAgg5,
  z5 := Tryd.sizeOf5,
  v5 := Tryd.zeroValue5,
  t91 := Tryd.underlying102,
  a91 := Tryd.isAgg102,
  z91 := Tryd.sizeOf102,
  v91 := Tryd.zeroValue102,
  i0 := by kernel_rfl,
  i3 := by kernel_rfl,
  i4 := by kernel_rfl,
  i5 := by kernel_rfl,
  i9 := by kernel_rfl,
  i37 := by kernel_rfl,
  i91 := by kernel_rfl,
  i93 := by kernel_rfl,
  i130 := by kernel_rfl }
end Go.Proofs
set_option linter.unusedVariables false
namespace Go.Sx
def hexL : List UInt8 := [48, 49, 50, 51, 52, 53, 54, 55, 56, 57, 97, 98, 99, 100, 101, 102]
def hexd (n : Nat) : UInt8 := hexL.getD n 0
/-- the bytes that stand for a byte within quotes -/
def quote1 (c : UInt8) : List UInt8 :=
  bif decide (c.toNat = 34) || decide (c.toNat = 92) then [92, c]
  else bif decide (32 ≤ c.toNat) && decide (c.toNat ≤ 126) then [c]
  else [92, 120, hexd (c.toNat / 16), hexd (c.toNat % 16)]
def quoteB (s : List UInt8) : List UInt8 := s.flatMap quote1
def quoteL (s : List UInt8) : List UInt8 := 34 :: (quoteB s ++ [34])
/-- the value of a hexadecimal digit -/
def nibI (n : Nat) : Option Nat := if 48 ≤ n ∧ n ≤ 57 then some (n - 48) else if 97 ≤ n ∧ n ≤ 102 then some (n - 87) else none
/-- the byte of two hexadecimal digits -/
def hexB (h k : UInt8) : Option UInt8 := match nibI h.toNat, nibI k.toNat with
  | some a, some b => some (UInt8.ofNat (16 * a + b))
  | _, _ => none
/-- an escape behind a backslash and x, in the program's reading -/
def escP : List UInt8 → Option UInt8
  | h :: k :: _ => hexB h k
  | _ => none
/-- the program's reading of what stands between the quotes -/
def decP : List UInt8 → Option (List UInt8)
  | [] => some []
  | [c] => bif decide (c.toNat = 92) then none else some [c]
  | c :: d :: m => bif decide (c.toNat = 92) then
      bif decide (d.toNat = 120) then
        match escP m with
        | some x => (decP (m.drop 2)).map (x :: ·)
        | none => none
      else (decP m).map (d :: ·)
    else (decP (d :: m)).map (c :: ·)
termination_by l => l.length
decreasing_by all_goals (simp; try omega)
/-- an escape behind a backslash, in the reference's reading -/
def escR (d : UInt8) (m : List UInt8) : Option UInt8 := bif decide (d.toNat = 120) then
    match m with
    | h :: k :: _ :: _ => hexB h k
    | _ => none
  else none
/-- the reference's, up to a last byte -/
def decR : List UInt8 → List UInt8
  | [] => []
  | [_] => []
  | c :: d :: m => bif decide (c.toNat = 92) then
      match escR d m with
      | some x => x :: decR (m.drop 2)
      | none => d :: decR m
    else c :: decR (d :: m)
termination_by l => l.length
decreasing_by all_goals (simp; try omega)
theorem hexd_nib : ∀ n < 16, nibI (hexd n).toNat = some n := by decide
theorem dec_byte (c : UInt8) : UInt8.ofNat (16 * (c.toNat / 16) + c.toNat % 16) = c := by
  rw [Nat.div_add_mod]; simp
theorem u92 : (92 : UInt8).toNat = 92 := rfl
theorem u120 : (120 : UInt8).toNat = 120 := rfl
theorem hexB_q (c : UInt8) : hexB (hexd (c.toNat / 16)) (hexd (c.toNat % 16)) = some c := by
  have hc : c.toNat < 256 := UInt8.toNat_lt c
  unfold hexB
  rw [hexd_nib _ (by omega), hexd_nib _ (by omega)]
  simp only [dec_byte]
theorem decP_q (c : UInt8) (r : List UInt8) : decP (quote1 c ++ r) = (decP r).map (c :: ·) := by
  have hc : c.toNat < 256 := UInt8.toNat_lt c
  unfold quote1
  by_cases h1 : c.toNat = 34 ∨ c.toNat = 92
  · have e : (decide (c.toNat = 34) || decide (c.toNat = 92)) = true := by simpa using h1
    rw [e, cond_true]
    have h2 : decide (c.toNat = 120) = false := by simp; omega
    simp only [List.cons_append, List.nil_append]
    rw [decP]
    simp only [u92, decide_true, cond_true, h2, cond_false]
  · have e : (decide (c.toNat = 34) || decide (c.toNat = 92)) = false := by simpa using h1
    have h3 : decide (c.toNat = 92) = false := by simp; omega
    rw [e, cond_false]
    cases h4 : decide (32 ≤ c.toNat) && decide (c.toNat ≤ 126) with
    | true =>
      simp only [cond_true, List.cons_append, List.nil_append]
      cases r with
      | nil => rw [decP, decP]; simp only [h3, cond_false]; rfl
      | cons z r => rw [decP]; simp only [h3, cond_false]
    | false =>
      simp only [cond_false, List.cons_append, List.nil_append]
      rw [decP]
      simp only [u92, u120, decide_true, cond_true, escP, hexB_q, List.drop_succ_cons, List.drop_zero]
theorem decP_quote : ∀ t : List UInt8, decP (quoteB t) = some t
  | [] => by simp [quoteB, decP]
  | c :: t => by
    have := decP_quote t
    unfold quoteB at this ⊢
    rw [List.flatMap_cons, decP_q, this]; rfl
theorem decR_q (c : UInt8) (r : List UInt8) (hr : r ≠ []) : decR (quote1 c ++ r) = c :: decR r := by
  have hc : c.toNat < 256 := UInt8.toNat_lt c
  obtain ⟨z, r, rfl⟩ : ∃ z r', r = z :: r' := by cases r with | nil => exact absurd rfl hr | cons z r => exact ⟨z, r, rfl⟩
  unfold quote1
  by_cases h1 : c.toNat = 34 ∨ c.toNat = 92
  · have e : (decide (c.toNat = 34) || decide (c.toNat = 92)) = true := by simpa using h1
    rw [e, cond_true]
    have h2 : decide (c.toNat = 120) = false := by simp; omega
    simp only [List.cons_append, List.nil_append]
    rw [decR]
    have e3 : escR c (z :: r) = none := by unfold escR; rw [h2]; rfl
    simp only [u92, decide_true, cond_true, e3]
  · have e : (decide (c.toNat = 34) || decide (c.toNat = 92)) = false := by simpa using h1
    have h3 : decide (c.toNat = 92) = false := by simp; omega
    rw [e, cond_false]
    cases h4 : decide (32 ≤ c.toNat) && decide (c.toNat ≤ 126) with
    | true =>
      simp only [cond_true, List.cons_append, List.nil_append]
      rw [decR]
      simp only [h3, cond_false]
    | false =>
      simp only [cond_false, List.cons_append, List.nil_append]
      rw [decR]
      have e3 : escR 120 (hexd (c.toNat / 16) :: hexd (c.toNat % 16) :: z :: r) = some c := by
        unfold escR
        simp only [u120, decide_true, cond_true, hexB_q]
      simp only [u92, decide_true, cond_true, e3, List.drop_succ_cons, List.drop_zero]
theorem decR_quote : ∀ t : List UInt8, decR (quoteB t ++ [34]) = t
  | [] => by rw [show quoteB [] ++ [34] = [34] from rfl, decR]
  | c :: t => by
    have := decR_quote t
    unfold quoteB at this ⊢
    rw [List.flatMap_cons, List.append_assoc, decR_q _ _ (by simp), this]
/-- the string whose quotation s is -/
def unqV (s : List UInt8) : Option (List UInt8) := bif decide (quoteL (decR (s.drop 1)) = s) then some (decR (s.drop 1)) else none
theorem unqV_some {s t : List UInt8} : unqV s = some t ↔ quoteL t = s := by
  constructor
  · intro h
    unfold unqV at h
    cases hd : decide (quoteL (decR (s.drop 1)) = s) with
    | true =>
      rw [hd, cond_true] at h
      cases h
      simpa using hd
    | false => rw [hd] at h; cases h
  · rintro rfl
    have : decR ((quoteL t).drop 1) = t := by
      unfold quoteL
      rw [List.drop_succ_cons, List.drop_zero, decR_quote]
    unfold unqV
    rw [this]; simp
/-- the program's own reading -/
def unqP (s : List UInt8) : Option (List UInt8) :=
  bif decide (s.length < 2) || (!decide (s.head? = some 34) || !decide (s.getLast? = some 34)) then none
  else match decP ((s.take (s.length - 1)).drop 1) with
    | none => none
    | some t => bif decide (quoteL t = s) then some t else none
theorem unqP_eq (s : List UInt8) : unqP s = unqV s := by
  have hP : ∀ t, unqP s = some t ↔ quoteL t = s := by
    intro t
    constructor
    · intro h
      unfold unqP at h
      cases h1 : decide (s.length < 2) || (!decide (s.head? = some 34) || !decide (s.getLast? = some 34)) with
      | true => rw [h1] at h; cases h
      | false =>
        rw [h1, cond_false] at h
        split at h
        · cases h
        · rename_i u _
          cases hd : decide (quoteL u = s) with
          | true => rw [hd, cond_true] at h; cases h; simpa using hd
          | false => rw [hd] at h; cases h
    · rintro rfl
      unfold unqP
      have e1 : (decide ((quoteL t).length < 2) || (!decide ((quoteL t).head? = some 34) || !decide ((quoteL t).getLast? = some 34))) = false := by
        have h2 : (quoteL t).length = (quoteB t).length + 2 := by simp [quoteL]
        have h3 : (quoteL t).head? = some 34 := rfl
        have h4 : (quoteL t).getLast? = some 34 := by unfold quoteL; rw [← List.cons_append, List.getLast?_append]; rfl
        rw [h2, h3, h4]
        have : ¬ ((quoteB t).length + 2 < 2) := by omega
        simp
      have e2 : ((quoteL t).take ((quoteL t).length - 1)).drop 1 = quoteB t := by
        have h2 : (quoteL t).length - 1 = (quoteB t).length + 1 := by simp [quoteL]
        rw [h2]
        unfold quoteL
        rw [List.take_succ_cons, List.drop_succ_cons, List.drop_zero, List.take_append_of_le_length (by omega), List.take_length]
      rw [e1, cond_false, e2, decP_quote]
      simp
  cases h : unqP s with
  | none =>
    cases h2 : unqV s with
    | none => rfl
    | some t => rw [unqV_some, ← hP, h] at h2; cases h2
  | some t => rw [hP, ← unqV_some] at h; exact h.symm
end Go.Sx
set_option linter.unusedSimpArgs false
set_option linter.unusedVariables false
set_option maxRecDepth 100000
set_option maxHeartbeats 6400000
namespace Go.Proofs.YtogponhonjiidaaDoor
open Go Go.RowKit
theorem writeByte_k (B b : Nat) (l : List UInt8) (c : UInt8) (w : World) (h : Lib.IsBuffer 104 5 B b (Lib.byteCells l) w) (hBw : B ≤ w.heap.size) (hlim : l.length + 1 ≤ 140737488355328) :
    Calls Tryd.prog 69 #[.pointer (some ⟨b, 0, none⟩), .int .u8 c.toNat] w fun e w' => e = .returned .nilIface ∧ Lib.IsBuffer 104 5 B b (Lib.byteCells (l ++ [c])) w' ∧ Below B w w' := by
  refine (Any.Buffer_WriteByte_k Tryd.writeByteL B b (Lib.byteCells l) c.toNat w h hBw (Lib.byteCells_one _) (by rw [Lib.byteCells_length]; exact hlim)).mono ?_
  rintro e w' ⟨h1, h2, h3, _⟩
  exact ⟨h1, by rw [Lib.byteCells_append]; exact h2, h3⟩
theorem writeByte_z (B b : Nat) (l : List UInt8) (c : UInt8) (z : Int) (hz : (c.toNat : Int) = z) (w : World) (h : Lib.IsBuffer 104 5 B b (Lib.byteCells l) w) (hBw : B ≤ w.heap.size) (hlim : l.length + 1 ≤ 140737488355328) :
    Calls Tryd.prog 69 #[.pointer (some ⟨b, 0, none⟩), .int .u8 z] w fun e w' => e = .returned .nilIface ∧ Lib.IsBuffer 104 5 B b (Lib.byteCells (l ++ [c])) w' ∧ Below B w w' := by
  subst hz; exact writeByte_k B b l c w h hBw hlim
theorem writeString_k (B b : Nat) (l s : List UInt8) (w : World) (h : Lib.IsBuffer 104 5 B b (Lib.byteCells l) w) (hBw : B ≤ w.heap.size) (hlim : l.length + s.length ≤ 140737488355328) :
    Calls Tryd.prog 70 #[.pointer (some ⟨b, 0, none⟩), .string ⟨s.toArray⟩] w fun e w' => e = .returned (.tuple #[.int .i64 s.length, .nilIface]) ∧ Lib.IsBuffer 104 5 B b (Lib.byteCells (l ++ s)) w' ∧ Below B w w' := by
  refine (Any.Buffer_WriteString_k Tryd.writeStringL B b (Lib.byteCells l) ⟨s.toArray⟩ w h hBw (Lib.byteCells_one _) (by rw [Lib.byteCells_length]; simpa [ByteArray.size] using hlim)).mono ?_
  rintro e w' ⟨h1, h2, h3, _⟩
  exact ⟨by rw [h1]; simp [ByteArray.size], by rw [Lib.byteCells_append]; exact h2, h3⟩
theorem bufString_k (B b : Nat) (l : List UInt8) (w : World) (h : Lib.IsBuffer 104 5 B b (Lib.byteCells l) w) :
    Calls Tryd.prog 71 #[.pointer (some ⟨b, 0, none⟩)] w fun e w' => e = .returned (.string ⟨l.toArray⟩) ∧ ∃ n, w' = w.drewN n :=
  Any.Buffer_String Tryd.bufStringL B b l w h
theorem hexI (n : Nat) (h : n < 16) : ((ByteArray.mk #[48, 49, 50, 51, 52, 53, 54, 55, 56, 57, 97, 98, 99, 100, 101, 102])[n]'h).toNat = (Sx.hexd n).toNat := by
  revert n; decide
theorem quoteB_succ (s : List UInt8) (k : Nat) (hk : k < s.length) : Sx.quoteB (s.take (k + 1)) = Sx.quoteB (s.take k) ++ Sx.quote1 s[k] := by
  unfold Sx.quoteB
  rw [List.take_add_one, List.getElem?_eq_getElem hk, List.flatMap_append]
  simp
theorem quote1_le (c : UInt8) : (Sx.quote1 c).length ≤ 4 := by
  unfold Sx.quote1
  cases decide (c.toNat = 34) || decide (c.toNat = 92) <;> cases decide (32 ≤ c.toNat) && decide (c.toNat ≤ 126) <;> simp
theorem quoteB_le : ∀ s : List UInt8, (Sx.quoteB s).length ≤ 4 * s.length
  | [] => by simp [Sx.quoteB]
  | c :: s => by
    have h1 := quoteB_le s
    have h2 := quote1_le c
    unfold Sx.quoteB at h1 ⊢
    simp only [List.flatMap_cons, List.length_append, List.length_cons]
    omega
theorem quote_n (s : List UInt8) (hs : s.length ≤ 1000000000) (w : World) :
    Calls Tryd.prog 39 #[.string ⟨s.toArray⟩] w fun e w' => e = .returned (.string ⟨(Sx.quoteL s).toArray⟩) ∧ Below w.heap.size w w' := by
  have hI0 : Lib.IsBuffer 104 5 w.heap.size w.heap.size (Lib.byteCells []) (w.alloc (.cells #[.slice none 0 0, .int .i64 0, .int .i8 0] 104)) := Lib.fresh_isBuffer 104 5 w
  have hb0 : Below w.heap.size w (w.alloc (.cells #[.slice none 0 0, .int .i64 0, .int .i8 0] 104)) := (Below.refl _ w).alloc (Nat.le_refl _) _
  go_enter Tryd.func39, Tryd.ntmps39
  go_wp2_with (go_at_call 69; refine (writeByte_z w.heap.size w.heap.size [] 34 _ (by decide) _ hI0 (by simp) (by simp)).mono ?_; rintro e W1 ⟨rfl, hI1, hb1⟩)
  go_wp2
  go_loopw [4] (fun i wr => ∃ k : Nat, k ≤ s.length ∧ i = .int .i64 k ∧ Lib.IsBuffer 104 5 w.heap.size w.heap.size (Lib.byteCells ([34] ++ Sx.quoteB (s.take k))) wr ∧ Below w.heap.size w wr) (fun i _ => s.length - (intOf i).toNat)
  case atStart => exact ⟨0, Nat.zero_le _, rfl, hI1, hb0.trans hb1⟩
  case round =>
    obtain ⟨k, hk, rfl, hI, hb⟩ := hrel
    clear hI0 hb0 hI1 hb1
    by_cases hlt : k < s.length
    · have hl : ([34] ++ Sx.quoteB (s.take k)).length ≤ 4 * s.length + 1 := by
        have h1 := quoteB_le (s.take k)
        rw [List.length_take] at h1
        simp only [List.length_append, List.length_cons, List.length_nil]; omega
      have hn : [34] ++ Sx.quoteB (s.take (k + 1)) = ([34] ++ Sx.quoteB (s.take k)) ++ Sx.quote1 s[k] := by rw [quoteB_succ s k hlt, List.append_assoc]
      have hw := hb.size
      generalize [34] ++ Sx.quoteB (s.take k) = pre at hI hl hn
      have hcc : (ByteArray.mk s.toArray)[k]'hlt = s[k] := by simp [ByteArray.getElem_eq_getElem_data]
      generalize hc : s[k] = c at hn hcc
      have hc256 := UInt8.toNat_lt c
      by_cases h1 : c.toNat = 34
      · have i1 : (c.toNat : Int) = 34 := by omega
        have q1 : Sx.quote1 c = [92, c] := by simp [Sx.quote1, h1]
        go_wp2_with (go_at_call 69; refine (writeByte_z w.heap.size w.heap.size (pre) 92 _ (by decide) _ hI (by omega) (by simp; omega)).mono ?_; rintro e W2 ⟨rfl, hI2, hb2⟩)
        go_wp2_with (go_at_call 69; refine (writeByte_z w.heap.size w.heap.size (pre ++ [92]) c _ (by omega) _ hI2 (by have := hb2.size; omega) (by simp; omega)).mono ?_; rintro e W3 ⟨rfl, hI3, hb3⟩)
        go_wp2
        go_roundw
        case rel => exact ⟨k + 1, by omega, by go_num, by rw [hn]; rw [q1]; simpa using hI3, (hb.trans hb2).trans hb3⟩
        case measure => simp [intOf]; omega
      by_cases h2 : c.toNat = 92
      · have i1 : (c.toNat : Int) = 92 := by omega
        have q1 : Sx.quote1 c = [92, c] := by simp [Sx.quote1, h2]
        go_wp2_with (go_at_call 69; refine (writeByte_z w.heap.size w.heap.size (pre) 92 _ (by decide) _ hI (by omega) (by simp; omega)).mono ?_; rintro e W2 ⟨rfl, hI2, hb2⟩)
        go_wp2_with (go_at_call 69; refine (writeByte_z w.heap.size w.heap.size (pre ++ [92]) c _ (by omega) _ hI2 (by have := hb2.size; omega) (by simp; omega)).mono ?_; rintro e W3 ⟨rfl, hI3, hb3⟩)
        go_wp2
        go_roundw
        case rel => exact ⟨k + 1, by omega, by go_num, by rw [hn]; rw [q1]; simpa using hI3, (hb.trans hb2).trans hb3⟩
        case measure => simp [intOf]; omega
      have n1 : ¬ (c.toNat : Int) = 34 := by omega
      have n2 : ¬ (c.toNat : Int) = 92 := by omega
      have b1 : ((c.toNat : Int) == 34) = false := by simpa using n1
      have b2 : ((c.toNat : Int) == 92) = false := by simpa using n2
      by_cases h3 : 32 ≤ c.toNat ∧ c.toNat ≤ 126
      · have i1 : (32 : Int) ≤ (c.toNat : Int) := by omega
        have i2 : (c.toNat : Int) ≤ 126 := by omega
        have q1 : Sx.quote1 c = [c] := by simp [Sx.quote1, h1, h2, h3]
        go_wp2_with (go_at_call 69; refine (writeByte_z w.heap.size w.heap.size (pre) c _ (by first | rw [hcc] | omega) _ hI (by omega) (by simp; omega)).mono ?_; rintro e W2 ⟨rfl, hI2, hb2⟩)
        go_wp2
        go_roundw
        case rel => exact ⟨k + 1, by omega, by go_num, by rw [hn]; rw [q1]; exact hI2, hb.trans hb2⟩
        case measure => simp [intOf]; omega
      · have q1 : Sx.quote1 c = [92, 120] ++ [Sx.hexd (c.toNat / 16)] ++ [Sx.hexd (c.toNat % 16)] := by
          have : (decide (32 ≤ c.toNat) && decide (c.toNat ≤ 126)) = false := by rw [← Bool.not_eq_true]; simpa using h3
          simp [Sx.quote1, h1, h2, this]
        by_cases h4 : 32 ≤ c.toNat
        · have i1 : (32 : Int) ≤ (c.toNat : Int) := by omega
          have i2 : ¬ (c.toNat : Int) ≤ 126 := by omega
          go_wp2_with (go_at_call 70; refine (writeString_k w.heap.size w.heap.size pre [92, 120] _ hI hw (by simp; omega)).mono ?_; rintro e W2 ⟨rfl, hI2, hb2⟩)
          go_wp2_with (go_at_call 69; refine (writeByte_z w.heap.size w.heap.size (pre ++ [92, 120]) (Sx.hexd (c.toNat / 16)) _ (by rw [hexI _ (by omega)]) _ hI2 (by have := hb2.size; omega) (by simp; omega)).mono ?_; rintro e W3 ⟨rfl, hI3, hb3⟩)
          go_wp2_with (go_at_call 69; refine (writeByte_z w.heap.size w.heap.size (pre ++ [92, 120] ++ [Sx.hexd (c.toNat / 16)]) (Sx.hexd (c.toNat % 16)) _ (by rw [hexI _ (by omega)]) _ hI3 (by have := hb2.size; have := hb3.size; omega) (by simp; omega)).mono ?_; rintro e W4 ⟨rfl, hI4, hb4⟩)
          go_wp2
          go_roundw
          case rel => exact ⟨k + 1, by omega, by go_num, by rw [hn, q1]; simpa using hI4, ((hb.trans hb2).trans hb3).trans hb4⟩
          case measure => simp [intOf]; omega
        · have i1 : ¬ (32 : Int) ≤ (c.toNat : Int) := by omega
          go_wp2_with (go_at_call 70; refine (writeString_k w.heap.size w.heap.size pre [92, 120] _ hI hw (by simp; omega)).mono ?_; rintro e W2 ⟨rfl, hI2, hb2⟩)
          go_wp2_with (go_at_call 69; refine (writeByte_z w.heap.size w.heap.size (pre ++ [92, 120]) (Sx.hexd (c.toNat / 16)) _ (by rw [hexI _ (by omega)]) _ hI2 (by have := hb2.size; omega) (by simp; omega)).mono ?_; rintro e W3 ⟨rfl, hI3, hb3⟩)
          go_wp2_with (go_at_call 69; refine (writeByte_z w.heap.size w.heap.size (pre ++ [92, 120] ++ [Sx.hexd (c.toNat / 16)]) (Sx.hexd (c.toNat % 16)) _ (by rw [hexI _ (by omega)]) _ hI3 (by have := hb2.size; have := hb3.size; omega) (by simp; omega)).mono ?_; rintro e W4 ⟨rfl, hI4, hb4⟩)
          go_wp2
          go_roundw
          case rel => exact ⟨k + 1, by omega, by go_num, by rw [hn, q1]; simpa using hI4, ((hb.trans hb2).trans hb3).trans hb4⟩
          case measure => simp [intOf]; omega
    · have hall : s.take k = s := List.take_of_length_le (by omega)
      rw [hall] at hI
      have hl := quoteB_le s
      go_wp2_with (go_at_call 69; refine (writeByte_z w.heap.size w.heap.size _ 34 _ (by decide) _ hI hb.size (by simp; omega)).mono ?_; rintro e W2 ⟨rfl, hI2, hb2⟩)
      go_wp2_with (go_at_call 71; refine (bufString_k w.heap.size w.heap.size _ _ hI2).mono ?_; rintro e W3 ⟨rfl, n, rfl⟩)
      go_wp2
      go_ret
      exact ⟨by simp [Sx.quoteL], (hb.trans hb2).trans ⟨rfl, rfl, rfl, Nat.le_refl _, fun _ _ => rfl⟩⟩
theorem indexByte_n (s : List UInt8) (b : UInt8) (w : World) : Calls Tryd.prog 100 #[.string ⟨s.toArray⟩, .int .u8 b.toNat] w fun e w' => e = .returned (.int .i64 (Lib.indexByte s b)) ∧ w' = w := by
  have := Any.strings_IndexByte Tryd.indexByteL ⟨s.toArray⟩ b.toNat w
  refine this.mono ?_
  rintro e w' ⟨rfl, rfl⟩
  refine ⟨?_, rfl⟩
  rw [show ((b.toNat : Int).toNat).toUInt8 = b by simp]
/-- what Unquote returns -/
def uqR (o : Option (List UInt8)) : Value := match o with
  | none => .tuple #[.string ⟨#[]⟩, .int .i64 5]
  | some t => .tuple #[.string ⟨t.toArray⟩, .int .i64 0]
theorem indexHex (b : UInt8) : Lib.indexByte [48, 49, 50, 51, 52, 53, 54, 55, 56, 57, 97, 98, 99, 100, 101, 102] b = match Sx.nibI b.toNat with | none => (-1 : Int) | some n => (n : Int) := by
  have h : ∀ n < 256, Lib.indexByte [48, 49, 50, 51, 52, 53, 54, 55, 56, 57, 97, 98, 99, 100, 101, 102] (UInt8.ofNat n) = match Sx.nibI n with | none => (-1 : Int) | some n => (n : Int) := by decide +kernel
  have := h b.toNat (UInt8.toNat_lt b)
  rwa [UInt8.ofNat_toNat] at this
theorem bodyCut (s : List UInt8) (h2 : ¬ s.length < 2) : (ByteArray.mk s.toArray).extract 1 (s.length - 1) = ⟨((s.take (s.length - 1)).drop 1).toArray⟩ := by
  rw [Sx.extract_mk]
theorem decP_plain {c : UInt8} {r : List UInt8} (h : ¬ c.toNat = 92) : Sx.decP (c :: r) = (Sx.decP r).map (c :: ·) := by
  cases r with
  | nil => rw [Sx.decP, Sx.decP]; simp [h]
  | cons z r => rw [Sx.decP]; simp [h]
theorem decP_esc {c : UInt8} {r : List UInt8} (h : c.toNat = 92) : Sx.decP (c :: r) = match r with
    | [] => none
    | d :: m => bif decide (d.toNat = 120) then
        match Sx.escP m with
        | some x => (Sx.decP (m.drop 2)).map (x :: ·)
        | none => none
      else (Sx.decP m).map (d :: ·) := by
  cases r with
  | nil => rw [Sx.decP]; simp [h]
  | cons z r => rw [Sx.decP]; simp only [h, decide_true, cond_true] <;> rfl
theorem byteAt_eq (l : List UInt8) (k : Nat) (h : k < l.length) : (ByteArray.mk l.toArray)[k]'h = l[k] := by simp [ByteArray.getElem_eq_getElem_data]
def finV (s : List UInt8) (o : Option (List UInt8)) : Option (List UInt8) := match o with
  | none => none
  | some t => bif decide (Sx.quoteL t = s) then some t else none
theorem wrapId (z : Int) (h0 : 0 ≤ z) (h1 : z < 9223372036854775808) : IntKind.i64.wrap z = z := by
  simp only [IntKind.wrap, IntKind.signed, IntKind.bits]
  simp
  split <;> omega
def hexVal (b : UInt8) : Int := match Sx.nibI b.toNat with | none => (-1 : Int) | some n => (n : Int)
theorem indexHex_n (b : UInt8) (w : World) : Calls Tryd.prog 100 #[.string ⟨#[48, 49, 50, 51, 52, 53, 54, 55, 56, 57, 97, 98, 99, 100, 101, 102]⟩, .int .u8 b.toNat] w fun e w' => e = .returned (.int .i64 (hexVal b)) ∧ w' = w := by
  have := indexByte_n [48, 49, 50, 51, 52, 53, 54, 55, 56, 57, 97, 98, 99, 100, 101, 102] b w
  rw [indexHex] at this
  exact this
theorem nibI_lt {n a : Nat} (h : Sx.nibI n = some a) : a < 16 := by
  unfold Sx.nibI at h
  split at h
  · cases h; omega
  · split at h
    · cases h; omega
    · cases h
theorem hexOr (n m : Nat) (hn : n < 16) (hm : m < 16) : ((UInt8.ofNat (16 * n + m)).toNat : Int) = bits BinOp.or IntKind.i64 ((n : Int) * 16) (m : Int) % 256 := by
  have : ∀ n < 16, ∀ m < 16, ((UInt8.ofNat (16 * n + m)).toNat : Int) = bits BinOp.or IntKind.i64 ((n : Int) * 16) (m : Int) % 256 := by decide +kernel
  exact this n hn m hm
theorem cutS (s : List UInt8) (h2 : ¬ s.length < 2) : ∃ a z body, body.length + 2 = s.length ∧ (∀ h, (ByteArray.mk s.toArray)[0]'h = a) ∧ (∀ h, (ByteArray.mk s.toArray)[s.length - 1]'h = z) ∧
    (ByteArray.mk s.toArray).extract 1 (s.length - 1) = ⟨body.toArray⟩ ∧
    Sx.unqP s = bif (!decide (a.toNat = 34) || !decide (z.toNat = 34)) then none else finV s (Sx.decP body) := by
  obtain ⟨a, r, rfl⟩ : ∃ a r, s = a :: r := by cases s with | nil => simp at h2 | cons a r => exact ⟨a, r, rfl⟩
  obtain ⟨body, z, rfl⟩ : ∃ b z, r = b ++ [z] := ⟨r.dropLast, r.getLast (by rintro rfl; simp at h2), (List.dropLast_concat_getLast _).symm⟩
  refine ⟨a, z, body, by simp, fun h => by simp [ByteArray.getElem_eq_getElem_data], fun h => by simp [ByteArray.getElem_eq_getElem_data], by rw [bodyCut _ h2]; simp, ?_⟩
  unfold Sx.unqP
  have e1 : ∀ c : UInt8, decide (some c = some 34) = decide (c.toNat = 34) := fun c => by rw [Bool.eq_iff_iff]; simp [← UInt8.toNat_inj]
  have e2 : (a :: (body ++ [z])).getLast? = some z := by rw [← List.cons_append, List.getLast?_append]; rfl
  have e3 : ((a :: (body ++ [z])).take ((a :: (body ++ [z])).length - 1)).drop 1 = body := by simp
  rw [decide_eq_false h2, Bool.false_or, List.head?_cons, e2, e1, e1, e3]
  rfl
theorem unquote_n (s : List UInt8) (hs : s.length ≤ 1000000000) (w : World) :
    Calls Tryd.prog 84 #[.string ⟨s.toArray⟩] w fun e w' => e = .returned (uqR (Sx.unqP s)) ∧ Below w.heap.size w w' := by
  by_cases h2 : s.length < 2
  · have hr : Sx.unqP s = none := by unfold Sx.unqP; simp [h2]
    rw [hr]
    have i2 : (s.length : Int) < 2 := by omega
    go_enter Tryd.func84, Tryd.ntmps84
    go_wp2
    go_ret2
    exact ⟨rfl, Below.refl _ _⟩
  have i2 : ¬ (s.length : Int) < 2 := by omega
  obtain ⟨a, z, body, hbl, ea, ez, hcut, hU⟩ := cutS s h2
  by_cases ha : a.toNat = 34
  case neg =>
    rw [hU, show decide (a.toNat = 34) = false by simpa using ha]
    have n1 : ¬ (a.toNat : Int) = 34 := by omega
    have b1 : ((a.toNat : Int) != 34) = true := by simpa using n1
    go_enter Tryd.func84, Tryd.ntmps84
    go_wp2
    go_ret2
    exact ⟨rfl, Below.refl _ _⟩
  by_cases hz : z.toNat = 34
  case neg =>
    rw [hU, show decide (z.toNat = 34) = false by simpa using hz, Bool.not_false, Bool.or_true]
    have n1 : (a.toNat : Int) = 34 := by omega
    have n2 : ¬ (z.toNat : Int) = 34 := by omega
    have b2 : ((z.toNat : Int) != 34) = true := by simpa using n2
    go_enter Tryd.func84, Tryd.ntmps84
    go_wp2
    go_ret2
    exact ⟨rfl, Below.refl _ _⟩
  rw [hU, decide_eq_true ha, decide_eq_true hz]
  simp only [Bool.not_true, Bool.or_false, cond_false]
  have n1 : (a.toNat : Int) = 34 := by omega
  have n2 : (z.toNat : Int) = 34 := by omega
  have hsl : ∀ W, (Instr.slice 9 (.string ⟨s.toArray⟩) (some (.int .i64 1)) (some (.int .i64 ((s.length : Int) - 1))) none).run Tryd.prog W = .ok (.string ⟨body.toArray⟩) W := fun W => by
    have h0 := run_slice_string (P := Tryd.prog) W 9 ⟨s.toArray⟩ .i64 .i64 1 ((s.length : Int) - 1) Tryd.underlying9 (by omega) (by omega) (by show _ ≤ ((s.toArray.size : Nat) : Int); simp; omega)
    rw [h0, show ((s.length : Int) - 1).toNat = s.length - 1 by omega]
    rw [show (1 : Int).toNat = 1 from rfl, hcut]
  have hI0 : Lib.IsBuffer 104 5 w.heap.size w.heap.size (Lib.byteCells []) (w.alloc (.cells #[.slice none 0 0, .int .i64 0, .int .i8 0] 104)) := Lib.fresh_isBuffer 104 5 w
  have hb0 : Below w.heap.size w (w.alloc (.cells #[.slice none 0 0, .int .i64 0, .int .i8 0] 104)) := (Below.refl _ w).alloc (Nat.le_refl _) _
  clear hU
  go_enter Tryd.func84, Tryd.ntmps84
  go_wp2
  go_loopw [6] (fun i wr => ∃ (k : Nat) (pre : List UInt8), k ≤ body.length ∧ i = .int .i64 k ∧ pre.length ≤ k ∧ Sx.decP body = (Sx.decP (body.drop k)).map (pre ++ ·) ∧ Lib.IsBuffer 104 5 w.heap.size w.heap.size (Lib.byteCells pre) wr ∧ Below w.heap.size w wr) (fun i _ => body.length - (intOf i).toNat)
  case atStart => exact ⟨0, [], Nat.zero_le _, rfl, Nat.le_refl _, by rw [List.drop_zero]; simp, hI0, hb0⟩
  case round =>
    obtain ⟨k, pre, hk, rfl, hpk, hdec, hI, hb⟩ := hrel
    clear hI0 hb0 hsl hcut ea ez n1 n2 ha hz
    have hw := hb.size
    by_cases hlt : k < body.length
    · have hcc : (ByteArray.mk body.toArray)[k]'hlt = body[k] := by simp [ByteArray.getElem_eq_getElem_data]
      have hdr := List.drop_eq_getElem_cons hlt
      generalize body[k] = c at hcc hdr
      by_cases h92 : c.toNat = 92
      · have n1 : (c.toNat : Int) = 92 := by omega
        have b1 : ((c.toNat : Int) != 92) = false := by simpa using n1
        by_cases hl1 : k + 1 < body.length
        case neg =>
          have hN : Sx.decP body = none := by rw [hdec, hdr, List.drop_eq_nil_of_le (by omega), decP_esc h92]; rfl
          have n3 : ¬ (k : Int) + 1 < body.length := by omega
          clear hdec
          go_wp2
          go_ret2
          exact ⟨by first | rfl | (rw [hN]; rfl), hb⟩
        have n3 : (k : Int) + 1 < body.length := by omega
        have hd1 := byteAt_eq body (k + 1) hl1
        have hdr1 := List.drop_eq_getElem_cons hl1
        generalize body[k + 1] = d at hd1 hdr1
        by_cases h120 : d.toNat = 120
        · have n4 : (d.toNat : Int) = 120 := by omega
          by_cases hl3 : k + 3 < body.length
          case neg =>
            have hN : Sx.decP body = none := by
              rw [hdec, hdr, hdr1, decP_esc h92]
              have : Sx.escP (body.drop (k + 1 + 1)) = none := by
                have : (body.drop (k + 1 + 1)).length < 2 := by rw [List.length_drop]; omega
                revert this
                generalize body.drop (k + 1 + 1) = m
                intro this
                match m, this with
                | [], _ => rfl
                | [_], _ => rfl
              simp only [h120, decide_true, cond_true, this]; rfl
            have n5 : (body.length : Int) ≤ (k : Int) + 1 + 2 := by omega
            clear hdec
            go_wp2
            go_ret2
            exact ⟨by first | rfl | (rw [hN]; rfl), hb⟩
          have n5 : ¬ (body.length : Int) ≤ (k : Int) + 1 + 2 := by omega
          have hd2 := byteAt_eq body (k + 2) (by omega)
          have hdr2 := List.drop_eq_getElem_cons (show k + 2 < body.length by omega)
          have hd3 := byteAt_eq body (k + 3) hl3
          have hdr3 := List.drop_eq_getElem_cons hl3
          generalize body[k + 2] = x at hd2 hdr2
          generalize body[k + 3] = y at hd3 hdr3
          have w1 : IntKind.i64.wrap ((k : Int) + 1 + 1) = (k : Int) + 1 + 1 := wrapId _ (by omega) (by omega)
          have w2 : IntKind.i64.wrap ((k : Int) + 1 + 2) = (k : Int) + 1 + 2 := wrapId _ (by omega) (by omega)
          have m7 : (0 : Int) ≤ (k : Int) + 1 + 1 ∧ (k : Int) + 1 + 1 < body.length := ⟨by omega, by omega⟩
          have m8 : (0 : Int) ≤ (k : Int) + 1 + 2 ∧ (k : Int) + 1 + 2 < body.length := ⟨by omega, by omega⟩
          have t1 : ((k : Int) + 1 + 1).toNat = k + 2 := by omega
          have t2 : ((k : Int) + 1 + 2).toNat = k + 3 := by omega
          have hesc : Sx.escP (body.drop (k + 1 + 1)) = Sx.hexB x y := by rw [hdr2, hdr3]; rfl
          have hd4 : (body.drop (k + 1 + 1)).drop 2 = body.drop (k + 4) := by rw [List.drop_drop]
          have hdec4 : Sx.decP body = match Sx.hexB x y with
              | some v => (Sx.decP (body.drop (k + 4))).map fun l => pre ++ v :: l
              | none => none := by
            rw [hdec, hdr, hdr1, decP_esc h92]
            simp only [h120, decide_true, cond_true, hesc, hd4]
            cases Sx.hexB x y with
            | none => rfl
            | some v => simp [Option.map_map, Function.comp_def]
          clear hesc hd4 hdr hdr1 hdr2 hdr3 hdec
          cases hx : Sx.nibI x.toNat with
          | none =>
            have hN : Sx.decP body = none := by rw [hdec4]; simp only [Sx.hexB, hx]
            have v1 : hexVal x = -1 := by unfold hexVal; rw [hx]
            clear hdec4
            go_wp2
            go_region_with (first | (go_at_call_of 100 x; refine (indexHex_n x _).mono ?_; rintro e w' ⟨rfl, rfl⟩) | (go_at_call_of 100 y; refine (indexHex_n y _).mono ?_; rintro e w' ⟨rfl, rfl⟩))
            all_goals go_wp2
            all_goals go_ret2
            all_goals exact ⟨by first | rfl | (rw [hN]; rfl), hb.drew⟩
          | some n =>
            have v1 : hexVal x = (n : Int) := by unfold hexVal; rw [hx]
            have hn := nibI_lt hx
            cases hy : Sx.nibI y.toNat with
            | none =>
              have hN : Sx.decP body = none := by rw [hdec4]; simp only [Sx.hexB, hx, hy]
              have v2 : hexVal y = -1 := by unfold hexVal; rw [hy]
              clear hdec4
              go_wp2
              go_region_with (first | (go_at_call_of 100 x; refine (indexHex_n x _).mono ?_; rintro e w' ⟨rfl, rfl⟩) | (go_at_call_of 100 y; refine (indexHex_n y _).mono ?_; rintro e w' ⟨rfl, rfl⟩))
              all_goals go_wp2
              all_goals go_ret2
              all_goals exact ⟨by first | rfl | (rw [hN]; rfl), hb.drew⟩
            | some m =>
              have v2 : hexVal y = (m : Int) := by unfold hexVal; rw [hy]
              have hm := nibI_lt hy
              have hN : Sx.decP body = (Sx.decP (body.drop (k + 4))).map fun l => pre ++ UInt8.ofNat (16 * n + m) :: l := by rw [hdec4]; simp only [Sx.hexB, hx, hy]
              clear hdec4
              go_wp2
              go_region_with (first | (go_at_call_of 100 x; refine (indexHex_n x _).mono ?_; rintro e w' ⟨rfl, rfl⟩) | (go_at_call_of 100 y; refine (indexHex_n y _).mono ?_; rintro e w' ⟨rfl, rfl⟩))
              all_goals (go_wp2_with (go_at_call 69; refine (writeByte_z w.heap.size w.heap.size pre (UInt8.ofNat (16 * n + m)) _ (hexOr n m hn hm) _ hI.drew hw (by omega)).mono ?_; rintro e W2 ⟨rfl, hI2, hb2⟩))
              all_goals go_wp2
              all_goals go_roundw
              all_goals first | exact ⟨k + 4, pre ++ [UInt8.ofNat (16 * n + m)], by omega, by go_num, by simp; omega, by rw [hN]; simp, hI2, hb.drew.trans hb2⟩ | (simp [intOf]; omega)
        · have n4 : ¬ (d.toNat : Int) = 120 := by omega
          go_wp2_with (go_at_call 69; refine (writeByte_z w.heap.size w.heap.size pre d _ (by first | rw [hd1] | omega) _ hI hw (by omega)).mono ?_; rintro e W2 ⟨rfl, hI2, hb2⟩)
          go_wp2
          go_roundw
          case rel => exact ⟨k + 2, pre ++ [d], by omega, by go_num, by simp; omega, by rw [hdec, hdr, hdr1, decP_esc h92]; simp only [decide_eq_false h120, cond_false, Option.map_map]; congr 1; funext x; simp, hI2, hb.trans hb2⟩
          case measure => simp [intOf]; omega
      · have n1 : ¬ (c.toNat : Int) = 92 := by omega
        have b1 : ((c.toNat : Int) != 92) = true := by simpa using n1
        go_wp2_with (go_at_call 69; refine (writeByte_z w.heap.size w.heap.size pre c _ (by first | rw [hcc] | omega) _ hI hw (by omega)).mono ?_; rintro e W2 ⟨rfl, hI2, hb2⟩)
        go_wp2
        go_roundw
        case rel => exact ⟨k + 1, pre ++ [c], by omega, by go_num, by simp; omega, by rw [hdec, hdr, decP_plain h92, Option.map_map]; congr 1; funext x; simp, hI2, hb.trans hb2⟩
        case measure => simp [intOf]; omega
    · have hall : Sx.decP body = some pre := by
        rw [hdec, List.drop_eq_nil_of_le (by omega)]
        simp [Sx.decP]
      clear hdec
      have hB3 : ∀ (n : Nat) (W3 : World), Below (wr.drewN n).heap.size (wr.drewN n) W3 → Below w.heap.size w W3 := fun n W3 hb3 =>
        ⟨hb3.os.trans hb.os, hb3.tape.trans hb.tape, hb3.output.trans hb.output, Nat.le_trans hb.size hb3.size, fun k hk => (hb3.block k (Nat.lt_of_lt_of_le hk hb.size)).trans (hb.block k hk)⟩
      by_cases hq : Sx.quoteL pre = s
      · have hN : finV s (Sx.decP body) = some pre := by rw [hall]; unfold finV; simp only [hq, decide_true, cond_true]
        have bq : (Sx.quoteL pre == s) = true := by simpa using hq
        clear hall
        go_wp2_with (go_at_call 71; refine (bufString_k w.heap.size w.heap.size _ _ hI).mono ?_; rintro e W2 ⟨rfl, n, rfl⟩)
        go_wp2_with (go_at_call 39; refine (quote_n pre (by omega) _).mono ?_; rintro e W3 ⟨rfl, hb3⟩)
        go_wp2_with (go_at_call 71; refine (bufString_k w.heap.size w.heap.size _ _ ((hI.drewN n).old hb3)).mono ?_; rintro e W4 ⟨rfl, n2, rfl⟩)
        go_wp2
        go_ret2
        exact ⟨by rw [hN]; rfl, (hB3 n W3 hb3).trans ⟨rfl, rfl, rfl, Nat.le_refl _, fun _ _ => rfl⟩⟩
      · have hN : finV s (Sx.decP body) = none := by rw [hall]; unfold finV; simp only [decide_eq_false hq, cond_false]
        have bq : (Sx.quoteL pre == s) = false := by simpa using hq
        clear hall
        go_wp2_with (go_at_call 71; refine (bufString_k w.heap.size w.heap.size _ _ hI).mono ?_; rintro e W2 ⟨rfl, n, rfl⟩)
        go_wp2_with (go_at_call 39; refine (quote_n pre (by omega) _).mono ?_; rintro e W3 ⟨rfl, hb3⟩)
        go_wp2
        go_ret2
        exact ⟨by rw [hN]; rfl, hB3 n W3 hb3⟩
theorem unquote_c (s : List UInt8) (hs : s.length ≤ 1000000000) : Sx.PC Tryd.prog 84 [Sx.S s] (.tup [Sx.S ((Sx.unqV s).getD []), Sx.I .i64 (bif (Sx.unqV s).isSome then 0 else 5)]) := by
  refine Sx.PC.native ⟨_, Tryd.func84, by decide, rfl⟩ fun M ν w vs hf hv => ?_
  obtain ⟨x, rfl, h1⟩ := Sx.reps1 hv
  rw [Sx.rep_S] at h1
  subst h1
  refine Calls.mono (unquote_n s hs w) ?_
  rintro e w' ⟨rfl, hb⟩
  refine ⟨_, rfl, ?_, hb⟩
  rw [← Sx.unqP_eq]
  cases Sx.unqP s with
  | none =>
    simp only [uqR, Sx.T.rep, Sx.T.reps, Sx.Cell.rep, Sx.C.rep, Option.getD_none, Option.isSome_none, cond_false]
    exact ⟨_, rfl, _, _, rfl, rfl, _, _, rfl, rfl, rfl⟩
  | some t =>
    simp only [uqR, Sx.T.rep, Sx.T.reps, Sx.Cell.rep, Sx.C.rep, Option.getD_some, Option.isSome_some, cond_true]
    exact ⟨_, rfl, _, _, rfl, rfl, _, _, rfl, rfl, rfl⟩
end Go.Proofs.YtogponhonjiidaaDoor
set_option linter.unusedSimpArgs false
set_option linter.unusedVariables false
set_option maxRecDepth 20000
set_option maxHeartbeats 16000000
namespace Go.Proofs.YtogponhonjiidaaDoor
open Go Go.Sx
open Nat renaming reduceBEq → zA, reduceBNe → zB, reduceAdd → zC, reduceSub → zD, reduceMul → zE, reduceLeDiff → zF, reduceLT → zG, reduceEqDiff → zH
open Int renaming reduceToNat → zI, reduceLE → zJ, reduceLT → zK, reduceEq → zL
open Bool renaming not_eq_true' → zM, not_eq_false' → zN
/-- the place of the closing quote -/
def qEnd : List UInt8 → Option Nat
  | [] => none
  | c :: l => bif decide ((c.toNat : Int) = 92) then (qEnd (l.drop 1)).map (· + 2) else bif decide ((c.toNat : Int) = 34) then some 0 else (qEnd l).map (· + 1)
termination_by l => l.length
decreasing_by all_goals (simp; try omega)
def qAt (s : List UInt8) (k : Nat) : Option Nat := (qEnd (s.drop k)).map (· + k)
theorem qAt_end {s : List UInt8} {k : Nat} (h : s.length ≤ k) : qAt s k = none := by unfold qAt; rw [List.drop_eq_nil_of_le h, qEnd]; rfl
theorem qAt_esc {s : List UInt8} {k : Nat} {c : UInt8} (h : s[k]? = some c) (hc : decide ((c.toNat : Int) = 92) = true) : qAt s k = qAt s (k + 2) := by
  obtain ⟨hk, rfl⟩ := List.getElem?_eq_some_iff.1 h
  unfold qAt
  rw [List.drop_eq_getElem_cons hk, qEnd, hc, cond_true, List.drop_drop, Option.map_map]
  congr 1
  funext x; simp only [Function.comp]; omega
theorem qAt_quote {s : List UInt8} {k : Nat} {c : UInt8} (h : s[k]? = some c) (h9 : decide ((c.toNat : Int) = 92) = false) (hc : decide ((c.toNat : Int) = 34) = true) : qAt s k = some k := by
  obtain ⟨hk, rfl⟩ := List.getElem?_eq_some_iff.1 h
  unfold qAt
  rw [List.drop_eq_getElem_cons hk, qEnd, h9, hc, cond_true, cond_false]
  simp
theorem qAt_no {s : List UInt8} {k : Nat} {c : UInt8} (h : s[k]? = some c) (h9 : decide ((c.toNat : Int) = 92) = false) (hc : decide ((c.toNat : Int) = 34) = false) : qAt s k = qAt s (k + 1) := by
  obtain ⟨hk, rfl⟩ := List.getElem?_eq_some_iff.1 h
  unfold qAt
  rw [List.drop_eq_getElem_cons hk, qEnd, h9, hc, cond_false, cond_false, Option.map_map]
  congr 1
  funext x; simp only [Function.comp]; omega
theorem qEnd_lt : ∀ (l : List UInt8) (j : Nat), qEnd l = some j → j < l.length
  | [], j, h => by rw [qEnd] at h; cases h
  | c :: l, j, h => by
    rw [qEnd] at h
    have h1 := qEnd_lt (l.drop 1)
    have h2 := qEnd_lt l
    rw [List.length_drop] at h1
    rw [List.length_cons]
    revert h
    cases decide ((c.toNat : Int) = 92) with
    | true =>
      simp only [cond_true]
      intro h
      obtain ⟨x, hx, rfl⟩ := Option.map_eq_some_iff.1 h
      have := h1 x hx; omega
    | false =>
      cases decide ((c.toNat : Int) = 34) with
      | true => simp only [cond_true, cond_false]; intro h; cases h; omega
      | false =>
        simp only [cond_false]
        intro h
        obtain ⟨x, hx, rfl⟩ := Option.map_eq_some_iff.1 h
        have := h2 x hx; omega
termination_by l => l.length
decreasing_by all_goals (simp; try omega)
theorem qAt_bd {s : List UInt8} {k j : Nat} (h : qAt s k = some j) : k ≤ j ∧ j < s.length := by
  unfold qAt at h
  obtain ⟨x, hx, rfl⟩ := Option.map_eq_some_iff.1 h
  have := qEnd_lt _ _ hx
  rw [List.length_drop] at this
  omega
/-- what follows a closing quote at j: token, code -/
def qTok (t : List UInt8) : Tok × Int := match unqV t with
  | none => (zeroTok, 5)
  | some u => bif decide ((64 : Int) < (u.length : Int)) then (zeroTok, 2) else (⟨4, u, 0, 0⟩, 0)
def quoV (s : List UInt8) (i : Nat) : (Tok × Int) × Nat := match qAt s (i + 1) with
  | none => ((zeroTok, 5), i)
  | some j => (qTok ((s.take (j + 1)).drop i), j + 1)
theorem quoted_c (s : List UInt8) (hs : s.length ≤ 1000000000) (i : Nat) (hi : i < s.length) :
    PCB Tryd.prog 65 [Scp pin] [(pin, scB s i)] (TkR (quoV s i).1) [(pin, scB s (quoV s i).2)] := by
  have hw0 := wk64 hi (show s.length ≤ 1000000000000 by omega)
  refine PCB.of_body Tryd.func65 rfl (by decide) Tryd.ntmps65 Tryd.results65 rfl rfl rfl ?_ rfl rfl
  repeat' (first | (simp only [go_sem, zA, zB, zC, zD, zE, zF, zG, reduceCtorEq, zH, zI, zJ, zK, zL, pin, hw0]; all_goals fail_if_success guard_target =ₛ False) | (with_reducible first | ((first | refine seqVC_stepN rfl ?_ | refine AWP.seq ?_ | refine AWP.seqR (by kernel_rfl) ?_ | refine parVC_stepN rfl ?_ | refine parEVC_stepN rfl ?_ | refine genVC_stepN rfl ?_); intro K hK) | ((first | refine hK _ _ _ ?_ | refine hK _ _ ?_ | refine hK _ ?_); clear hK K) | refine seqVC_nil ?_ | refine parVC_nil ?_ | refine parEVC_nil ?_ | refine genVC_nil ?_ | refine AWP.block ?_ | (refine AWP.cond (by with_unfolding_all rfl) ?_ ?_ <;> intro h <;> (try simp only [zM, zN] at h) <;> try exact absurd h (by decide)) | refine AWP.skip ?_ | refine AWP.ret ?_ | refine AWP.exit ?_ | refine AWP.parR mixed (by kernel_rfl) fun K hK => ?_ | refine ⟨(by kernel_rfl : depB _ _ _ = true), ?_⟩ | refine Or.inl ?_) | (clear hK K))
  refine AWP.loopF (X := Nat) (fun k => [(0, Scp 1000000), (4, I .i64 (k : Nat))]) (fun k => [(1000000, scB s i), (2, .cells [.dat (.int .i64 0), .dat (.str []), .dat (.int .i64 0), .dat (.int .i64 0)])]) [2] [] (fun k => i + 1 ≤ k ∧ k ≤ s.length + 1 ∧ qAt s (i + 1) = qAt s k) (fun k => s.length + 1 - k) (i + 1) (by simp only [go_sem, zA, zB, zC, zD, zE, zF, zG, reduceCtorEq, zH, zI, zJ, zK, zL]; exact Gh.to [] (by repeat (first | exact trivial | refine ⟨rfl, ?_⟩ | refine ⟨by (simp only [go_sem, zA, zB, zC, zD, zE, zF, zG, reduceCtorEq, zH, zI, zJ, zK, zL, List.length_append, List.length_map, List.length_cons, List.length_nil, Nat.zero_add]) <;> rfl, ?_⟩)) (by repeat (first | exact trivial | refine ⟨rfl, ?_⟩ | refine ⟨by (simp only [go_sem, zA, zB, zC, zD, zE, zF, zG, reduceCtorEq, zH, zI, zJ, zK, zL, List.length_append, List.length_map, List.length_cons, List.length_nil, Nat.zero_add]) <;> rfl, ?_⟩)) rfl rfl rfl) ?_ ?_
  · exact ⟨Nat.le_refl _, by omega, rfl⟩
  rintro k ⟨hik, hks, hok⟩
  simp only [go_sem, zA, zB, zC, zD, zE, zF, zG, reduceCtorEq, zH, zI, zJ, zK, zL]
  by_cases hlt : k < s.length
  · obtain ⟨c, hc⟩ := byte_at hlt
    have hd : decide ((k : Int) < (s.length : Int)) = true := by rw [decide_eq_true_eq]; omega
    have hw := wk64 hlt (show s.length ≤ 1000000000000 by omega)
    cases h9 : decide ((c.toNat : Int) = 92) with
    | true =>
      rw [qAt_esc hc h9] at hok
      have hw2 : IntKind.i64.wrap (((k + 1 : Nat) : Int) + 1) = ((k + 2 : Nat) : Int) := by rw [w64 (by omega)]; rfl
      repeat' (first | (simp only [go_sem, zA, zB, zC, zD, zE, zF, zG, reduceCtorEq, zH, zI, zJ, zK, zL, pin, hd, h9, hw, hw2]; all_goals fail_if_success guard_target =ₛ False) | (with_reducible first | ((first | refine seqVC_stepN rfl ?_ | refine AWP.seq ?_ | refine AWP.seqR (by kernel_rfl) ?_ | refine parVC_stepN rfl ?_ | refine parEVC_stepN rfl ?_ | refine genVC_stepN rfl ?_); intro K hK) | ((first | refine hK _ _ _ ?_ | refine hK _ _ ?_ | refine hK _ ?_); clear hK K) | refine seqVC_nil ?_ | refine parVC_nil ?_ | refine parEVC_nil ?_ | refine genVC_nil ?_ | refine AWP.block ?_ | (refine AWP.cond (by with_unfolding_all rfl) ?_ ?_ <;> intro h <;> (try simp only [zM, zN] at h) <;> try exact absurd h (by decide)) | refine AWP.skip ?_ | refine AWP.ret ?_ | refine AWP.exit ?_ | refine ⟨by omega, c, hc, ?_⟩ | refine AWP.parR mixed (by kernel_rfl) fun K hK => ?_ | refine ⟨(by kernel_rfl : depB _ _ _ = true), ?_⟩ | refine Or.inl ?_) | (clear hK K))
      all_goals (refine ⟨k + 2, by omega, ⟨by omega, by omega, hok⟩, Gh.to [] (by repeat (first | exact trivial | refine ⟨rfl, ?_⟩ | refine ⟨by (simp only [go_sem, zA, zB, zC, zD, zE, zF, zG, reduceCtorEq, zH, zI, zJ, zK, zL, List.length_append, List.length_map, List.length_cons, List.length_nil, Nat.zero_add]) <;> rfl, ?_⟩)) (by repeat (first | exact trivial | refine ⟨rfl, ?_⟩ | refine ⟨by (simp only [go_sem, zA, zB, zC, zD, zE, zF, zG, reduceCtorEq, zH, zI, zJ, zK, zL, List.length_append, List.length_map, List.length_cons, List.length_nil, Nat.zero_add]) <;> rfl, ?_⟩)) rfl rfl rfl⟩)
    | false =>
      cases h3 : decide ((c.toNat : Int) = 34) with
      | false =>
        rw [qAt_no hc h9 h3] at hok
        repeat' (first | (simp only [go_sem, zA, zB, zC, zD, zE, zF, zG, reduceCtorEq, zH, zI, zJ, zK, zL, pin, hd, h9, h3, hw]; all_goals fail_if_success guard_target =ₛ False) | (with_reducible first | ((first | refine seqVC_stepN rfl ?_ | refine AWP.seq ?_ | refine AWP.seqR (by kernel_rfl) ?_ | refine parVC_stepN rfl ?_ | refine parEVC_stepN rfl ?_ | refine genVC_stepN rfl ?_); intro K hK) | ((first | refine hK _ _ _ ?_ | refine hK _ _ ?_ | refine hK _ ?_); clear hK K) | refine seqVC_nil ?_ | refine parVC_nil ?_ | refine parEVC_nil ?_ | refine genVC_nil ?_ | refine AWP.block ?_ | (refine AWP.cond (by with_unfolding_all rfl) ?_ ?_ <;> intro h <;> (try simp only [zM, zN] at h) <;> try exact absurd h (by decide)) | refine AWP.skip ?_ | refine AWP.ret ?_ | refine AWP.exit ?_ | refine ⟨by omega, c, hc, ?_⟩ | refine AWP.parR mixed (by kernel_rfl) fun K hK => ?_ | refine ⟨(by kernel_rfl : depB _ _ _ = true), ?_⟩ | refine Or.inl ?_) | (clear hK K))
        all_goals (refine ⟨k + 1, by omega, ⟨by omega, by omega, hok⟩, Gh.to [] (by repeat (first | exact trivial | refine ⟨rfl, ?_⟩ | refine ⟨by (simp only [go_sem, zA, zB, zC, zD, zE, zF, zG, reduceCtorEq, zH, zI, zJ, zK, zL, List.length_append, List.length_map, List.length_cons, List.length_nil, Nat.zero_add]) <;> rfl, ?_⟩)) (by repeat (first | exact trivial | refine ⟨rfl, ?_⟩ | refine ⟨by (simp only [go_sem, zA, zB, zC, zD, zE, zF, zG, reduceCtorEq, zH, zI, zJ, zK, zL, List.length_append, List.length_map, List.length_cons, List.length_nil, Nat.zero_add]) <;> rfl, ?_⟩)) rfl rfl rfl⟩)
      | true =>
        rw [qAt_quote hc h9 h3] at hok
        have hu := unquote_c ((s.take (k + 1)).drop i) (by simp only [List.length_drop, List.length_take]; omega)
        have hq : quoV s i = (qTok ((s.take (k + 1)).drop i), k + 1) := by unfold quoV; rw [hok]
        rw [hq]
        unfold qTok
        cases hv : unqV ((s.take (k + 1)).drop i) with
        | none =>
          rw [hv] at hu
          simp only [Option.getD_none, Option.isSome_none, cond_false] at hu
          repeat' (first | (simp only [go_sem, zA, zB, zC, zD, zE, zF, zG, reduceCtorEq, zH, zI, zJ, zK, zL, pin, hd, h9, h3, hw]; all_goals fail_if_success guard_target =ₛ False) | (with_reducible first | ((first | refine seqVC_stepN rfl ?_ | refine AWP.seq ?_ | refine AWP.seqR (by kernel_rfl) ?_ | refine parVC_stepN rfl ?_ | refine parEVC_stepN rfl ?_ | refine genVC_stepN rfl ?_); intro K hK) | ((first | refine hK _ _ _ ?_ | refine hK _ _ ?_ | refine hK _ ?_); clear hK K) | refine seqVC_nil ?_ | refine parVC_nil ?_ | refine parEVC_nil ?_ | refine genVC_nil ?_ | refine AWP.block ?_ | (refine AWP.cond (by with_unfolding_all rfl) ?_ ?_ <;> intro h <;> (try simp only [zM, zN] at h) <;> try exact absurd h (by decide)) | refine AWP.skip ?_ | refine AWP.ret ?_ | refine AWP.exit ?_ | refine ⟨_, hu, ?_⟩ | refine ⟨by omega, c, hc, ?_⟩ | refine ⟨by omega, by omega, by omega, ?_⟩ | refine AWP.parR mixed (by kernel_rfl) fun K hK => ?_ | refine ⟨(by kernel_rfl : depB _ _ _ = true), ?_⟩ | refine Or.inl ?_) | (clear hK K))
          all_goals (refine ⟨by first | trivial | rfl, fun x hx => ?_⟩; simp only [List.mem_singleton] at hx; subst hx; simp)
        | some u =>
          rw [hv] at hu
          simp only [Option.getD_some, Option.isSome_some, cond_true] at hu
          cases h6 : decide ((64 : Int) < (u.length : Int)) with
          | true =>
            repeat' (first | (simp only [go_sem, zA, zB, zC, zD, zE, zF, zG, reduceCtorEq, zH, zI, zJ, zK, zL, pin, hd, h9, h3, h6, hw]; all_goals fail_if_success guard_target =ₛ False) | (with_reducible first | ((first | refine seqVC_stepN rfl ?_ | refine AWP.seq ?_ | refine AWP.seqR (by kernel_rfl) ?_ | refine parVC_stepN rfl ?_ | refine parEVC_stepN rfl ?_ | refine genVC_stepN rfl ?_); intro K hK) | ((first | refine hK _ _ _ ?_ | refine hK _ _ ?_ | refine hK _ ?_); clear hK K) | refine seqVC_nil ?_ | refine parVC_nil ?_ | refine parEVC_nil ?_ | refine genVC_nil ?_ | refine AWP.block ?_ | (refine AWP.cond (by with_unfolding_all rfl) ?_ ?_ <;> intro h <;> (try simp only [zM, zN] at h) <;> try exact absurd h (by decide)) | refine AWP.skip ?_ | refine AWP.ret ?_ | refine AWP.exit ?_ | refine ⟨_, hu, ?_⟩ | refine ⟨by omega, c, hc, ?_⟩ | refine ⟨by omega, by omega, by omega, ?_⟩ | refine AWP.parR mixed (by kernel_rfl) fun K hK => ?_ | refine ⟨(by kernel_rfl : depB _ _ _ = true), ?_⟩ | refine Or.inl ?_) | (clear hK K))
            all_goals (refine ⟨by first | trivial | rfl, fun x hx => ?_⟩; simp only [List.mem_singleton] at hx; subst hx; simp)
          | false =>
            repeat' (first | (simp only [go_sem, zA, zB, zC, zD, zE, zF, zG, reduceCtorEq, zH, zI, zJ, zK, zL, pin, hd, h9, h3, h6, hw]; all_goals fail_if_success guard_target =ₛ False) | (with_reducible first | ((first | refine seqVC_stepN rfl ?_ | refine AWP.seq ?_ | refine AWP.seqR (by kernel_rfl) ?_ | refine parVC_stepN rfl ?_ | refine parEVC_stepN rfl ?_ | refine genVC_stepN rfl ?_); intro K hK) | ((first | refine hK _ _ _ ?_ | refine hK _ _ ?_ | refine hK _ ?_); clear hK K) | refine seqVC_nil ?_ | refine parVC_nil ?_ | refine parEVC_nil ?_ | refine genVC_nil ?_ | refine AWP.block ?_ | (refine AWP.cond (by with_unfolding_all rfl) ?_ ?_ <;> intro h <;> (try simp only [zM, zN] at h) <;> try exact absurd h (by decide)) | refine AWP.skip ?_ | refine AWP.ret ?_ | refine AWP.exit ?_ | refine ⟨_, hu, ?_⟩ | refine ⟨by omega, c, hc, ?_⟩ | refine ⟨by omega, by omega, by omega, ?_⟩ | refine AWP.parR mixed (by kernel_rfl) fun K hK => ?_ | refine ⟨(by kernel_rfl : depB _ _ _ = true), ?_⟩ | refine Or.inl ?_) | (clear hK K))
            all_goals (refine ⟨by first | trivial | rfl, fun x hx => ?_⟩; simp only [List.mem_singleton] at hx; subst hx; simp)
  · have hd : decide ((k : Int) < (s.length : Int)) = false := by rw [decide_eq_false_iff_not]; omega
    rw [qAt_end (s := s) (k := k) (by omega)] at hok
    have hq : quoV s i = ((zeroTok, 5), i) := by unfold quoV; rw [hok]
    repeat' (first | (simp only [go_sem, zA, zB, zC, zD, zE, zF, zG, reduceCtorEq, zH, zI, zJ, zK, zL, pin, hd]; all_goals fail_if_success guard_target =ₛ False) | (with_reducible first | ((first | refine seqVC_stepN rfl ?_ | refine AWP.seq ?_ | refine AWP.seqR (by kernel_rfl) ?_ | refine parVC_stepN rfl ?_ | refine parEVC_stepN rfl ?_ | refine genVC_stepN rfl ?_); intro K hK) | ((first | refine hK _ _ _ ?_ | refine hK _ _ ?_ | refine hK _ ?_); clear hK K) | refine seqVC_nil ?_ | refine parVC_nil ?_ | refine parEVC_nil ?_ | refine genVC_nil ?_ | refine AWP.block ?_ | (refine AWP.cond (by with_unfolding_all rfl) ?_ ?_ <;> intro h <;> (try simp only [zM, zN] at h) <;> try exact absurd h (by decide)) | refine AWP.skip ?_ | refine AWP.ret ?_ | refine AWP.exit ?_ | refine AWP.parR mixed (by kernel_rfl) fun K hK => ?_ | refine ⟨(by kernel_rfl : depB _ _ _ = true), ?_⟩ | refine Or.inl ?_) | (clear hK K))
    all_goals (simp only [hq])
    all_goals (refine ⟨by first | trivial | rfl, fun x hx => ?_⟩; simp only [List.mem_singleton] at hx; subst hx; simp)
theorem cut_le (s p : List UInt8) : (Lib.cut s p).1.length ≤ s.length := by
  unfold Lib.cut
  split
  · simp only [List.length_take]; omega
  · exact Nat.le_refl _
/-- what follows a backquote at i -/
def encV (s : List UInt8) (i : Nat) : (Tok × Int) × Nat :=
  bif (Lib.cut (s.drop (i + 1)) [96]).2.2 then ((⟨5, (Lib.cut (s.drop (i + 1)) [96]).1, 0, 0⟩, 0), i + ((Lib.cut (s.drop (i + 1)) [96]).1.length + 2)) else ((zeroTok, 5), i)
theorem enclosed_c (s : List UInt8) (hs : s.length ≤ 1000000000) (i : Nat) (hi : i < s.length) :
    PCB Tryd.prog 66 [Scp pin] [(pin, scB s i)] (TkR (encV s i).1) [(pin, scB s (encV s i).2)] := by
  have hw0 := wk64 hi (show s.length ≤ 1000000000000 by omega)
  have hcut := cut_c (s.drop (i + 1)) [96] (by rw [List.length_drop]; omega)
  have hlen := cut_le (s.drop (i + 1)) [96]
  rw [List.length_drop] at hlen
  unfold encV
  generalize Lib.cut (s.drop (i + 1)) [96] = r at hcut hlen
  obtain ⟨t, u, ok⟩ := r
  have hw1 : IntKind.i64.wrap ((t.length : Int) + 2) = ((t.length + 2 : Nat) : Int) := by rw [w64 (by simp only at hlen; omega)]; rfl
  have hw2 : IntKind.i64.wrap ((i : Int) + ((t.length + 2 : Nat) : Int)) = ((i + (t.length + 2) : Nat) : Int) := by rw [w64 (by simp only at hlen; omega)]; rfl
  simp only at hcut
  refine PCB.of_body Tryd.func66 rfl (by decide) Tryd.ntmps66 Tryd.results66 rfl rfl rfl ?_ rfl rfl
  cases ok with
  | true =>
    repeat' (first | (simp only [go_sem, zA, zB, zC, zD, zE, zF, zG, reduceCtorEq, zH, zI, zJ, zK, zL, pin, hw0, hw1, hw2, List.take_length]; all_goals fail_if_success guard_target =ₛ False) | (with_reducible first | ((first | refine seqVC_stepN rfl ?_ | refine AWP.seq ?_ | refine AWP.seqR (by kernel_rfl) ?_ | refine parVC_stepN rfl ?_ | refine parEVC_stepN rfl ?_ | refine genVC_stepN rfl ?_); intro K hK) | ((first | refine hK _ _ _ ?_ | refine hK _ _ ?_ | refine hK _ ?_); clear hK K) | refine seqVC_nil ?_ | refine parVC_nil ?_ | refine parEVC_nil ?_ | refine genVC_nil ?_ | refine AWP.block ?_ | (refine AWP.cond (by with_unfolding_all rfl) ?_ ?_ <;> intro h <;> (try simp only [zM, zN] at h) <;> try exact absurd h (by decide)) | refine AWP.skip ?_ | refine AWP.ret ?_ | refine AWP.exit ?_ | refine ⟨_, hcut, ?_⟩ | refine ⟨by omega, by omega, by omega, ?_⟩ | refine AWP.parR mixed (by kernel_rfl) fun K hK => ?_ | refine ⟨(by kernel_rfl : depB _ _ _ = true), ?_⟩ | refine Or.inl ?_) | (clear hK K))
    all_goals (refine ⟨by first | trivial | rfl, fun x hx => ?_⟩; simp only [cond_true, List.mem_singleton] at hx; subst hx; simp)
  | false =>
    repeat' (first | (simp only [go_sem, zA, zB, zC, zD, zE, zF, zG, reduceCtorEq, zH, zI, zJ, zK, zL, pin, hw0, hw1, hw2, List.take_length]; all_goals fail_if_success guard_target =ₛ False) | (with_reducible first | ((first | refine seqVC_stepN rfl ?_ | refine AWP.seq ?_ | refine AWP.seqR (by kernel_rfl) ?_ | refine parVC_stepN rfl ?_ | refine parEVC_stepN rfl ?_ | refine genVC_stepN rfl ?_); intro K hK) | ((first | refine hK _ _ _ ?_ | refine hK _ _ ?_ | refine hK _ ?_); clear hK K) | refine seqVC_nil ?_ | refine parVC_nil ?_ | refine parEVC_nil ?_ | refine genVC_nil ?_ | refine AWP.block ?_ | (refine AWP.cond (by with_unfolding_all rfl) ?_ ?_ <;> intro h <;> (try simp only [zM, zN] at h) <;> try exact absurd h (by decide)) | refine AWP.skip ?_ | refine AWP.ret ?_ | refine AWP.exit ?_ | refine ⟨_, hcut, ?_⟩ | refine ⟨by omega, by omega, by omega, ?_⟩ | refine AWP.parR mixed (by kernel_rfl) fun K hK => ?_ | refine ⟨(by kernel_rfl : depB _ _ _ = true), ?_⟩ | refine Or.inl ?_) | (clear hK K))
    all_goals (refine ⟨by first | trivial | rfl, fun x hx => ?_⟩; simp only [cond_false, List.mem_singleton] at hx; subst hx; simp)
end Go.Proofs.YtogponhonjiidaaDoor
