/-
The library functions that the program calls, by the library's contracts, as the machine's primitives.
-/
import Derived.Shelf.Strings.Repeat
import Derived.Shelf.Strconv.Clone
import Derived.Shelf.SlIterI.Nil
import Derived.Shelf.SortM.Plain
import Derived.Shelf.SortM.SortNone
import Derived.Test.YtdckmenbbbfdaaaGreatDoorProg
import Derived.Test.YtdckmenbbbfdaaaGreatDoorA3
namespace Go.Proofs
open Go.Shelf
def Tryz.laysRepeat_ren : Go.Shelf.Ren := ⟨fun | 105 => 14 | 212 => 44 | 99 => 45 | 165 => 46 | 166 => 47 | 170 => 48 | 169 => 49 | 263 => 98 | 264 => 99 | 206 => 100 | 240 => 101 | 241 => 102 | 276 => 158 | 277 => 159 | n => n, fun | 9 => 9 | 3 => 3 | 4 => 4 | 20 => 20 | 0 => 0 | 46 => 102 | 109 => 103 | 5 => 5 | 72 => 109 | 76 => 113 | 51 => 192 | 146 => 193 | 53 => 195 | 148 => 196 | 70 => 106 | 37 => 107 | 75 => 112 | 127 => 198 | 164 => 291 | 80 => 116 | n => n, fun | n => n⟩
theorem Tryz.laysRepeat : Go.Proofs.Lays.n105 Tryz.prog Tryz.laysRepeat_ren := {
  mixed := by kernel_rfl
  f99 := Tryz.func45.trans (congrArg some (by kernel_rfl))
  f105 := Tryz.func14.trans (congrArg some (by kernel_rfl))
  f165 := Tryz.func46.trans (congrArg some (by kernel_rfl))
  f166 := Tryz.func47.trans (congrArg some (by kernel_rfl))
  f169 := Tryz.func49.trans (congrArg some (by kernel_rfl))
  f170 := Tryz.func48.trans (congrArg some (by kernel_rfl))
  f206 := Tryz.func100.trans (congrArg some (by kernel_rfl))
  f212 := Tryz.func44.trans (congrArg some (by kernel_rfl))
  f240 := Tryz.func101.trans (congrArg some (by kernel_rfl))
  f241 := Tryz.func102.trans (congrArg some (by kernel_rfl))
  f263 := Tryz.func98.trans (congrArg some (by kernel_rfl))
  f264 := Tryz.func99.trans (congrArg some (by kernel_rfl))
  f276 := Tryz.func158.trans (congrArg some (by kernel_rfl))
  f277 := Tryz.func159.trans (congrArg some (by kernel_rfl))
  t0 := Tryz.underlying0
  a0 := Tryz.isAgg0
  z0 := Tryz.sizeOf0
  v0 := Tryz.zeroValue0
  t3 := Tryz.underlying3
  a3 := Tryz.isAgg3
  z3 := Tryz.sizeOf3
  v3 := Tryz.zeroValue3
  t4 := Tryz.underlying4
  a4 := Tryz.isAgg4
  z4 := Tryz.sizeOf4
  v4 := Tryz.zeroValue4
  t5 := Tryz.underlying5
  a5 := Tryz.isAgg5
  z5 := Tryz.sizeOf5
  v5 := Tryz.zeroValue5
  t9 := Tryz.underlying9
  a9 := Tryz.isAgg9
  z9 := Tryz.sizeOf9
  v9 := Tryz.zeroValue9
  t20 := Tryz.underlying20
  a20 := Tryz.isAgg20
  z20 := Tryz.sizeOf20
  v20 := Tryz.zeroValue20
  t37 := Tryz.underlying107
  a37 := Tryz.isAgg107
  z37 := Tryz.sizeOf107
  v37 := Tryz.zeroValue107
  t46 := Tryz.underlying102
  a46 := Tryz.isAgg102
  z46 := Tryz.sizeOf102
  v46 := Tryz.zeroValue102
  t51 := Tryz.underlying192
  a51 := Tryz.isAgg192
  z51 := Tryz.sizeOf192
  v51 := Tryz.zeroValue192
  t53 := Tryz.underlying195
  a53 := Tryz.isAgg195
  z53 := Tryz.sizeOf195
  v53 := Tryz.zeroValue195
  t70 := Tryz.underlying106
  a70 := Tryz.isAgg106
  z70 := Tryz.sizeOf106
  v70 := Tryz.zeroValue106
  t72 := Tryz.underlying109
  a72 := Tryz.isAgg109
  z72 := Tryz.sizeOf109
  v72 := Tryz.zeroValue109
  t75 := Tryz.underlying112
  a75 := Tryz.isAgg112
  z75 := Tryz.sizeOf112
  v75 := Tryz.zeroValue112
  t76 := Tryz.underlying113
  a76 := Tryz.isAgg113
  z76 := Tryz.sizeOf113
  v76 := Tryz.zeroValue113
  t109 := Tryz.underlying103
  a109 := Tryz.isAgg103
  z109 := Tryz.sizeOf103
  v109 := Tryz.zeroValue103
  t127 := Tryz.underlying198
  a127 := Tryz.isAgg198
  z127 := Tryz.sizeOf198
  v127 := Tryz.zeroValue198
  t146 := Tryz.underlying193
  a146 := Tryz.isAgg193
  z146 := Tryz.sizeOf193
  v146 := Tryz.zeroValue193
  t148 := Tryz.underlying196
  a148 := Tryz.isAgg196
  z148 := Tryz.sizeOf196
  v148 := Tryz.zeroValue196
  t164 := Tryz.underlying291
  a164 := Tryz.isAgg291
  z164 := Tryz.sizeOf291
  v164 := Tryz.zeroValue291 }
def Tryz.laysClone_ren : Go.Shelf.Ren := ⟨fun | 316 => 197 | n => n, fun | 9 => 9 | 3 => 3 | 4 => 4 | 37 => 107 | 0 => 0 | 127 => 198 | 5 => 5 | n => n, fun | n => n⟩
theorem Tryz.laysClone : Go.Proofs.LaysM.n316 Tryz.prog Tryz.laysClone_ren := {
  mixed := by kernel_rfl
  f316 := Tryz.func197.trans (congrArg some (by kernel_rfl))
  t0 := Tryz.underlying0
  a0 := Tryz.isAgg0
  z0 := Tryz.sizeOf0
  v0 := Tryz.zeroValue0
  t3 := Tryz.underlying3
  a3 := Tryz.isAgg3
  z3 := Tryz.sizeOf3
  v3 := Tryz.zeroValue3
  t4 := Tryz.underlying4
  a4 := Tryz.isAgg4
  z4 := Tryz.sizeOf4
  v4 := Tryz.zeroValue4
  t9 := Tryz.underlying9
  a9 := Tryz.isAgg9
  z9 := Tryz.sizeOf9
  v9 := Tryz.zeroValue9
  t37 := Tryz.underlying107
  a37 := Tryz.isAgg107
  z37 := Tryz.sizeOf107
  v37 := Tryz.zeroValue107
  t127 := Tryz.underlying198
  a127 := Tryz.isAgg198
  z127 := Tryz.sizeOf198
  v127 := Tryz.zeroValue198
  t5 := Tryz.underlying5
  a5 := Tryz.isAgg5
  z5 := Tryz.sizeOf5
  v5 := Tryz.zeroValue5
  i0 := by kernel_rfl
  i3 := by kernel_rfl
  i4 := by kernel_rfl
  i5 := by kernel_rfl
  i9 := by kernel_rfl
  i37 := by kernel_rfl
  i127 := by kernel_rfl }
def Tryz.keysA_ren : Go.Shelf.Ren := ⟨fun | 7 => 123 | 10 => 193 | n => n, fun | 23 => 89 | 26 => 3 | 3 => 9 | 28 => 248 | 0 => 0 | 27 => 247 | 33 => 36 | 4 => 4 | n => n, fun | n => n⟩
theorem Tryz.keysA : Go.Proofs.SlLaysZI.n7 Tryz.prog Tryz.keysA_ren := {
  mixed := by kernel_rfl
  f7 := ⟨Tryz.f123.name, by decide, Tryz.func123.trans (congrArg some (by kernel_rfl))⟩
  f10 := ⟨Tryz.f193.name, by decide, Tryz.func193.trans (congrArg some (by kernel_rfl))⟩
  t0 := Tryz.underlying0
  a0 := Tryz.isAgg0
  z0 := Tryz.sizeOf0
  v0 := Tryz.zeroValue0
  t4 := Tryz.underlying4
  a4 := Tryz.isAgg4
  z4 := Tryz.sizeOf4
  v4 := Tryz.zeroValue4
  t23 := Tryz.underlying89
  a23 := Tryz.isAgg89
  z23 := Tryz.sizeOf89
  v23 := Tryz.zeroValue89
  t26 := Tryz.underlying3
  a26 := Tryz.isAgg3
  z26 := Tryz.sizeOf3
  v26 := Tryz.zeroValue3
  t27 := Tryz.underlying247
  a27 := Tryz.isAgg247
  z27 := Tryz.sizeOf247
  v27 := Tryz.zeroValue247
  t28 := Tryz.underlying248
  a28 := Tryz.isAgg248
  z28 := Tryz.sizeOf248
  v28 := Tryz.zeroValue248
  t33 := Tryz.underlying36
  a33 := Tryz.isAgg36
  z33 := Tryz.sizeOf36
  v33 := Tryz.zeroValue36 }
def Tryz.sortedA_ren : Go.Shelf.Ren := ⟨fun | 6 => 122 | 8 => 192 | 9 => 53 | 11 => 232 | 13 => 107 | 12 => 106 | 23 => 174 | 24 => 175 | 14 => 165 | 15 => 166 | 16 => 167 | 17 => 168 | 18 => 169 | 19 => 170 | 20 => 171 | 21 => 172 | 22 => 173 | 25 => 221 | 26 => 222 | 27 => 223 | 28 => 224 | 29 => 225 | 30 => 226 | 31 => 254 | n => n, fun | 26 => 3 | 28 => 248 | 24 => 40 | 0 => 0 | 3 => 3 | 37 => 102 | 48 => 192 | 50 => 195 | 4 => 4 | 40 => 305 | 39 => 304 | 45 => 154 | 5 => 5 | 9 => 9 | 51 => 366 | 55 => 370 | 57 => 398 | 58 => 399 | 33 => 36 | n => n, fun | n => n⟩
theorem Tryz.sortedA : Go.Proofs.SlLaysZI.n6 Tryz.prog Tryz.sortedA_ren := {
  mixed := by kernel_rfl
  f6 := ⟨Tryz.f122.name, by decide, Tryz.func122.trans (congrArg some (by kernel_rfl))⟩
  f8 := ⟨Tryz.f192.name, by decide, Tryz.func192.trans (congrArg some (by kernel_rfl))⟩
  f11 := ⟨Tryz.f232.name, by decide, Tryz.func232.trans (congrArg some (by kernel_rfl))⟩
  t0 := Tryz.underlying0
  a0 := Tryz.isAgg0
  z0 := Tryz.sizeOf0
  v0 := Tryz.zeroValue0
  t24 := Tryz.underlying40
  a24 := Tryz.isAgg40
  z24 := Tryz.sizeOf40
  v24 := Tryz.zeroValue40
  t26 := Tryz.underlying3
  a26 := Tryz.isAgg3
  z26 := Tryz.sizeOf3
  v26 := Tryz.zeroValue3
  t28 := Tryz.underlying248
  a28 := Tryz.isAgg248
  z28 := Tryz.sizeOf248
  v28 := Tryz.zeroValue248
  i26 := by kernel_rfl }
def Tryz.sortA_ren : Go.Shelf.Ren := ⟨fun | 5 => 53 | 8 => 107 | 7 => 106 | 19 => 174 | 20 => 175 | 10 => 165 | 11 => 166 | 12 => 167 | 13 => 168 | 14 => 169 | 15 => 170 | 16 => 171 | 17 => 172 | 18 => 173 | 30 => 221 | 31 => 222 | 32 => 223 | 33 => 224 | 34 => 225 | 35 => 226 | 40 => 254 | n => n, fun | 23 => 40 | 25 => 3 | 3 => 3 | 32 => 102 | 22 => 40 | 0 => 0 | 44 => 192 | 46 => 195 | 4 => 4 | 36 => 305 | 35 => 304 | 41 => 154 | 5 => 5 | 9 => 9 | 53 => 366 | 57 => 370 | 63 => 398 | 64 => 399 | n => n, fun | n => n⟩
theorem Tryz.sortA : Go.Proofs.SlLaysM.n5 Tryz.prog Tryz.sortA_ren := {
  mixed := by kernel_rfl
  f5 := ⟨Tryz.f53.name, by decide, Tryz.func53.trans (congrArg some (by kernel_rfl))⟩
  f7 := ⟨Tryz.f106.name, by decide, Tryz.func106.trans (congrArg some (by kernel_rfl))⟩
  f8 := Tryz.func107.trans (congrArg some (by kernel_rfl))
  f10 := ⟨Tryz.f165.name, by decide, Tryz.func165.trans (congrArg some (by kernel_rfl))⟩
  f11 := ⟨Tryz.f166.name, by decide, Tryz.func166.trans (congrArg some (by kernel_rfl))⟩
  f12 := ⟨Tryz.f167.name, by decide, Tryz.func167.trans (congrArg some (by kernel_rfl))⟩
  f13 := ⟨Tryz.f168.name, by decide, Tryz.func168.trans (congrArg some (by kernel_rfl))⟩
  f14 := ⟨Tryz.f169.name, by decide, Tryz.func169.trans (congrArg some (by kernel_rfl))⟩
  f15 := ⟨Tryz.f170.name, by decide, Tryz.func170.trans (congrArg some (by kernel_rfl))⟩
  f16 := ⟨Tryz.f171.name, by decide, Tryz.func171.trans (congrArg some (by kernel_rfl))⟩
  f17 := ⟨Tryz.f172.name, by decide, Tryz.func172.trans (congrArg some (by kernel_rfl))⟩
  f18 := ⟨Tryz.f173.name, by decide, Tryz.func173.trans (congrArg some (by kernel_rfl))⟩
  f19 := Tryz.func174.trans (congrArg some (by kernel_rfl))
  f20 := Tryz.func175.trans (congrArg some (by kernel_rfl))
  f30 := ⟨Tryz.f221.name, by decide, Tryz.func221.trans (congrArg some (by kernel_rfl))⟩
  f31 := Tryz.func222.trans (congrArg some (by kernel_rfl))
  f32 := Tryz.func223.trans (congrArg some (by kernel_rfl))
  f33 := ⟨Tryz.f224.name, by decide, Tryz.func224.trans (congrArg some (by kernel_rfl))⟩
  f34 := ⟨Tryz.f225.name, by decide, Tryz.func225.trans (congrArg some (by kernel_rfl))⟩
  f35 := ⟨Tryz.f226.name, by decide, Tryz.func226.trans (congrArg some (by kernel_rfl))⟩
  f40 := ⟨Tryz.f254.name, by decide, Tryz.func254.trans (congrArg some (by kernel_rfl))⟩
  t0 := Tryz.underlying0
  a0 := Tryz.isAgg0
  z0 := Tryz.sizeOf0
  v0 := Tryz.zeroValue0
  t3 := Tryz.underlying3
  a3 := Tryz.isAgg3
  z3 := Tryz.sizeOf3
  v3 := Tryz.zeroValue3
  t4 := Tryz.underlying4
  a4 := Tryz.isAgg4
  z4 := Tryz.sizeOf4
  v4 := Tryz.zeroValue4
  t5 := Tryz.underlying5
  a5 := Tryz.isAgg5
  z5 := Tryz.sizeOf5
  v5 := Tryz.zeroValue5
  t9 := Tryz.underlying9
  a9 := Tryz.isAgg9
  z9 := Tryz.sizeOf9
  v9 := Tryz.zeroValue9
  t22 := Tryz.underlying40
  a22 := Tryz.isAgg40
  z22 := Tryz.sizeOf40
  v22 := Tryz.zeroValue40
  t23 := Tryz.underlying40
  a23 := Tryz.isAgg40
  z23 := Tryz.sizeOf40
  v23 := Tryz.zeroValue40
  t25 := Tryz.underlying3
  a25 := Tryz.isAgg3
  z25 := Tryz.sizeOf3
  v25 := Tryz.zeroValue3
  t32 := Tryz.underlying102
  a32 := Tryz.isAgg102
  z32 := Tryz.sizeOf102
  v32 := Tryz.zeroValue102
  t35 := Tryz.underlying304
  a35 := Tryz.isAgg304
  z35 := Tryz.sizeOf304
  v35 := Tryz.zeroValue304
  t36 := Tryz.underlying305
  a36 := Tryz.isAgg305
  z36 := Tryz.sizeOf305
  v36 := Tryz.zeroValue305
  t41 := Tryz.underlying154
  a41 := Tryz.isAgg154
  z41 := Tryz.sizeOf154
  v41 := Tryz.zeroValue154
  t44 := Tryz.underlying192
  a44 := Tryz.isAgg192
  z44 := Tryz.sizeOf192
  v44 := Tryz.zeroValue192
  t46 := Tryz.underlying195
  a46 := Tryz.isAgg195
  z46 := Tryz.sizeOf195
  v46 := Tryz.zeroValue195
  t53 := Tryz.underlying366
  a53 := Tryz.isAgg366
  z53 := Tryz.sizeOf366
  v53 := Tryz.zeroValue366
  t57 := Tryz.underlying370
  a57 := Tryz.isAgg370
  z57 := Tryz.sizeOf370
  v57 := Tryz.zeroValue370
  t63 := Tryz.underlying398
  a63 := Tryz.isAgg398
  z63 := Tryz.sizeOf398
  v63 := Tryz.zeroValue398
  t64 := Tryz.underlying399
  a64 := Tryz.isAgg399
  z64 := Tryz.sizeOf399
  v64 := Tryz.zeroValue399 }
end Go.Proofs

namespace Go.Proofs
open Go.RowKit Go.Maps Go.Sort Go.Shelf Go.AM

theorem Tryz.extra : Builder.Extra Tryz.prog Tryz.laysRepeat_ren where
  sizeBuilder := by kernel_rfl
  liesBuilder := by kernel_rfl
  t5 := Tryz.laysRepeat.t5
  a5 := Tryz.laysRepeat.a5
  z5 := Tryz.laysRepeat.z5
  v5 := Tryz.laysRepeat.v5
  infoByte := by kernel_rfl
  cellsByte := by kernel_rfl
  sizeByte := by kernel_rfl
  neB5 := by decide

theorem Tryz.repL_eq (l : List UInt8) : ∀ c, Lib.repeatL l c = repL l c
  | 0 => rfl
  | c + 1 => by simp [Lib.repeatL, repL, Tryz.repL_eq l c]

theorem Tryz.pr_clone : PrimOk Tryz.prog 197 (retP cloneP) :=
  PrimOk.clone ⟨_, Tryz.func197, by kernel_rfl, by kernel_rfl⟩ fun s w h => Any.stringslite_Clone Tryz.laysClone s w h

theorem Tryz.pr_repeat : PrimOk Tryz.prog 14 (retP repeatP) :=
  PrimOk.repeat ⟨_, Tryz.func14, by kernel_rfl, by kernel_rfl⟩ fun s c w h1 h2 => by
    have h := Any.strings_Repeat Tryz.laysRepeat Tryz.extra s c w h1 h2
    rw [Tryz.repL_eq] at h
    exact h

theorem Tryz.pr_keys : PrimOk Tryz.prog 123 (retP (keysP 193)) :=
  PrimOk.keys (t := 89) ⟨_, Tryz.func123, by kernel_rfl, by kernel_rfl⟩ fun mb w => callsIn_wide.1 (AnyZI.keys_in Tryz.keysA Fence.wide 5 trivial rfl mb w)

theorem Tryz.sortsA (m : Nat) : AnyZI.SortsIn Tryz.prog Tryz.sortedA_ren Fence.wide m :=
  ⟨fun blk off cap ss W hH hblk hsz => callsIn_wide.2 (AnyM.slices_Sort_int Tryz.sortA blk off cap ss W hH hblk hsz),
   fun p cap W => callsIn_wide.2 (AnyM.slices_Sort_int_none Tryz.sortA p cap W)⟩

theorem Tryz.pr_sorted : PrimOk Tryz.prog 122 (retP (sortedP 193)) := by
  refine PrimOk.sorted (t := 3) ⟨_, Tryz.func122, by kernel_rfl, by kernel_rfl⟩ (fun Bm w hlt hcell => ?_) (fun Bm b es clock w hlt hcell hb hsz hst hkeys => ?_)
  · have hseq : SeqGives Fence.wide 2 Tryz.prog 193 #[.pointer (some ⟨Bm, 0, none⟩)] encZ (fun ss : List Int => ss = []) 0 w :=
      AnyZI.keys_gives_nil (ρ := Tryz.keysA_ren) { Tryz.keysA with } Fence.wide _ trivial rfl Bm w hlt hcell
    have cS := AnyZI.sorted_in Tryz.sortedA Fence.wide 5 trivial trivial trivial trivial rfl (by omega) (Tryz.sortsA _) (Go.Proofs.enters_of Tryz.func53 (by kernel_rfl) rfl) 193 #[.pointer (some ⟨Bm, 0, none⟩)] trivial (Go.Proofs.enters_of Tryz.func193 (by kernel_rfl) rfl) _ _ (by decide) (by decide) _ hseq
    change CallsIn _ _ Tryz.prog 122 _ _ _ at cS
    refine (callsIn_wide.1 cS).mono ?_
    rintro e w' ⟨v, ss, q1, q2, _, q4, q5⟩
    rw [q4.2 q2] at q1
    exact ⟨q1, q5⟩
  · have hk : Tryz.prog.underlying 3 = some (.int .i64) := Tryz.underlying3
    have hko : ∀ x ∈ es.toList, WideElems.rd Tryz.prog 3 (fun _ => some ((.nil : DataW Unit), ([] : List MemPlace))) x = some (.int .i64 (keyI x.key), .nil) := by
      intro x hx
      obtain ⟨n, h1, h2, h3⟩ := hkeys x hx
      have hw : (Lit.int .i64 n).wf = true := by
        simp only [Lit.wf, IntKind.min, IntKind.max, IntKind.signed, IntKind.bits, Bool.and_eq_true, decide_eq_true_eq]
        exact ⟨by simpa using h2, by simpa using h3⟩
      simp only [WideElems.rd, keyOf, mapKey, hk, h1, hw, and_self, if_true, Option.bind_some, Option.map_some, keyI]
    have hown : w.ownsMap Tryz.prog 3 (fun _ => some ((.nil : DataW Unit), ([] : List MemPlace))) b es.size (.map ((es.toList.map (WideElems.rg Tryz.prog 3 (fun _ => some ((.nil : DataW Unit), ([] : List MemPlace))))).foldr DataW.insert [])) :=
      ⟨es, clock, hb, ⟨by have : maxLen = 9223372036854775807 := by decide
                          omega, hst, fun x hx => ⟨_, hko x hx⟩⟩, Nat.le_refl _, rfl⟩
    have hsize : Maps.size (H := Unit) (.map ((es.toList.map (WideElems.rg Tryz.prog 3 (fun _ => some ((.nil : DataW Unit), ([] : List MemPlace))))).foldr DataW.insert [])) = es.size := by
      rw [Maps.size_eq, Go.length_sorted]; simp
    have hints : (intKeys (H := Unit) (.map ((es.toList.map (WideElems.rg Tryz.prog 3 (fun _ => some ((.nil : DataW Unit), ([] : List MemPlace))))).foldr DataW.insert []))).Perm (es.toList.map fun x => keyI x.key) := by
      have hp := (WideShapes.sorted_perm (es.toList.map (WideElems.rg Tryz.prog 3 (fun _ => some ((.nil : DataW Unit), ([] : List MemPlace))))))
      refine (hp.map fun p => Go.intOf p.1).trans ?_
      rw [List.map_map]
      refine List.Perm.of_eq (List.map_congr_left fun x hx => ?_)
      have := WideElems.rg_of (hko x hx)
      simp [this, Go.intOf]
    have hseq : SeqGives Fence.wide 2 Tryz.prog 193 #[.pointer (some ⟨Bm, 0, none⟩)] encZ (fun ss => ss.Perm (intKeys (H := Unit) (.map ((es.toList.map (WideElems.rg Tryz.prog 3 (fun _ => some ((.nil : DataW Unit), ([] : List MemPlace))))).foldr DataW.insert [])))) (Maps.size (H := Unit) (.map ((es.toList.map (WideElems.rg Tryz.prog 3 (fun _ => some ((.nil : DataW Unit), ([] : List MemPlace))))).foldr DataW.insert []))) w :=
      AnyZI.keys_gives (ρ := Tryz.keysA_ren) { Tryz.keysA with } Fence.wide _ trivial rfl (by omega) Bm b es.size _ w hlt hcell hown
    have cS := AnyZI.sorted_in Tryz.sortedA Fence.wide 5 trivial trivial trivial trivial rfl (by omega) (Tryz.sortsA _) (Go.Proofs.enters_of Tryz.func53 (by kernel_rfl) rfl) 193 #[.pointer (some ⟨Bm, 0, none⟩)] trivial (Go.Proofs.enters_of Tryz.func193 (by kernel_rfl) rfl) _ _
      (by rw [hsize]; have : maxLen = 9223372036854775807 := by decide
          omega) (by rw [hsize]; omega) _ hseq
    change CallsIn _ _ Tryz.prog 122 _ _ _ at cS
    refine (callsIn_wide.1 cS).mono ?_
    rintro e w' ⟨v, ss, q1, q2, q3, q4, q5⟩
    exact ⟨v, ss, q1, q2.trans hints, q3, q4, q5⟩

noncomputable def Tryz.base : Prims := fun f =>
  bif Nat.beq f 197 then some (retP cloneP)
  else bif Nat.beq f 14 then some (retP repeatP)
  else bif Nat.beq f 123 then some (retP (keysP 193))
  else bif Nat.beq f 122 then some (retP (sortedP 193))
  else none

theorem Tryz.base_ok : ∀ f p, Tryz.base f = some p → PrimOk Tryz.prog f p := by
  intro f p h
  unfold Tryz.base at h
  simp only [Bool.cond_eq_ite] at h
  split at h
  · rename_i e; rw [Nat.eq_of_beq_eq_true e]; injection h with h; subst h; exact Tryz.pr_clone
  · split at h
    · rename_i e; rw [Nat.eq_of_beq_eq_true e]; injection h with h; subst h; exact Tryz.pr_repeat
    · split at h
      · rename_i e; rw [Nat.eq_of_beq_eq_true e]; injection h with h; subst h; exact Tryz.pr_keys
      · split at h
        · rename_i e; rw [Nat.eq_of_beq_eq_true e]; injection h with h; subst h; exact Tryz.pr_sorted
        · exact absurd h (by simp)
end Go.Proofs
