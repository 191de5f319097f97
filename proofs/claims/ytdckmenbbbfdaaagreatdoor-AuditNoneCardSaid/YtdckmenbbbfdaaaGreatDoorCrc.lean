/-
The check sum of texts: what the program's own loop over bytes computes.
-/
import Derived.Test.YtdckmenbbbfdaaaGreatDoorOk
import Derived.Test.YtdckmenbbbfdaaaGreatDoorA3
namespace Go.Proofs.YtdckmenbbbfdaaaGreatDoor
open Go Go.AM
set_option maxRecDepth 100000
noncomputable def cOut : Code := cB (cB (cR (cL (cR (cR (bodyOf Tryz.f191))))))
noncomputable def cIn : Code := cB (cB (cR (cR (cB (cL (cR (cR cOut)))))))

theorem tb (t : Nat) (h : t ∈ [0, 2, 3, 4, 6, 7, 9, 10, 11, 12, 16, 17, 18]) : Nat.testBit 466653 t = true := by
  simp only [List.mem_cons, List.mem_nil_iff, or_false] at h
  rcases h with h | h | h | h | h | h | h | h | h | h | h | h | h <;> subst h <;> decide
section
variable (base : Prims) (l : List Ent) (ck : CallK) (an : Ann)
theorem ty3 : (cfgB base l).ty 3 = some ⟨.int .i64, 1, 8, .int .i64 0⟩ := by kernel_rfl
theorem ty9 : (cfgB base l).ty 9 = some ⟨.str, 1, 16, .str []⟩ := by kernel_rfl
theorem ty5 : (cfgB base l).ty 5 = some ⟨.int .u8, 1, 1, .int .u8 0⟩ := by kernel_rfl
theorem ty192 : (cfgB base l).ty 192 = some ⟨.int .u32, 1, 4, .int .u32 0⟩ := by kernel_rfl
theorem ty376 : (cfgB base l).ty 376 = some ⟨.array 16 192, 16, 64, .agg (rpt 16 (.int .u32 0) [])⟩ := by kernel_rfl
theorem ty46 : (cfgB base l).ty 46 = some ⟨.slice 9, 1, 24, .slice none 0 0 0 true⟩ := by kernel_rfl

theorem step7 (blk : Nat) (fr : Fr) (h : AHeap) (i : Nat) (hk : an.keep = some 466653) (h7 : fr.get 17 = .int .i64 (.ofNat i)) :
    ∃ fr', exec (cfgB base l) ck an blk (cL (cB (cL (cR (cR cIn))))) fr h = .ret (.normal, fr', h) ∧ fr'.get 7 = .int .i64 (.ofNat i) ∧ ∀ t, t ∈ [0, 2, 3, 4, 6, 9, 10, 11, 16, 17] → fr'.get t = fr.get t := by
  simp only [cIn, cOut, cB, cL, cR, bodyOf, Tryz.f191]
  simp [-Int.ofNat_eq_natCast, exec, execOps, wantedA, stepOp, isE, stepN, readOp, rdC, RdW.run, ev, putD, Fr.get_put, hk, get_keepM, tb 0 (by decide), tb 2 (by decide), tb 3 (by decide), tb 4 (by decide), tb 6 (by decide), tb 7 (by decide), tb 9 (by decide), tb 10 (by decide), tb 11 (by decide), tb 16 (by decide), tb 17 (by decide), h7, Comp.of]

theorem step8 (blk : Nat) (fr : Fr) (h : AHeap) (x i : Nat) (s : List UInt8) (b : UInt8) (hk : an.keep = some 466653) (hx : x < 4294967296) (hb : s[i]? = some b) (h3 : fr.get 3 = .int .u32 (.ofNat x)) (h6 : fr.get 6 = .str s) (h7 : fr.get 7 = .int .i64 (.ofNat i)) :
    ∃ fr', exec (cfgB base l) ck an blk (cL (cR (cB (cL (cR (cR cIn)))))) fr h = .ret (.normal, fr', h) ∧ fr'.get 3 = .int .u32 (.ofNat (Nat.xor x b.toNat)) ∧ ∀ t, t ∈ [0, 2, 4, 6, 9, 10, 11, 16, 17] → fr'.get t = fr.get t := by
  simp only [cIn, cOut, cB, cL, cR, bodyOf, Tryz.f191]
  simp [-Int.ofNat_eq_natCast, exec, execOps, wantedA, stepOp, isE, stepN, readOp, rdC, RdW.run, readOpS, ev, putD, Fr.get_put, hk, get_keepM, tb 0 (by decide), tb 2 (by decide), tb 3 (by decide), tb 4 (by decide), tb 6 (by decide), tb 9 (by decide), tb 10 (by decide), tb 11 (by decide), tb 16 (by decide), tb 17 (by decide), h3, h6, h7, convA, indexA, idx_nat, hb, binF, binI, op_xor hx (u8_lt b), cv_u8, ty9 base l, ty5 base l, ty192 base l, Comp.of]

theorem step6 (blk : Nat) (fr : Fr) (h : AHeap) (i n : Nat) (hk : an.keep = some 466653) (h7 : fr.get 17 = .int .i64 (.ofNat i)) (h8 : fr.get 16 = .int .i64 (.ofNat n)) :
    ∃ fr', exec (cfgB base l) ck an blk (cL cIn) fr h = .ret (.normal, fr', h) ∧ fr'.get 18 = .bool (decide (i < n)) ∧ ∀ t, t ∈ [0, 2, 3, 4, 6, 9, 10, 11, 16, 17] → fr'.get t = fr.get t := by
  simp only [cIn, cOut, cB, cL, cR, bodyOf, Tryz.f191]
  simp [-Int.ofNat_eq_natCast, exec, execOps, wantedA, stepOp, isE, stepN, readOp, rdC, RdW.run, ev, putD, Fr.get_put, hk, get_keepM, tb 0 (by decide), tb 2 (by decide), tb 3 (by decide), tb 4 (by decide), tb 6 (by decide), tb 9 (by decide), tb 10 (by decide), tb 11 (by decide), tb 16 (by decide), tb 17 (by decide), tb 18 (by decide), h7, h8, binF, binI, op_lss, Comp.of]

theorem step11 (blk : Nat) (fr : Fr) (h : AHeap) (i : Nat) (hk : an.keep = some 466653) (hi : i < 4611686018427387904) (h7 : fr.get 17 = .int .i64 (.ofNat i)) :
    ∃ fr', exec (cfgB base l) ck an blk (cR (cR (cR cIn))) fr h = .ret (.normal, fr', h) ∧ fr'.get 17 = .int .i64 (.ofNat (i + 1)) ∧ ∀ t, t ∈ [0, 2, 3, 4, 6, 9, 10, 11, 16] → fr'.get t = fr.get t := by
  simp only [cIn, cOut, cB, cL, cR, bodyOf, Tryz.f191]
  simp [-Int.ofNat_eq_natCast, exec, execOps, wantedA, stepOp, isE, stepN, readOp, rdC, RdW.run, ev, constAV, cellAV, putD, Fr.get_put, hk, get_keepM, tb 0 (by decide), tb 2 (by decide), tb 3 (by decide), tb 4 (by decide), tb 6 (by decide), tb 9 (by decide), tb 10 (by decide), tb 11 (by decide), tb 16 (by decide), tb 17 (by decide), h7, binF, binI, op_inc hi, Comp.of]

theorem step9 (c : Code) (hc : c = cL (cR (cR (cB (cL (cR (cR cIn)))))) ∨ c = cR (cR (cR (cB (cL (cR (cR cIn))))))) (blk : Nat) (fr : Fr) (h : AHeap) (x T : Nat) (hk : an.keep = some 466653) (hx : x < 4294967296) (h3 : fr.get 3 = .int .u32 (.ofNat x)) (h4 : fr.get 4 = .ptr (some (T, 0))) (hT : h.get T = some (.cells tabAV false)) :
    ∃ fr', exec (cfgB base l) ck an blk c fr h = .ret (.normal, fr', h) ∧ fr'.get 3 = .int .u32 (.ofNat (crcHalf x)) ∧ ∀ t, t ∈ [0, 2, 4, 6, 9, 10, 11, 16, 17] → fr'.get t = fr.get t := by
  have hm : Nat.mod x 16 < 16 := Nat.mod_lt _ (by omega)
  have hg := tab_get _ hm
  have hd : Nat.div x 16 < 4294967296 := Nat.lt_of_le_of_lt (Nat.div_le_self _ _) hx
  rcases hc with rfl | rfl <;>
  · simp only [cIn, cOut, cB, cL, cR, bodyOf, Tryz.f191]
    simp [-Int.ofNat_eq_natCast, exec, execOps, wantedA, stepOp, isE, stepN, readOp, rdC, RdW.run, readOpS, ev, constAV, cellAV, putD, Fr.get_put, hk, get_keepM, tb 0 (by decide), tb 2 (by decide), tb 3 (by decide), tb 4 (by decide), tb 6 (by decide), tb 9 (by decide), tb 10 (by decide), tb 11 (by decide), tb 16 (by decide), tb 17 (by decide), h3, h4, indexAddrA, idx_nat, hm, binF, binI, op_shr, op_and hx, op_xor hd (tab_lt _), ty192 base l, ty376 base l, rLoad, ldVar, TD.isAgg, hT, hg, Comp.of, crcHalf]

/-- One round of the inner loop. -/
theorem inner_step (fr : Fr) (h : AHeap) (x i n T : Nat) (s : List UInt8) (b : UInt8) (hk : an.keep = some 466653) (hx : x < 4294967296) (hi : i < 4611686018427387904) (hn : i < n) (hb : s[i]? = some b)
    (h3 : fr.get 3 = .int .u32 (.ofNat x)) (h4 : fr.get 4 = .ptr (some (T, 0))) (hT : h.get T = some (.cells tabAV false)) (h6 : fr.get 6 = .str s) (h7 : fr.get 17 = .int .i64 (.ofNat i)) (h8 : fr.get 16 = .int .i64 (.ofNat n)) :
    ∃ fr', exec (cfgB base l) ck an 2 cIn fr h = .ret (.normal, fr', h) ∧ fr'.get 3 = .int .u32 (.ofNat (crcByte x b.toNat)) ∧ fr'.get 17 = .int .i64 (.ofNat (i + 1)) ∧ ∀ t, t ∈ [0, 2, 4, 6, 9, 10, 11, 16] → fr'.get t = fr.get t := by
  obtain ⟨f6, e6, a6, k6⟩ := step6 base l ck an 2 fr h i n hk h7 h8
  obtain ⟨f7, e7, a7, k7⟩ := step7 base l ck an 3 f6 h i hk (by rw [k6 17 (by decide)]; exact h7)
  obtain ⟨f8, e8, a8, k8⟩ := step8 base l ck an 3 f7 h x i s b hk hx hb (by rw [k7 3 (by decide), k6 3 (by decide)]; exact h3) (by rw [k7 6 (by decide), k6 6 (by decide)]; exact h6) a7
  have hy := xor_lt hx (u8_lt b)
  obtain ⟨f9, e9, a9, k9⟩ := step9 base l ck an _ (.inl rfl) 3 f8 h _ T hk hy a8 (by rw [k8 4 (by decide), k7 4 (by decide), k6 4 (by decide)]; exact h4) hT
  obtain ⟨f10, e10, a10, k10⟩ := step9 base l ck an _ (.inr rfl) 3 f9 h _ T hk (crcHalf_lt hy) a9 (by rw [k9 4 (by decide), k8 4 (by decide), k7 4 (by decide), k6 4 (by decide)]; exact h4) hT
  obtain ⟨f11, e11, a11, k11⟩ := step11 base l ck an 2 f10 h i hk hi (by rw [k10 17 (by decide), k9 17 (by decide), k8 17 (by decide), k7 17 (by decide), k6 17 (by decide)]; exact h7)
  refine ⟨f11, ?_, ?_, a11, ?_⟩
  · have hc : cIn = .seq (cL cIn) (.seq (.cond (.tmp 18) .skip (.exit 2)) (.seq (.block 3 (.seq (cL (cB (cL (cR (cR cIn))))) (.seq (cL (cR (cB (cL (cR (cR cIn)))))) (.seq (cL (cR (cR (cB (cL (cR (cR cIn))))))) (cR (cR (cR (cB (cL (cR (cR cIn)))))))))))  (cR (cR (cR cIn))))) := rfl
    rw [hc]
    simp only [exec, e6, Comp.bind_ret, ev, a6, decide_eq_true hn, e7, e8, e9, e10, e11]
  · rw [k11 3 (by decide), a10]; rfl
  · intro t ht
    have h1 : ∀ u, u ∈ [0, 2, 4, 6, 9, 10, 11, 16] → u ∈ [0, 2, 3, 4, 6, 9, 10, 11, 16, 17] := by decide
    have h2 : ∀ u, u ∈ [0, 2, 4, 6, 9, 10, 11, 16] → u ∈ [0, 2, 4, 6, 9, 10, 11, 16, 17] := by decide
    have h3 : ∀ u, u ∈ [0, 2, 4, 6, 9, 10, 11, 16] → u ∈ [0, 2, 3, 4, 6, 9, 10, 11, 16] := by decide
    rw [k11 t (h3 t ht), k10 t (h2 t ht), k9 t (h2 t ht), k8 t (h2 t ht), k7 t (h1 t ht), k6 t (h1 t ht)]

/-- The inner loop. -/
theorem inner_loop (hk : an.keep = some 466653) (hl : an.lkeep 2 = none) (h : AHeap) (T : Nat) (hT : h.get T = some (.cells tabAV false)) (s : List UInt8) (hs : s.length < 4611686018427387904) : ∀ (k i : Nat) (fr : Fr) (x m : Nat), i + k = s.length → k < m → x < 4294967296 →
    fr.get 3 = .int .u32 (.ofNat x) → fr.get 4 = .ptr (some (T, 0)) → fr.get 6 = .str s → fr.get 17 = .int .i64 (.ofNat i) → fr.get 16 = .int .i64 (.ofNat s.length) →
    ∃ fr', loopN (exec (cfgB base l) ck an 2 cIn) (an.lkeep 2) m fr h = .ret (.exit 2, fr', h) ∧ fr'.get 3 = .int .u32 (.ofNat (crcL (s.drop i) x)) ∧ ∀ t, t ∈ [0, 2, 4, 6, 9, 10, 11, 16] → fr'.get t = fr.get t := by
  intro k
  induction k with
  | zero =>
    intro i fr x m hi hm hx h3 h4 h6 h7 h8
    obtain ⟨m, rfl⟩ : ∃ q, m = q + 1 := ⟨m - 1, by omega⟩
    obtain ⟨f6, e6, a6, k6⟩ := step6 base l ck an 2 fr h i s.length hk h7 h8
    refine ⟨f6, ?_, ?_, ?_⟩
    · have hc : cIn = .seq (cL cIn) (.seq (.cond (.tmp 18) .skip (.exit 2)) (cR (cR cIn))) := rfl
      simp only [loopN, hl, Fr.keep]
      rw [hc]
      simp only [exec, e6, Comp.bind_ret, ev, a6, decide_eq_false (show ¬ i < s.length by omega)]
    · rw [k6 3 (by decide), h3, List.drop_eq_nil_of_le (by omega)]; rfl
    · intro t ht
      have h1 : ∀ u, u ∈ [0, 2, 4, 6, 9, 10, 11, 16] → u ∈ [0, 2, 3, 4, 6, 9, 10, 11, 16, 17] := by decide
      exact k6 t (h1 t ht)
  | succ k ih =>
    intro i fr x m hi hm hx h3 h4 h6 h7 h8
    obtain ⟨m, rfl⟩ : ∃ q, m = q + 1 := ⟨m - 1, by omega⟩
    have hlt : i < s.length := by omega
    have hb : s[i]? = some s[i] := List.getElem?_eq_getElem hlt
    obtain ⟨f1, e1, a1, b1, k1⟩ := inner_step base l ck an fr h x i s.length T s s[i] hk hx (by omega) hlt hb h3 h4 hT h6 h7 h8
    obtain ⟨f2, e2, a2, k2⟩ := ih (i + 1) f1 (crcByte x s[i].toNat) m (by omega) (by omega) (crcByte_lt _ hx) a1 (by rw [k1 4 (by decide)]; exact h4) (by rw [k1 6 (by decide)]; exact h6) b1 (by rw [k1 16 (by decide)]; exact h8)
    refine ⟨f2, ?_, ?_, fun t ht => by rw [k2 t ht, k1 t ht]⟩
    · simp only [loopN, hl, Fr.keep] at e2 ⊢
      rw [e1]
      simp only [Comp.bind_ret]
      exact e2
    · rw [a2, List.drop_eq_getElem_cons hlt]; rfl

theorem step3 (blk : Nat) (fr : Fr) (h : AHeap) (i n : Nat) (hk : an.keep = some 466653) (h7 : fr.get 11 = .int .i64 (.ofNat i)) (h8 : fr.get 10 = .int .i64 (.ofNat n)) :
    ∃ fr', exec (cfgB base l) ck an blk (cL cOut) fr h = .ret (.normal, fr', h) ∧ fr'.get 12 = .bool (decide (i < n)) ∧ ∀ t, t ∈ [0, 2, 3, 4, 9, 10, 11] → fr'.get t = fr.get t := by
  simp only [cOut, cB, cL, cR, bodyOf, Tryz.f191]
  simp [-Int.ofNat_eq_natCast, exec, execOps, wantedA, stepOp, isE, stepN, readOp, rdC, RdW.run, ev, putD, Fr.get_put, hk, get_keepM, tb 0 (by decide), tb 2 (by decide), tb 3 (by decide), tb 4 (by decide), tb 9 (by decide), tb 10 (by decide), tb 11 (by decide), tb 12 (by decide), h7, h8, binF, binI, op_lss, Comp.of]

theorem step4 (blk : Nat) (fr : Fr) (h : AHeap) (i n c o b : Nat) (ex fz : Bool) (cs : List AV) (s : List UInt8) (hk : an.keep = some 466653) (hi : i < n) (h9 : fr.get 9 = .slice (some (b, o)) n c 1 ex) (h7 : fr.get 11 = .int .i64 (.ofNat i))
    (hB : h.get b = some (.cells cs fz)) (hc : cs[o + i]? = some (.str s)) :
    ∃ fr', exec (cfgB base l) ck an blk (cL (cB (cL (cR (cR cOut))))) fr h = .ret (.normal, fr', h) ∧ fr'.get 6 = .str s ∧ ∀ t, t ∈ [0, 2, 3, 4, 9, 10, 11] → fr'.get t = fr.get t := by
  simp only [cOut, cB, cL, cR, bodyOf, Tryz.f191]
  simp [-Int.ofNat_eq_natCast, exec, execOps, wantedA, stepOp, isE, stepN, readOp, rdC, RdW.run, readOpS, ev, putD, Fr.get_put, hk, get_keepM, tb 0 (by decide), tb 2 (by decide), tb 3 (by decide), tb 4 (by decide), tb 6 (by decide), tb 9 (by decide), tb 10 (by decide), tb 11 (by decide), h7, h9, indexAddrA, idx_nat, hi, ty46 base l, ty9 base l, rLoad, ldVar, TD.isAgg, hB, hc, Comp.of]

theorem step5 (blk : Nat) (fr : Fr) (h : AHeap) (s : List UInt8) (hk : an.keep = some 466653) (h6 : fr.get 6 = .str s) :
    ∃ fr', exec (cfgB base l) ck an blk (cL (cR (cB (cL (cR (cR cOut)))))) fr h = .ret (.normal, fr', h) ∧ fr'.get 16 = .int .i64 (.ofNat s.length) ∧ fr'.get 17 = .int .i64 (.ofNat 0) ∧ ∀ t, t ∈ [0, 2, 3, 4, 6, 9, 10, 11] → fr'.get t = fr.get t := by
  simp only [cOut, cB, cL, cR, bodyOf, Tryz.f191]
  simp [-Int.ofNat_eq_natCast, exec, execOps, wantedA, stepOp, isE, stepN, readOp, rdC, RdW.run, readCall, lenA, ev, constAV, cellAV, putD, Fr.get_put, hk, get_keepM, tb 0 (by decide), tb 2 (by decide), tb 3 (by decide), tb 4 (by decide), tb 6 (by decide), tb 9 (by decide), tb 10 (by decide), tb 11 (by decide), tb 16 (by decide), tb 17 (by decide), h6, ty9 base l, Comp.of]
  rfl

theorem step12 (blk : Nat) (fr : Fr) (h : AHeap) (i : Nat) (hk : an.keep = some 466653) (hi : i < 4611686018427387904) (h7 : fr.get 11 = .int .i64 (.ofNat i)) :
    ∃ fr', exec (cfgB base l) ck an blk (cR (cR (cR cOut))) fr h = .ret (.normal, fr', h) ∧ fr'.get 11 = .int .i64 (.ofNat (i + 1)) ∧ ∀ t, t ∈ [0, 2, 3, 4, 9, 10] → fr'.get t = fr.get t := by
  simp only [cOut, cB, cL, cR, bodyOf, Tryz.f191]
  simp [-Int.ofNat_eq_natCast, exec, execOps, wantedA, stepOp, isE, stepN, readOp, rdC, RdW.run, ev, constAV, cellAV, putD, Fr.get_put, hk, get_keepM, tb 0 (by decide), tb 2 (by decide), tb 3 (by decide), tb 4 (by decide), tb 9 (by decide), tb 10 (by decide), tb 11 (by decide), h7, binF, binI, op_inc hi, Comp.of]

theorem outer_step (hk : an.keep = some 466653) (hl : an.lkeep 2 = none) (fr : Fr) (h : AHeap) (x i n c o b T : Nat) (ex fz : Bool) (cs : List AV) (s : List UInt8) (hx : x < 4294967296) (hi : i < n) (hi2 : i < 4611686018427387904) (hs : s.length < 100000)
    (h3 : fr.get 3 = .int .u32 (.ofNat x)) (h4 : fr.get 4 = .ptr (some (T, 0))) (hT : h.get T = some (.cells tabAV false)) (h9 : fr.get 9 = .slice (some (b, o)) n c 1 ex) (h10 : fr.get 10 = .int .i64 (.ofNat n)) (h11 : fr.get 11 = .int .i64 (.ofNat i))
    (hB : h.get b = some (.cells cs fz)) (hc : cs[o + i]? = some (.str s)) :
    ∃ fr', exec (cfgB base l) ck an 0 cOut fr h = .ret (.normal, fr', h) ∧ fr'.get 3 = .int .u32 (.ofNat (crcL s x)) ∧ fr'.get 11 = .int .i64 (.ofNat (i + 1)) ∧ ∀ t, t ∈ [0, 2, 4, 9, 10] → fr'.get t = fr.get t := by
  obtain ⟨f3, e3, a3, k3⟩ := step3 base l ck an 0 fr h i n hk h11 h10
  obtain ⟨f4, e4, a4, k4⟩ := step4 base l ck an 1 f3 h i n c o b ex fz cs s hk hi (by rw [k3 9 (by decide)]; exact h9) (by rw [k3 11 (by decide)]; exact h11) hB hc
  obtain ⟨f5, e5, b5, c5, k5'⟩ := step5 base l ck an 1 f4 h s hk a4
  have a5 : f5.get 6 = .str s := by rw [k5' 6 (by decide)]; exact a4
  have k5 : ∀ t, t ∈ [0, 2, 3, 4, 9, 10, 11] → f5.get t = f3.get t := fun t ht => by
    have h1 : ∀ u, u ∈ [0, 2, 3, 4, 9, 10, 11] → u ∈ [0, 2, 3, 4, 6, 9, 10, 11] := by decide
    rw [k5' t (h1 t ht), k4 t ht]
  obtain ⟨f6, e6, a6, k6⟩ := inner_loop base l ck an hk hl h T hT s (by omega) s.length 0 f5 x 100000 (by omega) hs hx (by rw [k5 3 (by decide), k3 3 (by decide)]; exact h3) (by rw [k5 4 (by decide), k3 4 (by decide)]; exact h4) a5 c5 b5
  obtain ⟨f7, e7, a7, k7⟩ := step12 base l ck an 0 f6 h i hk hi2 (by rw [k6 11 (by decide), k5 11 (by decide), k3 11 (by decide)]; exact h11)
  refine ⟨f7, ?_, ?_, a7, ?_⟩
  · have hc : cOut = .seq (cL cOut) (.seq (.cond (.tmp 12) .skip (.exit 0)) (.seq (.block 1 (.seq (cL (cB (cL (cR (cR cOut))))) (.seq (cL (cR (cB (cL (cR (cR cOut)))))) (.block 2 (.loop cIn))))) (cR (cR (cR cOut))))) := rfl
    have hlf : (cfgB base l).lf = 100000 := rfl
    rw [hc]
    simp only [exec, e3, Comp.bind_ret, ev, a3, decide_eq_true hi, hlf, e4, e5, e6, e7, if_true]
  · rw [k7 3 (by decide), a6]; rfl
  · intro t ht
    have h1 : ∀ u, u ∈ [0, 2, 4, 9, 10] → u ∈ [0, 2, 3, 4, 9, 10] ∧ u ∈ [0, 2, 4, 6, 9, 10, 11, 16] ∧ u ∈ [0, 2, 3, 4, 9, 10, 11] := by decide
    rw [k7 t (h1 t ht).1, k6 t (h1 t ht).2.1, k5 t (h1 t ht).2.2, k3 t (h1 t ht).2.2]

theorem outer_loop (hk : an.keep = some 466653) (hl : ∀ b, an.lkeep b = none) (h : AHeap) (T b o n c : Nat) (ex fz : Bool) (cs : List AV) (hT : h.get T = some (.cells tabAV false)) (hB : h.get b = some (.cells cs fz)) (hle : o + n ≤ cs.length) (hn : n < 100000) :
    ∀ (k i : Nat) (fr : Fr) (x m r : Nat), i + k = n → k < m → x < 4294967296 → crcLs ((cs.drop (o + i)).take k) x = some r →
    fr.get 3 = .int .u32 (.ofNat x) → fr.get 4 = .ptr (some (T, 0)) → fr.get 9 = .slice (some (b, o)) n c 1 ex → fr.get 10 = .int .i64 (.ofNat n) → fr.get 11 = .int .i64 (.ofNat i) →
    ∃ fr', loopN (exec (cfgB base l) ck an 0 cOut) (an.lkeep 0) m fr h = .ret (.exit 0, fr', h) ∧ fr'.get 3 = .int .u32 (.ofNat r) ∧ r < 4294967296 := by
  intro k
  induction k with
  | zero =>
    intro i fr x m r hi hm hx hr h3 h4 h9 h10 h11
    obtain ⟨m, rfl⟩ : ∃ q, m = q + 1 := ⟨m - 1, by omega⟩
    obtain ⟨f3, e3, a3, k3⟩ := step3 base l ck an 0 fr h i n hk h11 h10
    simp [crcLs] at hr
    subst hr
    refine ⟨f3, ?_, by rw [k3 3 (by decide)]; exact h3, hx⟩
    have hc : cOut = .seq (cL cOut) (.seq (.cond (.tmp 12) .skip (.exit 0)) (cR (cR cOut))) := rfl
    simp only [loopN, hl, Fr.keep]
    rw [hc]
    simp only [exec, e3, Comp.bind_ret, ev, a3, decide_eq_false (show ¬ i < n by omega)]
  | succ k ih =>
    intro i fr x m r hi hm hx hr h3 h4 h9 h10 h11
    obtain ⟨m, rfl⟩ : ∃ q, m = q + 1 := ⟨m - 1, by omega⟩
    have hlt : o + i < cs.length := by omega
    rw [List.drop_eq_getElem_cons hlt, List.take_succ_cons] at hr
    generalize hv : cs[o + i] = v at hr
    cases v with
    | str s =>
      simp only [crcLs, Bool.cond_eq_ite] at hr
      split at hr
      · simp at hr
      · rename_i hs
        have hs : s.length < 100000 := by
          rw [Nat.ble_eq] at hs
          omega
        obtain ⟨f1, e1, a1, b1, k1⟩ := outer_step base l ck an hk (hl 2) fr h x i n c o b T ex fz cs s hx (by omega) (by omega) hs h3 h4 hT h9 h10 h11 hB (by rw [List.getElem?_eq_getElem hlt, hv])
        obtain ⟨f2, e2, a2, k2⟩ := ih (i + 1) f1 (crcL s x) m r (by omega) (by omega) (crcL_lt s hx) hr a1 (by rw [k1 4 (by decide)]; exact h4) (by rw [k1 9 (by decide)]; exact h9) (by rw [k1 10 (by decide)]; exact h10) b1
        refine ⟨f2, ?_, a2, k2⟩
        simp only [loopN, hl, Fr.keep] at e2 ⊢
        rw [e1]
        simp only [Comp.bind_ret]
        exact e2
    | _ => simp [crcLs] at hr

theorem step01 (blk : Nat) (fr : Fr) (h : AHeap) (hk : an.keep = some 466653) (hhalf : ∀ h, ck 231 [] h = .ret (.agg tabAV, h)) :
    ∃ fr' h', exec (cfgB base l) ck an blk (cL (cR (bodyOf Tryz.f191))) fr h = .ret (.normal, fr', h') ∧ fr'.get 3 = .int .u32 (.ofNat 4294967295) ∧ fr'.get 4 = .ptr (some (h.next, 0)) ∧ h'.get h.next = some (.cells tabAV false) ∧ (∀ b, b < h.next → h'.get b = h.get b) ∧ fr'.get 0 = fr.get 0 := by
  simp only [cL, cR, bodyOf, Tryz.f191]
  simp [-Int.ofNat_eq_natCast, exec, execOps, wantedA, stepOp, isE, stepN, stepE, effOp, targetA, hhalf, allocOp, readOp, rdC, RdW.run, ev, constAV, cellAV, putD, Fr.get_put, hk, ty376 base l, AV.cells, stVar, stCells, AHeap.get_push, rpt, Comp.of, tab_len, tab_put]
  refine ⟨_, _, ⟨rfl, rfl⟩, ?_, ?_, ?_, fun b hb => ?_, ?_⟩
  · simp [get_keepM, Fr.get_put, tb 3 (by decide)]
  · simp [get_keepM, Fr.get_put, tb 4 (by decide)]
  · simp [AHeap.get_set]
  · rw [AHeap.get_set, AHeap.get_push, if_neg (by omega), if_neg (by omega)]
  · simp [get_keepM, Fr.get_put, tb 0 (by decide)]

theorem step2 (blk : Nat) (fr : Fr) (h : AHeap) (n c o b : Nat) (ex : Bool) (hk : an.keep = some 466653) (h0 : fr.get 0 = .slice (some (b, o)) n c 1 ex) :
    ∃ fr', exec (cfgB base l) ck an blk (cL (cL (cR (cR (bodyOf Tryz.f191))))) fr h = .ret (.normal, fr', h) ∧ fr'.get 9 = .slice (some (b, o)) n c 1 ex ∧ fr'.get 10 = .int .i64 (.ofNat n) ∧ fr'.get 11 = .int .i64 (.ofNat 0) ∧ ∀ t, t ∈ [3, 4] → fr'.get t = fr.get t := by
  simp only [cL, cR, bodyOf, Tryz.f191]
  simp [-Int.ofNat_eq_natCast, exec, execOps, wantedA, stepOp, isE, stepN, readOp, rdC, RdW.run, readCall, lenA, ev, constAV, cellAV, putD, Fr.get_put, hk, get_keepM, tb 3 (by decide), tb 4 (by decide), tb 9 (by decide), tb 10 (by decide), tb 11 (by decide), h0, ty46 base l, Comp.of]
  rfl

theorem step13 (blk : Nat) (fr : Fr) (h : AHeap) (x : Nat) (hk : an.keep = some 466653) (hx : x < 4294967296) (h3 : fr.get 3 = .int .u32 (.ofNat x)) :
    ∃ fr', exec (cfgB base l) ck an blk (cL (cR (cR (cR (bodyOf Tryz.f191))))) fr h = .ret (.normal, fr', h) ∧ fr'.get 2 = .int .u32 (.ofNat (Nat.xor x 4294967295)) := by
  have hq := op_xor hx (show 4294967295 < 4294967296 by decide)
  have hq' : intOp .xor .u32 (.ofNat x) 4294967295 = some (.int .u32 (.ofNat (Nat.xor x 4294967295))) := hq
  simp only [cL, cR, bodyOf, Tryz.f191]
  simp [-Int.ofNat_eq_natCast, exec, execOps, wantedA, stepOp, isE, stepN, readOp, rdC, RdW.run, ev, constAV, cellAV, putD, Fr.get_put, hk, get_keepM, tb 2 (by decide), h3, hq', binF, binI, Comp.of]

theorem step0 (blk : Nat) (fr : Fr) (h : AHeap) (hk : an.keep = some 466653) :
    ∃ fr', exec (cfgB base l) ck an blk (cL (bodyOf Tryz.f191)) fr h = .ret (.normal, fr', h) ∧ fr'.get 0 = fr.get 0 := by
  simp only [cL, bodyOf, Tryz.f191]
  simp [-Int.ofNat_eq_natCast, exec, execOps, wantedA, stepOp, isE, stepN, readOp, rdC, RdW.run, ev, constAV, cellAV, putD, Fr.get_put, hk, get_keepM, tb 0 (by decide), Comp.of]
end

theorem crc_run (base : Prims) (l : List Ent) (ck : CallK) (hhalf : ∀ h, ck 231 [] h = .ret (.agg tabAV, h)) {args : List AV} {h : AHeap} {r : AV × AHeap} (hr : crcP args h = some r) :
    r.2 = h ∧ (∃ x, r.1 = .int .u32 x) ∧ ∃ h', callCode (cfgB base l) ck 191 args h = .ret (r.1, h') ∧ ∀ b, b < h.next → h'.get b = h.get b := by
  unfold crcP at hr
  split at hr
  · rename_i b o n c ex
    split at hr
    · rename_i cs fz hB
      rw [Bool.cond_eq_ite] at hr
      split at hr
      · rename_i hc
        simp only [Bool.and_eq_true, Nat.ble_eq] at hc
        obtain ⟨⟨c1, c2⟩, c3⟩ := hc
        split at hr
        · rename_i x hx
          injection hr with hr
          subst hr
          refine ⟨rfl, ⟨_, rfl⟩, ?_⟩
          have han : (cfgB base l).ann 191 = ⟨some 466653, fun _ => none, fun id => (amDr.get 191).bind fun l => assoc l id⟩ := by kernel_rfl
          obtain ⟨f0, e0, a0⟩ := step0 base l ck ((cfgB base l).ann 191) 0 (argsFr 0 [.slice (some (b, o)) n c 1 ex]) h (by rw [han])
          obtain ⟨f1, h1, e1, a1, b1, c1', d1, g1⟩ := step01 base l ck ((cfgB base l).ann 191) 0 f0 h (by rw [han]) hhalf
          obtain ⟨f2, e2, a2, b2, c2', k2⟩ := step2 base l ck ((cfgB base l).ann 191) 0 f1 h1 n c o b ex (by rw [han]) (by rw [g1, a0]; rfl)
          obtain ⟨f3, e3, a3, l3⟩ := outer_loop base l ck ((cfgB base l).ann 191) (by rw [han]) (fun _ => by rw [han]) h1 h.next b o n c ex fz cs c1' (by rw [d1 b (by omega)]; exact hB) c1 (by omega) n 0 f2 4294967295 100000 x (by omega) (by omega) (by decide) (by simpa using hx)
            (by rw [k2 3 (by decide)]; exact a1) (by rw [k2 4 (by decide)]; exact b1) a2 b2 c2'
          obtain ⟨f4, e4, a4⟩ := step13 base l ck ((cfgB base l).ann 191) 0 f3 h1 x (by rw [han]) l3 a3
          refine ⟨h1, ?_, d1⟩
          have hcode : (cfgB base l).code 191 = some Tryz.f191 := by kernel_rfl
          have hb : Tryz.f191.body = some (.seq (cL (bodyOf Tryz.f191)) (.seq (cL (cR (bodyOf Tryz.f191))) (.seq (.seq (cL (cL (cR (cR (bodyOf Tryz.f191))))) (.block 0 (.loop cOut))) (.seq (cL (cR (cR (cR (bodyOf Tryz.f191))))) .ret)))) := rfl
          have hlf : (cfgB base l).lf = 100000 := rfl
          have hres : Tryz.f191.results.toList = [.tmp 2] := rfl
          simp only [callCode, hcode, hb, exec, e0, e1, e2, e3, e4, hlf, Comp.bind_ret, if_true, hres, resultsA, ressA, resA, a4, Option.bind_some, Option.map_some, Comp.of]
        · exact absurd hr (by simp)
      · exact absurd hr (by simp)
    · exact absurd hr (by simp)
  · exact absurd hr (by simp)

theorem half_run : sameC (.agg tabAV) (call (cfgB Tryz.base []) 6 231 [] AHeap.empty) = true := by kernel_rfl

theorem pr_half : PrimOk Tryz.prog 231 (retP halfP) := by
  refine PrimOk.ground (call_sound (okB Tryz.base Tryz.base_ok [] .nil) 6) ?_
  intro args h r hr
  unfold halfP at hr
  split at hr
  · injection hr with hr
    subst hr
    refine ⟨rfl, rfl, rfl, ?_⟩
    have := half_run
    generalize call (cfgB Tryz.base []) 6 231 [] AHeap.empty = c at this
    cases c with
    | ret q => obtain ⟨u, g⟩ := q; exact AV.same_eq this
    | ask _ _ => simp [sameC] at this
    | fail _ => simp [sameC] at this
    | need _ _ => simp [sameC] at this
  · exact absurd hr (by simp)

noncomputable def base1 : Prims := fun f => bif Nat.beq f 231 then some (retP halfP) else Tryz.base f
theorem base1_ok : ∀ f p, base1 f = some p → PrimOk Tryz.prog f p := by
  intro f p h
  unfold base1 at h
  rw [Bool.cond_eq_ite] at h
  split at h
  · rename_i e; rw [Nat.eq_of_beq_eq_true e]; injection h with h; subst h; exact pr_half
  · exact Tryz.base_ok f p h

theorem pr_crc : PrimOk Tryz.prog 191 (retP crcP) := by
  refine PrimOk.pure (call_sound (okB base1 base1_ok [] .nil) 2) ?_
  intro args h r hr
  obtain ⟨h1, ⟨x, h2⟩, h', h3, h4⟩ := crc_run base1 [] (call (cfgB base1 []) 1) (fun h => rfl) hr
  refine ⟨by rw [h2]; rfl, h1, ?_⟩
  have e : call (cfgB base1 []) 2 191 args h = callCode (cfgB base1 []) (call (cfgB base1 []) 1) 191 args h := rfl
  rw [e, h3]
  exact ⟨rfl, h4⟩

noncomputable def base2 : Prims := fun f => bif Nat.beq f 191 then some (retP crcP) else base1 f
theorem base2_ok : ∀ f p, base2 f = some p → PrimOk Tryz.prog f p := by
  intro f p h
  unfold base2 at h
  rw [Bool.cond_eq_ite] at h
  split at h
  · rename_i e; rw [Nat.eq_of_beq_eq_true e]; injection h with h; subst h; exact pr_crc
  · exact base1_ok f p h

end Go.Proofs.YtdckmenbbbfdaaaGreatDoor
