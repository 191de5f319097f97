/-
strings.trimRightByte: what the library's own loop computes.
-/
import Derived.Test.YtdckmenbbbfdaaaGreatDoorCrc
import Derived.Test.YtdckmenbbbfdaaaGreatDoorA3
namespace Go.Proofs.YtdckmenbbbfdaaaGreatDoor
open Go Go.AM
set_option maxRecDepth 100000

section
variable (base : Prims) (l : List Ent) (ck : CallK) (an : Ann)
noncomputable def tLoop : Code := cB (cB (cL (cR (bodyOf Tryz.f243))))
theorem ty9' : (cfgB base l).ty 9 = some ⟨.str, 1, 16, .str []⟩ := by kernel_rfl
theorem tb' (t : Nat) (h : t ∈ [0, 1, 4, 16]) : Nat.testBit 65555 t = true := by
  simp only [List.mem_cons, List.mem_nil_iff, or_false] at h
  rcases h with h | h | h | h <;> subst h <;> decide

theorem trim_nil (blk : Nat) (fr : Fr) (h : AHeap) (hk : an.keep = some 65555) (h0 : fr.get 0 = .str []) :
    ∃ fr', exec (cfgB base l) ck an blk (cL (cL tLoop)) fr h = .ret (.normal, fr', h) ∧ fr'.get 16 = .bool false ∧ ∀ t, t ∈ [0, 1] → fr'.get t = fr.get t := by
  simp only [tLoop, cB, cL, cR, bodyOf, Tryz.f243]
  simp [-Int.ofNat_eq_natCast, exec_region, ops_cons, ops_nil, wantedA, stepOp, isE, stepN, readOp, rdC, RdW.run, readCall, lenA, rPick, ev, constAV, cellAV, putD, Fr.get_put, hk, get_keepM, tb' 0 (by decide), tb' 1 (by decide), tb' 16 (by decide), h0, binF, binI, ty9' base l, Comp.of, show intOp .gtr .i64 0 0 = some (.bool false) from rfl]

theorem trim_go (blk : Nat) (fr : Fr) (h : AHeap) (s : List UInt8) (b c : UInt8) (hs : s.length + 1 < 4611686018427387904) (hk : an.keep = some 65555) (h0 : fr.get 0 = .str (s ++ [b])) (h1 : fr.get 1 = .int .u8 (c.toNat : Int)) :
    ∃ fr', exec (cfgB base l) ck an blk (cL (cL tLoop)) fr h = .ret (.normal, fr', h) ∧ fr'.get 16 = .bool (decide (b = c)) ∧ ∀ t, t ∈ [0, 1] → fr'.get t = fr.get t := by
  have hl : ((s ++ [b]).length : Int) = .ofNat (s.length + 1) := by simp
  have hg : (s ++ [b])[s.length]? = some b := by simp
  simp only [tLoop, cB, cL, cR, bodyOf, Tryz.f243]
  simp [-Int.ofNat_eq_natCast, -List.length_append, hl, exec_region, ops_cons, ops_nil, wantedA, stepOp, isE, stepN, readOp, rdC, RdW.run, readOpS, readCall, lenA, indexA, idx_nat, hg, rPick, ev, constAV, cellAV, putD, Fr.get_put, hk, get_keepM, tb' 0 (by decide), tb' 1 (by decide), tb' 16 (by decide), h0, h1, binF, binI, op_gtr, op_dec hs, op_eql, ty9' base l, Comp.of]

theorem trim_cut (blk : Nat) (fr : Fr) (h : AHeap) (s : List UInt8) (b : UInt8) (hs : s.length + 1 < 4611686018427387904) (hk : an.keep = some 65555) (h0 : fr.get 0 = .str (s ++ [b])) :
    ∃ fr', exec (cfgB base l) ck an blk (cB (cR tLoop)) fr h = .ret (.normal, fr', h) ∧ fr'.get 0 = .str s ∧ ∀ t, t ∈ [1] → fr'.get t = fr.get t := by
  have hl : ((s ++ [b]).length : Int) = .ofNat (s.length + 1) := by simp
  have hle : s.length ≤ (s ++ [b]).length := by simp
  simp only [tLoop, cB, cL, cR, bodyOf, Tryz.f243]
  simp [-Int.ofNat_eq_natCast, -List.length_append, hl, hle, exec_region, ops_cons, ops_nil, wantedA, stepOp, isE, stepN, readOp, rdC, RdW.run, readOpS, readCall, lenA, sliceA, optNat, nat_of, ev, constAV, cellAV, putD, Fr.get_put, hk, get_keepM, tb' 0 (by decide), tb' 1 (by decide), h0, binF, binI, op_dec hs, ty9' base l, Comp.of]

theorem trim_loop (hk : an.keep = some 65555) (hl : ∀ b, an.lkeep b = none) (h : AHeap) (c : UInt8) : ∀ (n : Nat) (s : List UInt8) (fr : Fr) (m : Nat), s.length = n → n < m → n < 100000 → fr.get 0 = .str s → fr.get 1 = .int .u8 (c.toNat : Int) →
    ∃ fr', loopN (exec (cfgB base l) ck an 0 tLoop) (an.lkeep 0) m fr h = .ret (.exit 0, fr', h) ∧ fr'.get 0 = .str (trimR c s) := by
  have hc : tLoop = .seq (.seq (cL (cL tLoop)) (.cond (.tmp 16) .skip (.exit 0))) (.block 1 (cB (cR tLoop))) := rfl
  intro n
  induction n with
  | zero =>
    intro s fr m hs hm _ h0 h1
    obtain ⟨m, rfl⟩ : ∃ q, m = q + 1 := ⟨m - 1, by omega⟩
    have hs := List.length_eq_zero_iff.1 hs
    subst hs
    obtain ⟨f1, e1, a1, k1⟩ := trim_nil base l ck an 0 fr h hk h0
    refine ⟨f1, ?_, by rw [k1 0 (by decide)]; exact h0⟩
    simp only [loopN, hl, Fr.keep]
    rw [hc]
    simp only [exec, e1, Comp.bind_ret, ev, a1]
  | succ n ih =>
    intro s fr m hs hm hn h0 h1
    obtain ⟨m, rfl⟩ : ∃ q, m = q + 1 := ⟨m - 1, by omega⟩
    obtain ⟨s', b, rfl⟩ : ∃ s' b, s = s' ++ [b] := by
      rcases List.eq_nil_or_concat s with h | ⟨s', b, h⟩
      · rw [h] at hs; simp at hs
      · exact ⟨s', b, by rw [h]; simp⟩
    have hs' : s'.length = n := by simpa using hs
    obtain ⟨f1, e1, a1, k1⟩ := trim_go base l ck an 0 fr h s' b c (by omega) hk h0 h1
    by_cases hb : b = c
    · subst hb
      obtain ⟨f2, e2, a2, k2⟩ := trim_cut base l ck an 1 f1 h s' b (by omega) hk (by rw [k1 0 (by decide)]; exact h0)
      obtain ⟨f3, e3, a3⟩ := ih s' f2 m hs' (by omega) (by omega) a2 (by rw [k2 1 (by decide), k1 1 (by decide)]; exact h1)
      refine ⟨f3, ?_, by rw [trimR_end]; exact a3⟩
      simp only [loopN, hl, Fr.keep] at e3 ⊢
      have ex : exec (cfgB base l) ck an 0 tLoop fr h = .ret (.normal, f2, h) := by
        rw [hc]
        simp only [exec, e1, Comp.bind_ret, ev, a1, decide_true, e2]
      rw [ex]
      simp only [Comp.bind_ret]
      exact e3
    · refine ⟨f1, ?_, by rw [k1 0 (by decide), trimR_stay c b s' hb]; exact h0⟩
      simp only [loopN, hl, Fr.keep]
      rw [hc]
      simp only [exec, e1, Comp.bind_ret, ev, a1, decide_eq_false hb]

theorem trim_first (blk : Nat) (fr : Fr) (h : AHeap) (hk : an.keep = some 65555) :
    ∃ fr', exec (cfgB base l) ck an blk (cL (bodyOf Tryz.f243)) fr h = .ret (.normal, fr', h) ∧ ∀ t, t ∈ [0, 1] → fr'.get t = fr.get t := by
  simp only [cL, bodyOf, Tryz.f243]
  simp [-Int.ofNat_eq_natCast, exec_region, ops_cons, ops_nil, wanted_none, stepOp, isE, stepN, readOp, rdC, RdW.run, ev, constAV, cellAV, putD, Fr.get_put, hk, get_keepM, tb' 0 (by decide), tb' 1 (by decide), Comp.of]

theorem trim_last (blk : Nat) (fr : Fr) (h : AHeap) (s : List UInt8) (hk : an.keep = some 65555) (h0 : fr.get 0 = .str s) :
    ∃ fr', exec (cfgB base l) ck an blk (cL (cR (cR (bodyOf Tryz.f243)))) fr h = .ret (.normal, fr', h) ∧ fr'.get 4 = .str s := by
  simp only [cL, cR, bodyOf, Tryz.f243]
  simp [-Int.ofNat_eq_natCast, exec_region, ops_cons, ops_nil, wanted_none, stepOp, isE, stepN, readOp, rdC, RdW.run, ev, putD, Fr.get_put, hk, get_keepM, tb' 4 (by decide), h0, Comp.of]
end

theorem trim_run (base : Prims) (l : List Ent) (ck : CallK) {args : List AV} {h : AHeap} {r : AV × AHeap} (hr : trimP args h = some r) :
    r.2 = h ∧ (∃ x, r.1 = .str x) ∧ callCode (cfgB base l) ck 243 args h = .ret (r.1, h) := by
  unfold trimP at hr
  split at hr
  · rename_i s c
    rw [Bool.cond_eq_ite] at hr
    split at hr
    · rename_i hc
      simp only [Bool.and_eq_true, Nat.ble_eq] at hc
      injection hr with hr
      subst hr
      refine ⟨rfl, ⟨_, rfl⟩, ?_⟩
      have hcc : (Int.ofNat c) = ((UInt8.ofNat c).toNat : Int) := by
        rw [UInt8.toNat_ofNat_of_lt' (by show c < 256; omega)]
        rfl
      have han : (cfgB base l).ann 243 = ⟨some 65555, fun _ => none, fun id => (amDr.get 243).bind fun l => assoc l id⟩ := by kernel_rfl
      obtain ⟨f0, e0, k0⟩ := trim_first base l ck ((cfgB base l).ann 243) 0 (argsFr 0 [.str s, .int .u8 (.ofNat c)]) h (by rw [han])
      obtain ⟨f1, e1, a1⟩ := trim_loop base l ck ((cfgB base l).ann 243) (by rw [han]) (fun _ => by rw [han]) h (UInt8.ofNat c) s.length s f0 100000 rfl (by omega) (by omega) (by rw [k0 0 (by decide)]; rfl) (by rw [k0 1 (by decide), ← hcc]; rfl)
      obtain ⟨f2, e2, a2⟩ := trim_last base l ck ((cfgB base l).ann 243) 0 f1 h _ (by rw [han]) a1
      have hcode : (cfgB base l).code 243 = some Tryz.f243 := by kernel_rfl
      have hb : Tryz.f243.body = some (.seq (cL (bodyOf Tryz.f243)) (.seq (.block 0 (.loop tLoop)) (.seq (cL (cR (cR (bodyOf Tryz.f243)))) .ret))) := rfl
      have hlf : (cfgB base l).lf = 100000 := rfl
      have hres : Tryz.f243.results.toList = [.tmp 4] := rfl
      simp only [callCode, hcode, hb, exec, e0, e1, e2, hlf, Comp.bind_ret, if_true, hres, resultsA, ressA, resA, a2, Option.bind_some, Option.map_some, Comp.of]
    · exact absurd hr (by simp)
  · exact absurd hr (by simp)

theorem pr_trim : PrimOk Tryz.prog 243 (retP trimP) := by
  refine PrimOk.pure (call_sound (okB base2 base2_ok [] .nil) 2) ?_
  intro args h r hr
  obtain ⟨h1, ⟨x, h2⟩, h3⟩ := trim_run base2 [] (call (cfgB base2 []) 1) hr
  refine ⟨by rw [h2]; rfl, h1, ?_⟩
  have e : call (cfgB base2 []) 2 243 args h = callCode (cfgB base2 []) (call (cfgB base2 []) 1) 243 args h := rfl
  rw [e, h3]
  exact ⟨rfl, fun _ _ => rfl⟩

noncomputable def base3 : Prims := fun f => bif Nat.beq f 243 then some (retP trimP) else base2 f
theorem base3_ok : ∀ f p, base3 f = some p → PrimOk Tryz.prog f p := by
  intro f p h
  unfold base3 at h
  rw [Bool.cond_eq_ite] at h
  split at h
  · rename_i e; rw [Nat.eq_of_beq_eq_true e]; injection h with h; subst h; exact pr_trim
  · exact base2_ok f p h

noncomputable def cfg (l : List Ent) : Cfg := cfgB base3 l
theorem okc (l : List Ent) (h : AllOk Tryz.prog l) : CfgOk Tryz.prog (cfg l) := okB base3 base3_ok l h
end Go.Proofs.YtdckmenbbbfdaaaGreatDoor
