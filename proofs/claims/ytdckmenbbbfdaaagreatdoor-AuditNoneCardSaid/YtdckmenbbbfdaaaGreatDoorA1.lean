/-
An abstract machine, and that its runs are runs of the program.
-/
import Derived.Test.YtdckmenbbbfdaaaGreatDoorA0
import Derived.Laws.Append
namespace Go.AM
section
variable {P : Program} {cf : Cfg} {β : Inj} {w : World}

def putV : List Value → Nat → List Value → List Value
  | cs, _, [] => cs
  | cs, i, v :: vs => putV (cs.set i v) (i + 1) vs

theorem putV_length : ∀ (vs : List Value) (cs : List Value) (i : Nat), (putV cs i vs).length = cs.length
  | [], _, _ => rfl
  | _ :: vs, cs, i => by simp [putV, putV_length vs]

theorem putAt_length : ∀ (vs : List AV) (cs : List AV) (i : Nat), (putAt cs i vs).length = cs.length
  | [], _, _ => rfl
  | _ :: vs, cs, i => by simp [putAt, putAt_length vs]

theorem VRs.putAt : ∀ {vs : List AV} {vs' : List Value} {cs : List AV} {cs' : List Value} (i : Nat), VRs β cs cs' → VRs β vs vs' → VRs β (AM.putAt cs i vs) (putV cs' i vs')
  | _, _, _, _, _, h, .nil => h
  | _, _, _, _, i, h, .cons h1 t => VRs.putAt (i + 1) (h.set i h1) t

theorem putV_one : ∀ {vs cs : List Value} (i : Nat), (∀ x ∈ cs, x.oneCell' = true) → (∀ x ∈ vs, x.oneCell' = true) → ∀ x ∈ putV cs i vs, x.oneCell' = true
  | [], _, _, h, _ => h
  | v :: vs, cs, i, h, h' => putV_one (i + 1) (fun x hx => by
      rcases List.mem_or_eq_of_mem_set hx with hx | hx
      · exact h x hx
      · subst hx; exact h' _ (by simp)) fun x hx => h' x (by simp [hx])

theorem zip_putV (off : Nat) : ∀ (l : List Value) (k : Nat) (arr : Array Value),
    ((l.zipIdx k).foldl (fun (cs : Array Value) (p : Value × Nat) => cs.setIfInBounds (off + p.2) p.1) arr).toList = putV arr.toList (off + k) l
  | [], _, _ => rfl
  | v :: l, k, arr => by
    simp only [List.zipIdx_cons, List.foldl_cons, putV]
    rw [zip_putV off l (k + 1)]
    simp [Nat.add_assoc]

theorem fillA_sound {place : Nat → Option (Nat × Nat)} : ∀ {parts : List (Nat × AV)} {parts' : List (Nat × Value)} {cells cs : List AV} {cells' : Array Value},
    fillA place cells parts = some cs → VRs β cells cells'.toList → (∀ x ∈ cells'.toList, x.oneCell' = true) →
    parts.map (·.1) = parts'.map (·.1) → VRs β (parts.map (·.2)) (parts'.map (·.2)) →
    ∃ cs', Instr.fill place cells' parts' = some cs' ∧ VRs β cs cs'.toList ∧ (∀ x ∈ cs'.toList, x.oneCell' = true) ∧ cs'.size = cells'.size
  | [], [], cells, cs, cells', he, hv, h1, _, _ => by
    simp [fillA] at he; subst he
    exact ⟨cells', rfl, hv, h1, rfl⟩
  | [], _ :: _, _, _, _, _, _, _, hn, _ => by simp at hn
  | _ :: _, [], _, _, _, _, _, _, hn, _ => by simp at hn
  | (i, a) :: rest, (i', v) :: rest', cells, cs, cells', he, hv, h1, hn, hp => by
    simp only [List.map_cons, List.cons.injEq] at hn
    obtain ⟨rfl, hn⟩ := hn
    cases hp with
    | cons hav ht =>
      simp only [fillA] at he
      split at he
      · rename_i off size vs hpl hvs
        split at he
        · rename_i hb
          obtain ⟨g1, g2⟩ := VR.cells hav hvs
          have hsz : v.cells.size = size := by rw [← hb.1, g1.length]; simp
          have hcl : cells.length = cells'.size := by rw [hv.length]; simp
          have hfold : (v.cells.zipIdx.foldl (fun (cs : Array Value) (p : Value × Nat) => cs.setIfInBounds (off + p.2) p.1) cells').toList = putV cells'.toList off v.cells.toList := by
            rw [← Array.foldl_toList, Array.toList_zipIdx]
            exact zip_putV off _ 0 _
          have ih := fillA_sound (parts' := rest') (cells' := v.cells.zipIdx.foldl (fun (cs : Array Value) (p : Value × Nat) => cs.setIfInBounds (off + p.2) p.1) cells') he
            (by rw [hfold]; exact hv.putAt off g1) (by rw [hfold]; exact putV_one off h1 g2) hn ht
          obtain ⟨cs', q1, q2, q3, q4⟩ := ih
          refine ⟨cs', ?_, q2, q3, ?_⟩
          · simp only [Instr.fill, hpl]
            rw [if_neg]
            · exact q1
            · simp [hsz]; omega
          · rw [q4]
            have := congrArg List.length hfold
            rw [putV_length] at this
            simpa using this
        · simp at he
      · simp at he

theorem sizesOf_sound (hc : RdOk P cf) : ∀ {l : List Field} {ps : List (Nat × Nat)}, sizesOf cf (l.map fun f => (f.offset, f.type)) = some ps →
    (l.mapM (fun (f : Field) => do pure (f.offset, ← sizeOf f.type) : Field → Sem (Nat × Nat))).run P w = .ok ps w
  | [], ps, h => by simp [sizesOf] at h; subst h; rfl
  | f :: l, ps, h => by
    simp only [List.map_cons, sizesOf] at h
    replace h := opt_do h
    obtain ⟨i, hi, h⟩ := h
    replace h := opt_do h
    obtain ⟨r, hr, h⟩ := h
    simp at h; subst h
    obtain ⟨d, ti, hu, hinf, hd, hs, _⟩ := hc.ty _ _ hi
    have ih := sizesOf_sound hc hr
    rw [List.mapM_cons]
    simp only [Sem.run_bind, run_size hinf, hs, Result.andThen_ok, Sem.run_pure, ih]

theorem buildA_sound (hc : RdOk P cf) {t : TypeId} {parts : List (Nat × AV)} {parts' : Array (Nat × Value)} {v : AV} (he : buildA cf t parts = some v)
    (hn : parts.map (·.1) = parts'.toList.map (·.1)) (hp : VRs β (parts.map (·.2)) (parts'.toList.map (·.2))) :
    ∃ v', (Instr.build t parts').run P w = .ok v' w ∧ VR β v v' := by
  unfold buildA at he
  replace he := opt_do he
  obtain ⟨i, hi, he⟩ := he
  replace he := opt_do he
  obtain ⟨zero, hz, he⟩ := he
  obtain ⟨d, ti, hu, hinf, hd, hs, hby, hzero⟩ := hc.ty _ _ hi
  have hzz : ∃ z, ti.zero = some z ∧ VRs β zero z.cells.toList ∧ ∀ x ∈ z.cells.toList, x.oneCell' = true := by
    rcases hzero with h | ⟨z, h1, h2⟩
    · rw [h] at hz; simp [AV.cells] at hz
    · rw [← h2] at hz
      exact ⟨z, h1, VR.cells (constAV_sound β z) hz⟩
  obtain ⟨z, hz1, hz2, hz3⟩ := hzz
  split at he
  · rename_i fs hfs
    obtain ⟨fields, rfl, hm⟩ := tdOf_struct (hd.trans hfs)
    replace he := opt_do he
    obtain ⟨ps, hps, he⟩ := he
    replace he := opt_do he
    obtain ⟨cs, hcs, he⟩ := he
    simp at he; subst he
    rw [← hm] at hps
    obtain ⟨cs', q1, q2, q3, _⟩ := fillA_sound hcs hz2 hz3 hn hp
    refine ⟨.agg cs', ?_, .agg q2 q3⟩
    have hmm : (fields.mapM (fun (f : Field) => do pure (f.offset, ← sizeOf f.type) : Field → Sem (Nat × Nat))).run P w = .ok ps.toArray w := by
      rw [Array.mapM_eq_mapM_toList]
      simp only [Sem.run_map, sizesOf_sound hc hps, Result.andThen_ok]
    simp only [Instr.build, Sem.run_bind, run_zero hinf hz1, Result.andThen_ok, run_und hu]
    rw [hmm]
    simp only [Result.andThen_ok]
    have : (fun (x : Nat) => ps.toArray[x]?) = fun (x : Nat) => ps[x]? := by funext x; simp
    rw [this, q1]
    rfl
  · rename_i n e hd'
    have := tdOf_array (hd.trans hd'); subst this
    replace he := opt_do he
    obtain ⟨j, hj, he⟩ := he
    replace he := opt_do he
    obtain ⟨cs, hcs, he⟩ := he
    simp at he; subst he
    obtain ⟨d2, ti2, hu2, hinf2, hd2, hs2, _⟩ := hc.ty _ _ hj
    obtain ⟨cs', q1, q2, q3, _⟩ := fillA_sound hcs hz2 hz3 hn hp
    refine ⟨.agg cs', ?_, .agg q2 q3⟩
    simp only [Instr.build, Sem.run_bind, run_zero hinf hz1, Result.andThen_ok, run_und hu, run_size hinf2, hs2, q1]
    rfl
  · simp at he

theorem avBytes_sound : ∀ {cs : List AV} {l : List UInt8}, avBytes cs = some l → ∃ xs : List Int, cs = xs.map (AV.int .u8) ∧ l = xs.map fun n => UInt8.ofNat n.toNat
  | [], l, h => by simp [avBytes] at h; subst h; exact ⟨[], rfl, rfl⟩
  | .int .u8 n :: cs, l, h => by
    simp only [avBytes] at h
    obtain ⟨r, hr, rfl⟩ := opt_map h
    obtain ⟨xs, rfl, rfl⟩ := avBytes_sound hr
    exact ⟨n :: xs, rfl, rfl⟩
  | .int .i8 n :: cs, l, h => by simp [avBytes] at h
  | .int .i16 n :: cs, l, h => by simp [avBytes] at h
  | .int .i32 n :: cs, l, h => by simp [avBytes] at h
  | .int .i64 n :: cs, l, h => by simp [avBytes] at h
  | .int .u16 n :: cs, l, h => by simp [avBytes] at h
  | .int .u32 n :: cs, l, h => by simp [avBytes] at h
  | .int .u64 n :: cs, l, h => by simp [avBytes] at h
  | .dead :: cs, l, h => by simp [avBytes] at h
  | .bool _ :: cs, l, h => by simp [avBytes] at h
  | .str _ :: cs, l, h => by simp [avBytes] at h
  | .ptr _ :: cs, l, h => by simp [avBytes] at h
  | .slice _ _ _ _ _ :: cs, l, h => by simp [avBytes] at h
  | .map _ :: cs, l, h => by simp [avBytes] at h
  | .func _ _ _ :: cs, l, h => by simp [avBytes] at h
  | .nilFunc :: cs, l, h => by simp [avBytes] at h
  | .iface _ _ :: cs, l, h => by simp [avBytes] at h
  | .nilIface :: cs, l, h => by simp [avBytes] at h
  | .agg _ :: cs, l, h => by simp [avBytes] at h
  | .tuple _ :: cs, l, h => by simp [avBytes] at h

theorem VRs_ints {k : IntKind} : ∀ {xs : List Int} {vs : List Value}, VRs β (xs.map (AV.int k)) vs → vs = xs.map (Value.int k)
  | [], _, .nil => rfl
  | x :: xs, _, .cons h t => by cases h; rw [VRs_ints t]; rfl

theorem convA_sound (hc : RdOk P cf) {h : AHeap} {s t : TypeId} {x v : AV} {x' : Value} (he : convA cf h s t x = some v) (hx : VR β x x') (hr : HR β h w.heap) :
    ∃ v', (convert s t x').run P w = .ok v' w ∧ VR β v v' := by
  unfold convA at he
  replace he := opt_do he
  obtain ⟨i, hi, he⟩ := he
  replace he := opt_do he
  obtain ⟨j, hj, he⟩ := he
  obtain ⟨d, ti, hu, hinf, hd, hs, _⟩ := hc.ty _ _ hi
  obtain ⟨d2, ti2, hu2, hinf2, hd2, hs2, _⟩ := hc.ty _ _ hj
  simp only [wrapF_eq] at he
  split at he
  · rename_i k kk n hd'
    have := tdOf_int (hd2.trans hd'); subst this
    cases hx; simp at he; subst he
    exact ⟨_, by simp [convert, run_und hu, run_und hu2, Conv.intToInt], .int _ _⟩
  · rename_i l hd'
    have := tdOf_str (hd2.trans hd'); subst this
    cases hx; simp at he; subst he
    exact ⟨_, by simp [convert, run_und hu, run_und hu2], .str _⟩
  · rename_i a len cap sz ex hd'
    have := tdOf_str (hd2.trans hd'); subst this
    split at he
    · rename_i e hd''
      have := tdOf_slice (hd.trans hd''); subst this
      replace he := opt_do he
      obtain ⟨q, hq, he⟩ := he
      obtain ⟨d3, ti3, hu3, hinf3, hd3, hs3, _⟩ := hc.ty _ _ hq
      split at he
      · rename_i hd3'
        have := tdOf_int (hd3.trans hd3'); subst this
        split at he
        · cases hx
          simp at he; subst he
          refine ⟨.string ⟨#[]⟩, ?_, .str []⟩
          exact run_convert_bytes_nil w s e hu hu3 _ _ _ hu2
        · rename_i a
          replace he := opt_do he
          obtain ⟨cs, hcs, he⟩ := he
          replace he := opt_do he
          obtain ⟨l, hl, he⟩ := he
          simp at he; subst he
          obtain ⟨xs, rfl, rfl⟩ := avBytes_sound hl
          obtain ⟨b, o⟩ := a
          cases hx with
          | @slice _ _ B O N _ _ cap' _ _ a hb hcc hxx hll ha =>
            refine ⟨.string (strOfNums xs), ?_, .str _⟩
            unfold ldCells at hcs
            split at hcs
            · rename_i cs0 fz hg
              split at hcs
              · rename_i hlen
                injection hcs with hcs
                obtain ⟨c, e1, lo, hi', hH, hN, _, hO, hC⟩ := hr.obj _ _ _ _ _ hb hg
                have hxl : xs.length = len := by
                  have := congrArg List.length hcs
                  simp at this
                  omega
                by_cases hl0 : len = 0
                · subst hl0
                  have : xs = [] := List.eq_nil_of_length_eq_zero hxl
                  subst this
                  rw [run_convert_bytes_string w s t e (some a) 0 cap' hu hu3 hu2, run_bytesToString w a 0 cap' [] (by rfl)]
                  rfl
                · rcases ha with ha | ⟨ha, hNN⟩
                  · omega
                  · subst ha
                    refine run_convert_bytes_arg w s e hu hu3 B (O + o) len cap' xs hxl ?_ t hu2
                    intro i hi
                    rw [cell?_of hH]
                    have h1 : cs0[o + i]? = some (AV.int .u8 (xs.getD i 0)) := by
                      have h2 : ((cs0.drop o).take len)[i]? = (xs.map (AV.int .u8))[i]? := by rw [hcs]
                      rw [List.getElem?_take, if_pos hi, List.getElem?_drop, List.getElem?_map] at h2
                      rw [h2, List.getElem?_eq_getElem (by omega)]
                      simp [List.getElem?_eq_getElem (show i < xs.length by omega)]
                    obtain ⟨v', g1, g2, _⟩ := hC _ _ h1
                    cases g2
                    rw [← g1, Nat.add_assoc]
              · simp at hcs
            · simp at hcs
      · simp at he
    · simp at he
  · simp at he

theorem find_stamp {es : List (AV × AV × Nat)} {n : Nat} {e : AV × AV × Nat} : ∀ {es' : List MapEntry}, ESR β es es' → es.find? (fun e => e.2.2 == n) = some e →
    ∃ e', es'.find? (fun e => e.born == n) = some e' ∧ VR β e.1 e'.key ∧ VR β e.2.1 e'.val := by
  induction es with
  | nil => intro es' _ h; simp at h
  | cons a es ih =>
    intro es' hE h
    cases es' with
    | nil => exact hE.elim
    | cons a' es' =>
      obtain ⟨k, v, m⟩ := a
      obtain ⟨h1, h2, h3, h4⟩ := hE
      simp only [List.find?_cons] at h ⊢
      split at h
      · rename_i hm
        simp at h; subst h
        rw [h3, hm]
        exact ⟨a', rfl, h1, h2⟩
      · rename_i hm
        rw [h3, hm]
        exact ih h4 h

theorem entryA_sound {h : AHeap} {it v : AV} {it' : Value} (he : entryA h it = some v) (hi : VR β it it') (hr : HR β h w.heap) :
    ∃ v', (Instr.entry it').run P w = .ok v' w ∧ VR β v v' := by
  unfold entryA at he
  split at he
  · rename_i r
    cases hi with
    | @ptr _ _ B O N hb =>
      split at he
      · rename_i m since seen last hg
        obtain ⟨hO, m', hH, hm⟩ := hr.obj _ _ _ _ _ hb hg
        subst hO
        split at he
        · rename_i st es clock hst hgm
          cases hm with
          | @map _ B2 O2 N2 hb2 =>
            obtain ⟨es', hH2, hE⟩ := hr.obj _ _ _ _ _ hb2 hgm
            split at he
            · rename_i hcl
              subst hcl
              split at he
              · rename_i e hfe
                simp at he; subst he
                obtain ⟨e', q1, q2, q3⟩ := find_stamp hE hfe
                refine ⟨.tuple #[e'.key, e'.val], ?_, .tuple (.cons q2 (.cons q3 .nil))⟩
                have hb' : seen.toArray.back? = some st := by simpa using hst
                have q1' : es'.find? (fun e => e.born == st) = some e' := by rw [← Array.find?_toList]; exact q1
                simp only [Instr.entry, Nat.zero_add, Sem.run_bind, getObj_run hH (by simp), Result.andThen_ok, hb', getObj_run hH2 (by simp), bne_self_eq_false,
                  Bool.false_eq_true, if_false, q1', Sem.run_pure]
              · simp at he
            · simp at he
        · simp at he
      · simp at he
  · simp at he


theorem ldCase (hc : RdOk P cf) {h : AHeap} {t : TypeId} {x v : AV} {x' : Value} {a : Nat × Nat} (hxa : x = .ptr (some a)) (hx : VR β x x')
    (he : ((cf.ty t).bind fun i => ldVar i h a) = some v) (hr : HR β h w.heap) : ∃ v', (Instr.loadAt t x').run P w = .ok v' w ∧ VR β v v' := by
  obtain ⟨i, hi, he⟩ := opt_bind he
  subst hxa
  obtain ⟨b, o⟩ := a
  cases hx with
  | @ptr _ _ B O N hb =>
    obtain ⟨v', h1, h2⟩ := ldVar_sound (P := P) he (hc.ty _ _ hi) hr hb
    exact ⟨v', by simpa [Instr.loadAt, Instr.sureAddr] using h1, h2⟩

theorem readCall_sound (hc : RdOk P cf) {ρA : Operand → AV} {ρ : Operand → Value} (hρ : ∀ x, VR β (ρA x) (ρ x)) {h : AHeap} (hr : HR β h w.heap)
    {c : Call} {v : AV} (u : TypeId) (he : readCall cf ρA h c = some v) :
    ∃ v', (do let d ← resolve ρ c u; invoke d.target d.args : Sem Next).run P w = .ok (.value v') w ∧ VR β v v' := by
  obtain ⟨callee, args, argTypes⟩ := c
  unfold readCall at he
  simp only at he
  split at he
  · split at he
    · rename_i t x ht hx
      obtain ⟨v', g1, g2⟩ := lenA_sound (P := P) (w := w) hc he (hρ x) hr u argTypes (by rw [← Array.getElem?_toList, ht]; rfl) (args.map ρ)
        (by rw [Array.getElem?_map, ← Array.getElem?_toList, hx]; rfl)
      exact ⟨v', by simp [resolve, invoke, builtin, g1], g2⟩
    · simp at he
  · split at he
    · rename_i t x ht hx
      split at he
      · rename_i e a n0 n sz htd hxv
        injection he with he; subst he
        have hv := hρ x
        rw [hxv] at hv
        obtain ⟨d, hu, hd⟩ := td_ok hc htd
        have := tdOf_slice hd; subst this
        have h0 : argTypes[0]? = some t := by rw [← Array.getElem?_toList, ht]; rfl
        have h1 : (args.map ρ)[0]? = some (ρ x) := by rw [Array.getElem?_map, ← Array.getElem?_toList, hx]; rfl
        generalize hcc : ρ x = cv at hv h1
        refine ⟨.int .i64 n, ?_, .int _ _⟩
        have hcap : (Builtin.cap_ argTypes u (args.map ρ)).run P w = .ok (.int .i64 n) w := by
          simp only [Builtin.cap_, h0, h1]
          cases hv with
          | sliceNil => simp only [Sem.run_bind, run_und hu, Result.andThen_ok]; rfl
          | slice hb hcc2 hxx hll ha =>
            have := hxx rfl
            subst this
            simp only [Sem.run_bind, run_und hu, Result.andThen_ok]; rfl
        simp [resolve, invoke, builtin, hcap]
      · simp at he
    · simp at he
  · split at he
    · rename_i x l hx
      obtain ⟨v', g1, g2⟩ := foldA_sound (P := P) (w := w) (g := Builtin.max2) maxA_sound he (hρ x) (VRs.map hρ l)
      refine ⟨v', ?_, g2⟩
      have : (args.map ρ).toList = ρ x :: l.map ρ := by rw [Array.toList_map, hx]; rfl
      simp [resolve, invoke, builtin, Builtin.max_, g1, hx]
    · simp at he
  · split at he
    · rename_i x l hx
      obtain ⟨v', g1, g2⟩ := foldA_sound (P := P) (w := w) (g := Builtin.min2) minA_sound he (hρ x) (VRs.map hρ l)
      refine ⟨v', ?_, g2⟩
      have : (args.map ρ).toList = ρ x :: l.map ρ := by rw [Array.toList_map, hx]; rfl
      simp [resolve, invoke, builtin, Builtin.min_, g1, hx]
    · simp at he
  · simp at he

theorem read_sound (hc : RdOk P cf) {ρA : Operand → AV} {ρ : Operand → Value} (hρ : ∀ x, VR β (ρA x) (ρ x)) {h : AHeap} (hr : HR β h w.heap)
    {o : Oper} {v : AV} (he : readOp cf ρA h o.op = some v) : ∃ v', (execOp ρ o).run P w = .ok (.value v') w ∧ VR β v v' := by
  obtain ⟨dst, op, ty, pos, after, guard⟩ := o
  simp only at he
  have hmap : ∀ (parts : Array (Nat × Operand)), (parts.toList.map fun p => (p.1, ρA p.2)).map (·.1) = ((parts.map fun (x : Nat × Operand) => (x.1, ρ x.2)).toList).map (·.1) := by
    intro parts; simp
  have hov : ∀ x : Option Operand, OVR β (x.map ρA) (x.map ρ) := fun x => by cases x with
    | none => trivial
    | some x => exact hρ x
  rw [readOp_eq] at he
  cases op <;> simp only [readOpS] at he <;> try (simp at he; done)
  case move x => injection he with he; subst he; exact ⟨_, rfl, hρ x⟩
  case assign x => injection he with he; subst he; exact ⟨_, rfl, hρ x⟩
  case pick c a b =>
    split at he
    · rename_i t hcb
      injection he with he; subst he
      have := hρ c
      rw [hcb] at this
      generalize hcc : ρ c = cv at this
      cases this
      refine ⟨if t then ρ a else ρ b, by simp [execOp, hcc, asBool], ?_⟩
      cases t <;> exact hρ _
    · simp at he
  case build t parts =>
    obtain ⟨v', h1, h2⟩ := buildA_sound (P := P) (w := w) (parts' := parts.map fun x => (x.1, ρ x.2)) hc he (hmap parts) (by
      have := VRs.map hρ (parts.toList.map (·.2))
      simpa [Function.comp_def] using this)
    exact ⟨v', by simp [execOp, h1], h2⟩
  case load t a =>
    split at he
    · rename_i p hp
      obtain ⟨v', h1, h2⟩ := ldCase (P := P) (w := w) hc hp (hρ a) he hr
      exact ⟨v', by simp [execOp, h1], h2⟩
    · simp at he
  case nilCheck x =>
    have hx := hρ x
    split at he
    · rename_i p hp
      injection he with he; subst he
      rw [hp] at hx
      generalize hcc : ρ x = cv at hx
      cases hx with
      | ptr hb => exact ⟨_, by simp [execOp, hcc], .ptr hb⟩
    · rename_i f y z hp
      injection he with he; subst he
      rw [hp] at hx
      generalize hcc : ρ x = cv at hx
      cases hx with
      | func _ ha hb => exact ⟨_, by simp [execOp, hcc], .func _ ha hb⟩
    · rename_i t y hp
      injection he with he; subst he
      rw [hp] at hx
      generalize hcc : ρ x = cv at hx
      cases hx with
      | iface _ ha => exact ⟨_, by simp [execOp, hcc], .iface _ ha⟩
    · simp at he
  case binOp op t x y yt =>
    obtain ⟨v', h1, h2⟩ := binA_sound (P := P) (w := w) hc he (hρ x) (hρ y) hr
    exact ⟨v', by simp only [execOp, Sem.run_bind, h1]; rfl, h2⟩
  case unOp op t x =>
    obtain ⟨v', h1, h2⟩ := unA_sound (P := P) he (hρ x) w
    exact ⟨v', by simp [execOp, h1], h2⟩
  case convert s d x =>
    obtain ⟨v', h1, h2⟩ := convA_sound (P := P) (w := w) hc he (hρ x) hr
    exact ⟨v', by simp [execOp, h1], h2⟩
  case makeInterface t x =>
    split at he
    · simp at he
    · simp at he
    · rename_i d hn hd
      injection he with he; subst he
      obtain ⟨d', hu, hd'⟩ := td_ok hc hd
      refine ⟨.iface t (ρ x), ?_, .iface _ (hρ x)⟩
      cases d' <;> first
        | (simp [tdOf] at hd'; exact (hn hd'.symm).elim)
        | simp [execOp, Instr.makeInterface, run_und hu]
  case makeFunc fn first captured =>
    injection he with he; subst he
    refine ⟨.func fn (first.map ρ) (captured.map ρ), by simp [execOp, Instr.makeFunc], .func _ ?_ ?_⟩
    · simpa using VRs.map hρ first.toList
    · simpa using VRs.map hρ captured.toList
  case slice t x lo hi mx =>
    obtain ⟨v', h1, h2⟩ := sliceA_sound (P := P) (w := w) hc he (hρ x) (hov lo) (hov hi) (hov mx)
    exact ⟨v', by simp [execOp, h1], h2⟩
  case fieldAddr s x f =>
    split at he
    · rename_i a hp
      obtain ⟨p, hpo, he⟩ := opt_bind he
      split at he
      · simp at he
      · rename_i hz
        injection he with he; subst he
        obtain ⟨off, j⟩ := p
        obtain ⟨fields, F, hu, hF, hoff, hj⟩ := fieldOff_sound hc hpo
        have hx := hρ x
        rw [hp] at hx
        generalize hcc : ρ x = cv at hx
        obtain ⟨b, o⟩ := a
        cases hx with
        | @ptr _ _ B O N hb =>
          refine ⟨_, ?_, .ptr hb⟩
          simp [execOp, Instr.fieldAt, run_und hu, hF, Instr.sureAddr, hcc, fieldPlace_sound hj hz, add_none, hoff, Nat.add_assoc]
    · simp at he
  case field s x f =>
    split at he
    · rename_i cs hp
      obtain ⟨p, hpo, he⟩ := opt_bind he
      obtain ⟨off, j⟩ := p
      obtain ⟨fields, F, hu, hF, hoff, hj⟩ := fieldOff_sound hc hpo
      have hx := hρ x
      rw [hp] at hx
      generalize hcc : ρ x = cv at hx
      cases hx with
      | agg h1 h2 =>
        obtain ⟨v', g1, g2⟩ := partA_sound (P := P) (w := w) hj he h1 h2
        refine ⟨v', ?_, g2⟩
        subst hoff
        simp [execOp, Instr.field, run_und hu, hF, hcc, asAgg, g1]
    · simp at he
  case indexAddr t x ix =>
    obtain ⟨v', h1, h2⟩ := indexAddrA_sound (P := P) (w := w) hc he (hρ x) (hρ ix)
    exact ⟨v', by simp [execOp, h1], h2⟩
  case index t x ix =>
    obtain ⟨v', h1, h2⟩ := indexA_sound (P := P) (w := w) hc he (hρ x) (hρ ix)
    exact ⟨v', by simp [execOp, h1], h2⟩
  case lookup t m k ok =>
    obtain ⟨v', h1, h2⟩ := lookupA_sound (P := P) (w := w) hc he (hρ m) (hρ k) hr
    exact ⟨v', by simp [execOp, h1], h2⟩
  case entry it =>
    obtain ⟨v', h1, h2⟩ := entryA_sound (P := P) (w := w) he (hρ it) hr
    exact ⟨v', by simp [execOp, h1], h2⟩
  case extract x i =>
    split at he
    · rename_i vs hp
      have hx := hρ x
      rw [hp] at hx
      generalize hcc : ρ x = cv at hx
      cases hx with
      | tuple h1 =>
        obtain ⟨v', g1, g2⟩ := h1.get he
        refine ⟨v', ?_, g2⟩
        have g1' : _ := g1
        rw [Array.getElem?_toList] at g1'
        simp [execOp, Instr.extract, hcc, g1']
    · simp at he
  case call c =>
    obtain ⟨v', h1, h2⟩ := readCall_sound hc hρ hr ty he
    exact ⟨v', by simp only [execOp]; exact h1, h2⟩
end
end Go.AM
namespace Go.AM
section
variable {P : Program} {cf : Cfg} {β : Inj}

theorem CellsR.of {cs : List AV} {c : Array Value} (h : VRs β cs c.toList) (h1 : ∀ x ∈ c.toList, x.oneCell' = true) : CellsR β cs 0 c := by
  intro i v hv
  obtain ⟨v', g1, g2⟩ := h.get hv
  refine ⟨v', by simpa using g1, g2, h1 _ (List.mem_of_getElem? g1)⟩

theorem OR_cells {cs : List AV} {c : Array Value} {e : TypeId} {H : Array Obj} {B : Nat} (hH : H[B]? = some (.cells c e (0, 0))) (fz : Bool)
    (h : VRs β cs c.toList) (h1 : ∀ x ∈ c.toList, x.oneCell' = true) : OR β H B 0 c.size (.cells cs fz) :=
  ⟨c, e, 0, 0, hH, rfl, .inl rfl, by have := h.length; simp at this; omega, .of h h1⟩

theorem rep_length (z : List AV) : ∀ n, (rep n z).length = n * z.length
  | 0 => by simp [rep]
  | n + 1 => by simp [rep, rep_length z n, Nat.add_mul]; omega

theorem rep_get (z : List AV) : ∀ (n i : Nat), i < n * z.length → (rep n z)[i]? = z[i % z.length]?
  | 0, i, h => by simp at h
  | n + 1, i, h => by
    simp only [rep]
    by_cases hi : i < z.length
    · rw [List.getElem?_append_left hi, Nat.mod_eq_of_lt hi]
    · rw [List.getElem?_append_right (by omega), rep_get z n (i - z.length) (by rw [Nat.add_mul] at h; omega)]
      rw [← Nat.mod_eq_sub_mod (by omega)]

theorem rep_sound {z : List AV} {z' : Array Value} (hz : VRs β z z'.toList) (h1 : ∀ x ∈ z'.toList, x.oneCell' = true) (n : Nat) :
    VRs β (rep n z) ((Array.range (n * z'.size)).map (fun i => z'[i % z'.size]!)).toList ∧
      ∀ x ∈ ((Array.range (n * z'.size)).map (fun i => z'[i % z'.size]!)).toList, x.oneCell' = true := by
  have hl : z.length = z'.size := by have := hz.length; simpa using this
  constructor
  · apply VRs.of_get
    · simp [rep_length, hl]
    · intro i a v ha hv
      have hi : i < n * z.length := by
        rcases Nat.lt_or_ge i (n * z.length) with h | h
        · exact h
        · rw [List.getElem?_eq_none (by rw [rep_length]; exact h)] at ha; simp at ha
      rw [rep_get z n i hi] at ha
      have hi' : i < n * z'.size := by rw [← hl]; exact hi
      have hp : 0 < z'.size := by
        rcases Nat.eq_zero_or_pos z'.size with h | h
        · rw [h] at hi'; simp at hi'
        · exact h
      have hm : i % z'.size < z'.size := Nat.mod_lt _ hp
      obtain ⟨v', g1, g2⟩ := hz.get ha
      rw [hl] at g1
      have : v = v' := by
        simp [hi'] at hv
        rw [getElem!_pos z' _ hm] at hv
        rw [List.getElem?_eq_getElem (by simpa using hm)] at g1
        simp at g1
        rw [← hv, ← g1]
      rw [this]; exact g2
  · intro x hx
    simp at hx
    obtain ⟨i, hi, rfl⟩ := hx
    have hp : 0 < z'.size := by
      rcases Nat.eq_zero_or_pos z'.size with h | h
      · rw [h] at hi; simp at hi
      · exact h
    have hm : i % z'.size < z'.size := Nat.mod_lt _ hp
    rw [getElem!_pos z' _ hm]
    exact h1 _ (by simp)

theorem zero_cells {i : TI} {z : List AV} {zt : Option Value} (hz : i.zero.cells = some z) (h : i.zero = .dead ∨ ∃ z, zt = some z ∧ constAV z = i.zero) (β : Inj) :
    ∃ z', zt = some z' ∧ VRs β z z'.cells.toList ∧ ∀ x ∈ z'.cells.toList, x.oneCell' = true := by
  rcases h with h | ⟨z', h1, h2⟩
  · rw [h] at hz; simp [AV.cells] at hz
  · rw [← h2] at hz
    exact ⟨z', h1, VR.cells (constAV_sound β z') hz⟩

/-- What making a block comes to. -/
structure AllocR (P : Program) (β : Inj) (h : AHeap) (w : World) (v : AV) (h' : AHeap) (s : Sem Next) : Prop where
  ex : ∃ (o : AObj) (O' : Obj) (N : Nat) (v' : Value) (w' : World), h' = h.push o ∧ o.live = true ∧ s.run P w = .ok (.value v') w' ∧ w'.heap = w.heap.push O' ∧ Kp w w' ∧
    (∀ β', β.le β' → β' h.next = some (w.heap.size, 0, N) → VR β' v v') ∧ (∀ β', β.le β' → OR β' w'.heap w.heap.size 0 N o)

theorem AllocR.tn {h : AHeap} {w : World} {v : AV} {h' : AHeap} {s : Sem Next} (a : AllocR P β h w v h' s) (hr : HR β h w.heap) :
    ∃ β' v' w', s.run P w = .ok (.value v') w' ∧ VR β' v v' ∧ TnW β h w β' h' w' := by
  obtain ⟨o, O', N, v', w', rfl, hl, hrun, hH, hK, hv, ho⟩ := a.ex
  refine ⟨β.add h.next (w.heap.size, 0, N), v', w', hrun, hv _ (Inj.le_add hr.fresh) (by simp [Inj.add]), ?_, hK⟩
  rw [hH]
  exact Tn.push hr o O' N (fun β' hb => by have := ho β' hb; rw [hH] at this; exact this)

theorem alloc_sound (hc : RdOk P cf) {ρA : Operand → AV} {ρ : Operand → Value} (hρ : ∀ x, VR β (ρA x) (ρ x)) {h : AHeap} {w : World}
    {o : Oper} {v : AV} {h' : AHeap} (he : allocOp cf ρA h o.op = some (v, h')) : AllocR P β h w v h' (execOp ρ o) := by
  obtain ⟨dst, op, ty, pos, after, guard⟩ := o
  simp only at he
  have hnew : ∀ (x : Obj), (w.heap.push x)[w.heap.size]? = some x := fun x => by simp
  cases op <;> simp only [allocOp] at he <;> try (simp at he; done)
  case alloc t =>
    replace he := opt_do he
    obtain ⟨i, hi, he⟩ := he
    replace he := opt_do he
    obtain ⟨cs, hcs, he⟩ := he
    simp at he
    obtain ⟨rfl, rfl⟩ := he
    obtain ⟨d, ti, hu, hinf, hd, hs, hby, hz⟩ := hc.ty _ _ hi
    obtain ⟨z, hz1, _, _⟩ := zero_cells hcs hz β
    refine ⟨⟨.cells cs false, .cells z.cells t, z.cells.size, .pointer (some ⟨w.heap.size, 0 + 0, none⟩), { w with heap := w.heap.push (.cells z.cells t) }, rfl, rfl, ?_, rfl, ⟨rfl, rfl, rfl⟩, ?_, ?_⟩⟩
    · simp [execOp, Instr.alloc, run_zero hinf hz1, newVar, newRow]
    · intro β' _ hb; exact .ptr hb
    · intro β' hle
      obtain ⟨z2, e2, g1, g2⟩ := zero_cells hcs hz β'
      rw [hz1] at e2; simp at e2; subst e2
      exact OR_cells (hnew _) false g1 g2
  case box t x =>
    replace he := opt_do he
    obtain ⟨cs, hcs, he⟩ := he
    simp at he
    obtain ⟨rfl, rfl⟩ := he
    refine ⟨⟨.cells cs false, .cells (ρ x).cells t, (ρ x).cells.size, .pointer (some ⟨w.heap.size, 0 + 0, none⟩), { w with heap := w.heap.push (.cells (ρ x).cells t) }, rfl, rfl, ?_, rfl, ⟨rfl, rfl, rfl⟩, ?_, ?_⟩⟩
    · simp [execOp, Instr.box, newVar, newRow]
    · intro β' _ hb; exact .ptr hb
    · intro β' hle
      obtain ⟨g1, g2⟩ := VR.cells ((hρ x).mono hle) hcs
      exact OR_cells (hnew _) false g1 g2
  case buildSlice t len parts =>
    replace he := opt_do he
    obtain ⟨i, hi, he⟩ := he
    obtain ⟨d, ti, hu, hinf, hd, hs, hby, hz⟩ := hc.ty _ _ hi
    split at he
    · rename_i e hd'
      have := tdOf_slice (hd.trans hd'); subst this
      replace he := opt_do he
      obtain ⟨j, hj, he⟩ := he
      replace he := opt_do he
      obtain ⟨z, hz2, he⟩ := he
      obtain ⟨d2, ti2, hu2, hinf2, hd2, hs2, hby2, hzz⟩ := hc.ty _ _ hj
      split at he
      · rename_i hb
        replace he := opt_do he
        obtain ⟨cs, hcs, he⟩ := he
        simp at he
        obtain ⟨rfl, rfl⟩ := he
        obtain ⟨zv, hz1, hzr, hz1c⟩ := zero_cells hz2 hzz β
        have hzs : zv.cells.size = j.size := by rw [← hb.2, hzr.length]; simp
        obtain ⟨r1, r2⟩ := rep_sound hzr hz1c len
        obtain ⟨cs', q1, q2, q3, q4⟩ := fillA_sound (parts' := (parts.map fun (x : Nat × Operand) => (x.1, ρ x.2)).toList) hcs r1 r2 (by simp) (by
          have := VRs.map hρ (parts.toList.map (·.2))
          simpa [Function.comp_def] using this)
        rw [hzs] at q1 q4
        have q4' : cs'.size = len * j.size := by simpa using q4
        have hnle : ¬ (len * j.size > 2 ^ 24) := by have := hb.1; omega
        refine ⟨⟨.cells cs false, .cells cs' e, cs'.size, .slice (some ⟨w.heap.size, 0 + 0, none⟩) len len, { w with heap := w.heap.push (.cells cs' e) }, rfl, rfl, ?_, rfl, ⟨rfl, rfl, rfl⟩, ?_, ?_⟩⟩
        · simp only [execOp, Instr.buildSlice, Sem.run_bind, run_und hu, Result.andThen_ok, run_size hinf2, hs2, if_neg hnle]
          by_cases h0 : len * j.size = 0
          · have harr : ∀ (f g : Nat → Value), (Array.range (len * j.size)).map f = (Array.range (len * j.size)).map g := by intro f g; simp [h0]
            have q1' : ∀ f : Nat → Value, Instr.fill (fun i => some (i * j.size, j.size)) ((Array.range (len * j.size)).map f) (parts.map fun (x : Nat × Operand) => (x.1, ρ x.2)).toList = some cs' := by
              intro f; rw [harr f (fun i => zv.cells[i % j.size]!)]; exact q1
            simp only [if_pos h0, Sem.run_bind, Sem.run_pure, Result.andThen_ok, q1']
            rfl
          · simp only [if_neg h0, Sem.run_bind, run_zero hinf2 hz1, Sem.run_pure, Result.andThen_ok, hzs, q1]
            rfl
        · intro β' _ hb'; exact .slice hb' (Nat.le_refl _) (fun _ => rfl) (Nat.le_refl _) (.inr ⟨rfl, by omega⟩)
        · intro β' hle
          exact OR_cells (hnew _) false (q2.mono hle) q3
      · simp at he
    · simp at he
  case makeMap t r =>
    replace he := opt_do he
    obtain ⟨i, hi, he⟩ := he
    obtain ⟨d, ti, hu, hinf, hd, hs, hby, hz⟩ := hc.ty _ _ hi
    have fin : ∀ (r' : Option Value), (Instr.makeMap t r').run P w = .ok (.map (some w.heap.size)) { w with heap := w.heap.push (.map #[] 0) } →
        AllocR P β h w (.map (some h.next)) (h.push (.map [] 0)) (do pure (.value (← Instr.makeMap t r'))) := by
      intro r' hrun
      refine ⟨⟨.map [] 0, .map #[] 0, 0, .map (some w.heap.size), { w with heap := w.heap.push (.map #[] 0) }, rfl, rfl, by simp [hrun], rfl, ⟨rfl, rfl, rfl⟩, ?_, ?_⟩⟩
      · intro β' _ hb; exact .map hb
      · intro β' _; exact ⟨#[], hnew _, trivial⟩
    split at he
    · simp at he
      obtain ⟨rfl, rfl⟩ := he
      exact fin none (by simp [Instr.makeMap])
    · rename_i k e x hd'
      have := tdOf_map (hd.trans hd'); subst this
      split at he
      · rename_i kk n hx
        simp at he
        obtain ⟨rfl, rfl⟩ := he
        have hv := hρ x
        rw [hx] at hv
        refine fin (some (ρ x)) ?_
        generalize hcc : ρ x = cv at hv
        cases hv
        simp [Instr.makeMap, run_und hu, asInt, asIntOf]
      · simp at he
    · simp at he
  case makeSlice t l c =>
    replace he := opt_do he
    obtain ⟨i, hi, he⟩ := he
    obtain ⟨d, ti, hu, hinf, hd, hs, hby, hz⟩ := hc.ty _ _ hi
    split at he
    · rename_i e l0 c0 hd' hl hcc
      have := tdOf_slice (hd.trans hd'); subst this
      replace he := opt_do he
      obtain ⟨j, hj, he⟩ := he
      replace he := opt_do he
      obtain ⟨z, hz2, he⟩ := he
      obtain ⟨d2, ti2, hu2, hinf2, hd2, hs2, hby2, hzz⟩ := hc.ty _ _ hj
      split at he
      · rename_i hb
        simp at he
        obtain ⟨rfl, rfl⟩ := he
        obtain ⟨b1, b2, b3, b4, b5⟩ := hb
        obtain ⟨zv, hz1, hzr, hz1c⟩ := zero_cells hz2 hzz β
        have hzs : zv.cells.size = j.size := by rw [← b5, hzr.length]; simp
        obtain ⟨r1, r2⟩ := rep_sound hzr hz1c c0.toNat
        have hvl := hρ l
        have hvc := hρ c
        rw [hl] at hvl
        rw [hcc] at hvc
        have el : ρ l = .int .i64 l0 := by generalize ρ l = cv at hvl; cases hvl; rfl
        have ec : ρ c = .int .i64 c0 := by generalize ρ c = cv at hvc; cases hvc; rfl
        have wl : IntKind.i64.wrap l0 = l0 := by simp [IntKind.wrap, IntKind.bits, IntKind.signed]; omega
        have wc : IntKind.i64.wrap c0 = c0 := by simp [IntKind.wrap, IntKind.bits, IntKind.signed]; omega
        have hbnd : (ti2.bytes : Int) * c0 ≤ 2 ^ 48 := by
          rw [hby2]
          have h1 : (j.bytes : Int) * c0 ≤ 4096 * c0 := Int.mul_le_mul_of_nonneg_right (by omega) (by omega)
          omega
        have hn1 : ¬ (c0 < 0) := by omega
        have hn2 : ¬ ((ti2.bytes : Int) * c0 > 2 ^ 48) := by omega
        have hn3 : ¬ (l0 < 0) := by omega
        have hn4 : ¬ (l0 > c0) := by omega
        rw [hzs] at r1 r2
        generalize hcells : (Array.range (c0.toNat * j.size)).map (fun i => zv.cells[i % j.size]!) = cells at r1 r2
        have hsz : cells.size = c0.toNat * j.size := by rw [← hcells]; simp
        refine ⟨⟨.cells (rep c0.toNat z) false, .cells cells e, cells.size, .slice (some ⟨w.heap.size, 0 + 0, none⟩) l0.toNat c0.toNat, { w with heap := w.heap.push (.cells cells e) }, rfl, rfl, ?_, rfl, ⟨rfl, rfl, rfl⟩, ?_, ?_⟩⟩
        · simp only [execOp, Instr.makeSlice, el, ec, asInt, asIntOf, Sem.run_bind, Sem.run_pure, run_und hu, Result.andThen_ok, run_tinfo hinf2, wl, wc]
          have hcond : ((decide (c0 < 0) || decide ((ti2.bytes : Int) * c0 > 2 ^ 48)) || decide (l0 < 0) || decide (l0 > c0)) = false := by
            simp only [hn1, hn2, hn3, hn4, decide_false, Bool.or_self]
          rw [hcond]
          simp only [Bool.false_eq_true, if_false, Sem.run_bind, run_askRoom, Result.andThen_ok]
          by_cases h0 : c0.toNat * j.size = 0
          · have harr : ∀ (f : Nat → Value), (Array.range (c0.toNat * j.size)).map f = cells := by intro f; rw [← hcells]; simp [h0]
            simp only [if_pos h0, Sem.run_bind, Sem.run_pure, run_size hinf2, hs2, Result.andThen_ok, harr, newRow, run_newObj]
          · simp only [if_neg h0, Sem.run_bind, run_zero hinf2 hz1, run_size hinf2, hs2, Sem.run_pure, Result.andThen_ok, hzs, hcells, newRow, run_newObj]
        · intro β' _ hb'; exact .slice hb' (Nat.le_refl _) (fun _ => rfl) (by omega) (.inr ⟨rfl, by omega⟩)
        · intro β' hle
          exact OR_cells (hnew _) false (r1.mono hle) r2
      · simp at he
    · simp at he
  case convert s d x =>
    replace he := opt_do he
    obtain ⟨i, hi, he⟩ := he
    obtain ⟨d1, ti1, hu1, _⟩ := hc.ty _ _ hi
    replace he := opt_do he
    obtain ⟨j, hj, he⟩ := he
    obtain ⟨d2, ti2, hu2, hinf2, hd2, hs2, hby2, hzz⟩ := hc.ty _ _ hj
    split at he
    · rename_i e l hd' hx
      have := tdOf_slice (hd2.trans hd'); subst this
      replace he := opt_do he
      obtain ⟨q, hq, he⟩ := he
      obtain ⟨d3, ti3, hu3, hinf3, hd3, hs3, _⟩ := hc.ty _ _ hq
      split at he
      · rename_i hd3'
        have := tdOf_int (hd3.trans hd3'); subst this
        split at he
        · rename_i hlen
          simp at he
          obtain ⟨rfl, rfl⟩ := he
          have hv := hρ x
          rw [hx] at hv
          have ex : ρ x = .string ⟨l.toArray⟩ := by generalize ρ x = cv at hv; cases hv; rfl
          have hsz : (ByteArray.mk l.toArray).size = l.length := by simp [ByteArray.size]
          generalize hcap : (Question.appendCap l.length 0 e).cut (w.tape w.drawn (.appendCap l.length 0 e)) = cap
          have hge : l.length ≤ cap := by rw [← hcap]; simp [Question.cut]
          generalize harr : ((ByteArray.mk l.toArray).data.map (fun b => Value.int .u8 b.toNat) ++ Array.replicate (cap - l.length) (Value.int .u8 0)) = arr
          have hasz : arr.size = cap := by rw [← harr]; simp; omega
          have hrun : (Conv.stringToBytes e ⟨l.toArray⟩).run P w = .ok (.slice (some ⟨w.heap.size, 0 + 0, none⟩) l.length cap)
              { w with heap := w.heap.push (.cells arr e (arr.size, arr.size + 1)), drawn := w.drawn + 1 } := by
            simp only [Conv.stringToBytes, hsz, Sem.run_bind, run_choose, Question.forced, Bool.false_eq_true, if_false, hcap, Result.andThen_ok, harr, newRow, run_newObj,
              Sem.run_pure, markStringish, run_shape, World.shape?, Array.getElem?_push_size, run_freeze, World.freeze, Nat.succ_ne_zero,
              Result.ok.injEq, World.mk.injEq, and_true, true_and]
            apply Array.ext_getElem?
            intro i
            rw [Array.getElem?_modify, Array.getElem?_push, Array.getElem?_push]
            by_cases hi : i = w.heap.size
            · subst hi; simp
            · rw [if_neg (fun h => hi h.symm), if_neg hi, if_neg hi]
          refine ⟨⟨.cells (bytesAV l) true, .cells arr e (arr.size, arr.size + 1), cap, .slice (some ⟨w.heap.size, 0 + 0, none⟩) l.length cap,
            { w with heap := w.heap.push (.cells arr e (arr.size, arr.size + 1)), drawn := w.drawn + 1 }, rfl, rfl, ?_, rfl, ⟨rfl, rfl, rfl⟩, ?_, ?_⟩⟩
          · simp only [execOp, convert, ex, Sem.run_bind, run_und hu1, run_und hu2, run_und hu3, Result.andThen_ok]
            cases d1 <;> simp only [Result.andThen_ok, hrun] <;> rfl
          · intro β' _ hb'
            exact .slice hb' hge (by simp) hge (.inr ⟨rfl, by omega⟩)
          · intro β' _
            refine ⟨arr, e, arr.size, arr.size + 1, hnew _, hasz, .inr ⟨rfl, by omega⟩, by simp [bytesAV]; omega, ?_⟩
            intro i v hv
            simp only [bytesAV, List.getElem?_map] at hv
            obtain ⟨b, hb, rfl⟩ := opt_map hv
            have hi : i < l.length := by
              rcases Nat.lt_or_ge i l.length with h | h
              · exact h
              · rw [List.getElem?_eq_none h] at hb; simp at hb
            refine ⟨.int .u8 b.toNat, ?_, .int _ _, rfl⟩
            rw [← harr, Nat.zero_add, Array.getElem?_append_left (by simpa using hi)]
            simp [hb]
        · simp at he
      · simp at he
    · simp at he
end
end Go.AM
namespace Go.AM
section
variable {P : Program} {cf : Cfg} {β : Inj}

theorem setCell_heap {w : World} {B i : Nat} {c : Array Value} {e : TypeId} {f : Nat × Nat} (h : w.heap[B]? = some (.cells c e f)) (v : Value) :
    w.setCell ⟨B, i, none⟩ v = { w with heap := w.heap.setIfInBounds B (.cells (c.setIfInBounds i v) e f) } := by
  unfold World.setCell
  simp only [Option.isSome_none, Bool.false_eq_true, if_false, World.mk.injEq, and_true]
  apply Array.ext_getElem?
  intro j
  rw [Array.getElem?_modify, Array.getElem?_setIfInBounds]
  by_cases hj : B = j
  · subst hj
    obtain ⟨hlt, hget⟩ := Array.getElem?_eq_some_iff.1 h
    simp [hget, hlt]
  · simp [hj]

theorem set_same {H : Array Obj} {B : Nat} {o : Obj} (h : H[B]? = some o) : H.setIfInBounds B o = H := by
  apply Array.ext_getElem?
  intro j
  rw [Array.getElem?_setIfInBounds]
  by_cases hj : B = j
  · subst hj
    obtain ⟨hlt, hget⟩ := Array.getElem?_eq_some_iff.1 h
    simp [hlt, hget]
  · simp [hj]

theorem set_set (H : Array Obj) (B : Nat) (o o' : Obj) : (H.setIfInBounds B o).setIfInBounds B o' = H.setIfInBounds B o' := by
  apply Array.ext_getElem?
  intro j
  simp only [Array.getElem?_setIfInBounds, Array.size_setIfInBounds]
  by_cases hj : B = j
  · subst hj; simp
  · simp [hj]

theorem get_set_same {H : Array Obj} {B : Nat} (o : Obj) (h : B < H.size) : (H.setIfInBounds B o)[B]? = some o := by
  rw [Array.getElem?_setIfInBounds]; simp [h]

theorem frozen_of {w : World} {B : Nat} {c : Array Value} {e : TypeId} {lo hi : Nat} (h : w.heap[B]? = some (.cells c e (lo, hi))) (hf : lo = hi ∨ c.size ≤ lo)
    {j : Nat} (hj : j < c.size) : w.frozen? ⟨B, j, none⟩ = false := by
  simp only [World.frozen?, h]
  rcases hf with hf | hf <;> simp <;> omega

theorem storeCells_run (B off : Nat) : ∀ (vs : List Value) (i : Nat) (w : World) (c : Array Value) (e : TypeId) (lo hi : Nat),
    w.heap[B]? = some (.cells c e (lo, hi)) → (lo = hi ∨ c.size ≤ lo) → off + i + vs.length ≤ c.size → (∀ x ∈ vs, x.oneCell' = true) →
    (storeCells ⟨B, off, none⟩ vs i).run P w = .ok () { w with heap := w.heap.setIfInBounds B (.cells (putV c.toList (off + i) vs).toArray e (lo, hi)) }
  | [], i, w, c, e, lo, hi, h, _, _, _ => by
    simp only [storeCells, putV, Sem.run_pure]
    rw [set_same (by simpa using h)]
  | v :: vs, i, w, c, e, lo, hi, h, hf, hlen, h1 => by
    simp only [List.length_cons] at hlen
    have hB : B < w.heap.size := (Array.getElem?_eq_some_iff.1 h).1
    have hc : w.cell? ⟨B, off + i, none⟩ = some (c[off + i]'(by omega)) := by
      rw [cell?_of h]; exact Array.getElem?_eq_getElem (by omega)
    have hfr := frozen_of h hf (show off + i < c.size by omega)
    have hst : (store ⟨B, off + i, none⟩ v).run P w = .ok () { w with heap := w.heap.setIfInBounds B (.cells (c.setIfInBounds (off + i) v) e (lo, hi)) } := by
      rw [run_store P w _ v .plain (h1 v (by simp)), hc]
      simp only [hfr, Bool.false_eq_true, if_false]
      rw [setCell_heap h]
    have ih := storeCells_run B off vs (i + 1) { w with heap := w.heap.setIfInBounds B (.cells (c.setIfInBounds (off + i) v) e (lo, hi)) } (c.setIfInBounds (off + i) v) e lo hi
      (get_set_same _ hB) (by simpa using hf) (by simp; omega) (fun x hx => h1 x (by simp [hx]))
    simp only [storeCells, add_none, Sem.run_bind, hst, Result.andThen_ok, ih, set_set, putV]
    simp [Nat.add_assoc]

theorem CellsR.put : ∀ {vs : List AV} {vs' : List Value} {cs : List AV} {l : List Value} {O : Nat} (o : Nat), CellsR β cs O l.toArray → VRs β vs vs' → (∀ x ∈ vs', x.oneCell' = true) →
    o + vs.length ≤ cs.length → O + cs.length ≤ l.length → CellsR β (putAt cs o vs) O (putV l (O + o) vs').toArray
  | _, _, cs, l, O, o, h, .nil, _, _, _ => h
  | _, _, cs, l, O, o, h, .cons (a := a) (v := v) ha ht, h1, hlen, hl => by
    simp only [putAt, putV]
    refine CellsR.put (o + 1) ?_ ht (fun x hx => h1 x (by simp [hx])) (by simp at hlen ⊢; omega) (by simpa using hl)
    intro i x hx
    rw [List.getElem?_set] at hx
    split at hx
    · rename_i e; subst e
      split at hx
      · simp at hx; subst hx
        refine ⟨v, ?_, ha, h1 v (by simp)⟩
        simp at hlen
        simp only [List.getElem?_toArray]
        rw [List.getElem?_set, if_pos rfl, if_pos (by omega)]
      · simp at hx
    · rename_i hne
      obtain ⟨v', g1, g2, g3⟩ := h _ _ hx
      refine ⟨v', ?_, g2, g3⟩
      simp only [List.getElem?_toArray] at g1 ⊢
      rw [List.getElem?_set, if_neg (by omega)]
      exact g1

/-- Storing cells. -/
theorem stCells_sound {h h' : AHeap} {w : World} {a : Nat × Nat} {vs : List AV} {vs' : List Value} {B O N : Nat} (he : stCells h a vs = some h') (hr : HR β h w.heap)
    (hb : β a.1 = some (B, O, N)) (hv : VRs β vs vs') (h1 : ∀ x ∈ vs', x.oneCell' = true) :
    ∃ w', (storeCells ⟨B, O + a.2, none⟩ vs').run P w = .ok () w' ∧ TnW β h w β h' w' := by
  unfold stCells at he
  split at he
  · rename_i cs fz hg
    split at he
    · rename_i hlen
      injection he with he; subst he
      obtain ⟨c, e, lo, hi, hH, hN, hf, hO, hC⟩ := hr.obj _ _ _ _ _ hb hg
      have hvl := hv.length
      have hB := hr.low _ _ _ _ hb
      have hf' : lo = hi ∨ c.size ≤ lo := by rcases hf with hf | hf <;> omega
      refine ⟨_, storeCells_run B (O + a.2) vs' 0 w c e lo hi hH hf' (by omega) h1, ?_⟩
      refine ⟨Tn.set hr hb _ _ (by simp) ?_ ⟨_, hg, rfl⟩ ?_, ⟨rfl, rfl, rfl⟩⟩
      · intro C hC'; simp [Array.getElem?_setIfInBounds]; intro e; exact absurd e.symm hC'
      · refine ⟨(putV c.toList (O + a.2 + 0) vs').toArray, e, lo, hi, get_set_same _ hB, by simp [putV_length, hN], hf, by rw [putAt_length]; exact hO, ?_⟩
        rw [Nat.add_zero]
        exact CellsR.put a.2 (by simpa using hC) hv h1 hlen (by simp; omega)
    · simp at he
  · simp at he

theorem stVar_sound {i : TI} {t : TypeId} {h h' : AHeap} {w : World} {a : Nat × Nat} {v : AV} {v' : Value} {B O N : Nat} (ht : TIok P t i) (he : stVar i h a v = some h')
    (hr : HR β h w.heap) (hb : β a.1 = some (B, O, N)) (hv : VR β v v') :
    ∃ w', (storeVar t ⟨B, O + a.2, none⟩ v').run P w = .ok () w' ∧ TnW β h w β h' w' := by
  obtain ⟨d, ti, hu, hinf, hd, hs, _⟩ := ht
  unfold stVar at he
  split at he
  · rename_i cs hcs
    split at he
    · rename_i hlen
      obtain ⟨g1, g2⟩ := VR.cells hv hcs
      have hsz : v'.cells.size = i.size := by rw [← hlen, g1.length]; simp
      obtain ⟨w', q1, q2⟩ := stCells_sound (P := P) he hr hb g1 g2
      refine ⟨w', ?_, q2⟩
      simp [storeVar, run_size hinf, hs, hsz, q1]
    · simp at he
  · simp at he

theorem ldCells_sound {h : AHeap} {w : World} {a : Nat × Nat} {n : Nat} {cs : List AV} {B O N : Nat} (he : ldCells h a n = some cs) (hr : HR β h w.heap) (hb : β a.1 = some (B, O, N)) :
    ∃ vs : Array Value, (∀ w1 : World, w1.heap = w.heap → (loadCells ⟨B, O + a.2, none⟩ n).run P w1 = .ok vs w1) ∧ VRs β cs vs.toList ∧ (∀ x ∈ vs.toList, x.oneCell' = true) := by
  unfold ldCells at he
  split at he
  · rename_i cs0 fz hg
    split at he
    · rename_i hlen
      injection he with he; subst he
      obtain ⟨c, e, lo, hi, hH, hN, hf, hO, hC⟩ := hr.obj _ _ _ _ _ hb hg
      obtain ⟨vs, g1, g2, g3⟩ := loadCells_sound (P := P) (e := e) (f := (lo, hi)) (B := B) (n := n) hC hlen
      exact ⟨vs.toArray, fun w1 hw => g1 w1 (by rw [hw]; exact hH), by simpa using g2, by simpa using g3⟩
    · simp at he
  · simp at he

theorem src_sound {h : AHeap} {w : World} {sz n : Nat} {x : AV} {x' : Value} {cs : List AV} (he : srcCells h sz x n = some cs) (hx : VR β x x') (hr : HR β h w.heap) :
    ∃ vs : Array Value, (∀ w1 : World, w1.heap = w.heap → (Builtin.firstCells sz n x').run P w1 = .ok vs w1) ∧ VRs β cs vs.toList ∧ (∀ x ∈ vs.toList, x.oneCell' = true) := by
  unfold srcCells at he
  split at he
  · cases hx
    split at he
    · simp at he; subst he
      exact ⟨#[], fun _ _ => rfl, .nil, by simp⟩
    · simp at he
  · rename_i a len cap sz' ex
    obtain ⟨b, o⟩ := a
    cases hx with
    | @slice _ _ B O N _ _ cap' _ _ a hb hcc hxx hll ha =>
      split at he
      · rename_i h0
        simp at he; subst he; subst h0
        refine ⟨#[], fun w1 _ => ?_, .nil, by simp⟩
        simp [Builtin.firstCells, loadCells, loadCellsFrom]
      · split at he
        · rename_i h0 hb2
          obtain ⟨vs, g1, g2, g3⟩ := ldCells_sound (P := P) he hr hb
          rcases ha with ha | ⟨ha, hN⟩
          · omega
          · subst ha
            exact ⟨vs, fun w1 hw => by simpa [Builtin.firstCells] using g1 w1 hw, g2, g3⟩
        · simp at he
  · rename_i s
    cases hx
    injection he with he; subst he
    refine ⟨((s.take n).toArray.map fun b => .int .u8 b.toNat), fun w1 _ => ?_, ?_, ?_⟩
    · simp [Builtin.firstCells, Lib.extract_eq]
    · simp only [bytesAV, Array.toList_map]
      have : ∀ l : List UInt8, VRs β (l.map fun b => AV.int .u8 b.toNat) (l.map fun b => Value.int .u8 b.toNat) := by
        intro l; induction l with
        | nil => exact .nil
        | cons a l ih => exact .cons (.int _ _) ih
      simpa using this (s.take n)
    · intro x hx
      simp only [Array.toList_map, List.mem_map] at hx
      obtain ⟨b, _, rfl⟩ := hx
      rfl
  · simp at he

theorem srcLen_sound {w : World} {x : AV} {x' : Value} {n : Nat} (he : srcLen x = some n) (hx : VR β x x') : (Builtin.lenOf x').run P w = .ok n w := by
  cases hx <;> simp [srcLen] at he <;> subst he
  · simp [Builtin.lenOf, ByteArray.size]
  · rfl
  · rfl

theorem copyA_sound (hc : RdOk P cf) {h h' : AHeap} {w : World} {ts : Array TypeId} {args : List AV} {args' : Array Value} {v : AV} (u : TypeId)
    (he : copyA cf h ts.toList args = some (v, h')) (ha : VRs β args args'.toList) (hr : HR β h w.heap) :
    ∃ v' w', (Builtin.copy_ ts u args').run P w = .ok v' w' ∧ VR β v v' ∧ TnW β h w β h' w' := by
  unfold copyA at he
  split at he
  · rename_i t l d x hts
    replace he := opt_do he
    obtain ⟨i, hi, he⟩ := he
    obtain ⟨d0, ti, hu, hinf, hd, hs, _⟩ := hc.ty _ _ hi
    split at he
    · rename_i e base len cap sz ex hd'
      have := tdOf_slice (hd.trans hd'); subst this
      replace he := opt_do he
      obtain ⟨j, hj, he⟩ := he
      obtain ⟨d2, ti2, hu2, hinf2, hd2, hs2, _⟩ := hc.ty _ _ hj
      replace he := opt_do he
      obtain ⟨m, hm, he⟩ := he
      have h0 : ts[0]? = some t := by rw [← Array.getElem?_toList, hts]; rfl
      obtain ⟨l'⟩ := args'
      cases ha with
      | cons hd1 ha => cases ha with
        | cons hx ha => cases ha with
          | nil =>
            rename_i dv xv
            have hl := srcLen_sound (P := P) (w := w) hm hx
            have hrunpre : ∀ (s : Sem Value), True := fun _ => trivial
            split at he
            · rename_i hn0
              simp at he
              obtain ⟨rfl, rfl⟩ := he
              have hfirst : (Builtin.firstCells ti2.size 0 xv).run P w = .ok #[] w := by
                cases hx <;> simp [srcLen] at hm <;> simp [Builtin.firstCells, loadCells, loadCellsFrom]
              cases hd1 with
              | sliceNil =>
                refine ⟨.int .i64 0, w, ?_, .int _ _, .refl hr⟩
                simp only [Builtin.copy_, h0, List.getElem?_toArray, List.getElem?_cons_zero, List.getElem?_cons_succ, Sem.run_bind, run_und hu, Result.andThen_ok, hl]
                have : Nat.min m 0 = 0 := by simp
                simp [this, run_size hinf2, hfirst, goInt]
              | slice hb hcc hxx hll hab =>
                refine ⟨.int .i64 0, w, ?_, .int _ _, .refl hr⟩
                have : Nat.min m len = 0 := hn0
                simp only [Builtin.copy_, h0, List.getElem?_toArray, List.getElem?_cons_zero, List.getElem?_cons_succ, Sem.run_bind, run_und hu, Result.andThen_ok, hl, this]
                simp [run_size hinf2, hfirst, goInt, storeCells]
            · rename_i hn0
              replace he := opt_bind he
              obtain ⟨new, hnew, he⟩ := he
              split at he
              · simp at he
              · rename_i a
                split at he
                · rename_i hsz
                  obtain ⟨h2, hst, he⟩ := opt_map he
                  simp at he
                  obtain ⟨rfl, rfl⟩ := he
                  obtain ⟨vs, g1, g2, g3⟩ := src_sound (P := P) (w := w) hnew hx hr
                  obtain ⟨b, o⟩ := a
                  cases hd1 with
                  | @slice _ _ B O N _ _ cap' _ _ a hb hcc hxx hll hab =>
                    rcases hab with hab | ⟨rfl, hN⟩
                    · omega
                    · obtain ⟨w', q1, q2⟩ := stCells_sound (P := P) hst hr hb g2 g3
                      refine ⟨.int .i64 (min m len : Nat), w', ?_, .int _ _, q2⟩
                      simp only [Builtin.copy_, h0, List.getElem?_toArray, List.getElem?_cons_zero, List.getElem?_cons_succ, Sem.run_bind, run_und hu, Result.andThen_ok, hl,
                        run_size hinf2, hs2]
                      have : Nat.min m len = min m len := rfl
                      simp only [this, g1 w rfl, Result.andThen_ok, q1, goInt, Sem.run_pure]
                · simp at he
    · simp at he
  · simp at he

end
end Go.AM
namespace Go.AM
section
variable {P : Program} {cf : Cfg} {β : Inj}

theorem setObj_run {w : World} {r : Nat} {o o' : Obj} (h : w.heap[r]? = some o) (hn : ∀ c e f, o ≠ .cells c e f) :
    (setObj r o').run P w = .ok () { w with heap := w.heap.setIfInBounds r o' } := by
  cases o <;> first | (exact absurd rfl (hn _ _ _)) | simp only [setObj, Sem.run, h]

theorem ESR.append {l : List (AV × AV × Nat)} : ∀ {r : List MapEntry} {k v : AV} {e : MapEntry}, ESR β l r → VR β k e.key → VR β v e.val → ESR β (l ++ [(k, v, e.born)]) (r ++ [e]) := by
  induction l with
  | nil => intro r k v e h hk hv; cases r with
    | nil => exact ⟨hk, hv, rfl, trivial⟩
    | cons => exact h.elim
  | cons a l ih => intro r k v e h hk hv; cases r with
    | nil => exact h.elim
    | cons e' r => exact ⟨h.1, h.2.1, h.2.2.1, ih h.2.2.2 hk hv⟩

theorem ESR.set {l : List (AV × AV × Nat)} : ∀ {r : List MapEntry} {i : Nat} {k v q u : AV} {n : Nat} {e : MapEntry}, ESR β l r → l[i]? = some (q, u, n) → VR β k e.key → VR β v e.val →
    e.born = n → ESR β (l.set i (k, v, n)) (r.set i e) := by
  induction l with
  | nil => intro r i k v q u n e h hi; simp at hi
  | cons a l ih => intro r i k v q u n e h hi hk hv hn; cases r with
    | nil => exact h.elim
    | cons e' r =>
      cases i with
      | zero => exact ⟨hk, hv, hn, h.2.2.2⟩
      | succ i => exact ⟨h.1, h.2.1, h.2.2.1, ih h.2.2.2 (by simpa using hi) hk hv hn⟩

theorem ESR.erase {l : List (AV × AV × Nat)} : ∀ {r : List MapEntry} (i : Nat), ESR β l r → ESR β (l.eraseIdx i) (r.eraseIdx i) := by
  induction l with
  | nil => intro r i h; cases r with
    | nil => exact trivial
    | cons => exact h.elim
  | cons a l ih => intro r i h; cases r with
    | nil => exact h.elim
    | cons e' r =>
      cases i with
      | zero => exact h.2.2.2
      | succ i => exact ⟨h.1, h.2.1, h.2.2.1, ih i h.2.2.2⟩

theorem ESR.get {l : List (AV × AV × Nat)} : ∀ {r : List MapEntry} {i : Nat} {q u : AV} {n : Nat}, ESR β l r → l[i]? = some (q, u, n) →
    ∃ e, r[i]? = some e ∧ VR β q e.key ∧ VR β u e.val ∧ e.born = n := by
  induction l with
  | nil => intro r i q u n h hi; simp at hi
  | cons a l ih => intro r i q u n h hi; cases r with
    | nil => exact h.elim
    | cons e' r =>
      cases i with
      | zero => simp at hi; subst hi; exact ⟨e', rfl, h.1, h.2.1, h.2.2.1⟩
      | succ i => obtain ⟨e, g⟩ := ih h.2.2.2 (by simpa using hi); exact ⟨e, by simpa using g.1, g.2⟩

theorem modify_toList (es : Array MapEntry) (i : Nat) (e : MapEntry) (f : MapEntry → MapEntry) (h : es.toList[i]? = some e) : (es.modify i f).toList = es.toList.set i (f e) := by
  apply List.ext_getElem?
  intro j
  rw [Array.getElem?_toList, Array.getElem?_modify, List.getElem?_set]
  by_cases hj : i = j
  · subst hj
    have : es[i]? = some e := by simpa using h
    obtain ⟨hlt, hg⟩ := Array.getElem?_eq_some_iff.1 this
    simp [hlt, hg]
  · simp [hj]

theorem erase_toList (es : Array MapEntry) (i : Nat) : (es.eraseIdxIfInBounds i).toList = es.toList.eraseIdx i := by
  simp

theorem sameBits_key {d : TD} {a b : AV} {a' b' : Value} (ha : isKey d a = true) (hb : isKey d b = true) (hs : keySame a b = true) (h1 : VR β a a') (h2 : VR β b b') (n : Nat) :
    Instr.sameBits n b' a' = true := by
  cases d <;> cases a <;> simp [isKey] at ha <;> cases b <;> simp [isKey] at hb <;> cases h1 <;> cases h2 <;> cases n <;> simp_all [Instr.sameBits, keySame, ba_beq]

theorem keyThatStays_run {w : World} {a b : Value} (h : Instr.sameBits 10000 a b = true) : (Instr.keyThatStays a b).run P w = .ok b w := by
  simp [Instr.keyThatStays, h]

/-- A map that is another one now. -/
theorem Tn.setMap {h : AHeap} {w : World} (hr : HR β h w.heap) {b R O N : Nat} (hb : β b = some (R, O, N)) {es0 : List (AV × AV × Nat)} {c0 : Nat} (hg : h.get b = some (.map es0 c0))
    {es : List (AV × AV × Nat)} {es' : Array MapEntry} (hE : ESR β es es'.toList) (c : Nat) :
    TnW β h w β (h.set b (.map es c)) { w with heap := w.heap.setIfInBounds R (.map es' c) } := by
  refine ⟨?_, ⟨rfl, rfl, rfl⟩⟩
  show Tn β h w.heap β (h.set b (.map es c)) (w.heap.setIfInBounds R (.map es' c))
  refine Tn.set hr hb _ _ (by simp) ?_ ⟨_, hg, rfl⟩ ?_
  · intro C hC'; simp [Array.getElem?_setIfInBounds]; intro e; exact absurd e.symm hC'
  · exact ⟨es', get_set_same _ (hr.low _ _ _ _ hb), hE⟩

theorem mapUpdateA_sound (hc : RdOk P cf) {h h' : AHeap} {w : World} {t : TypeId} {m k v : AV} {m' k' v' : Value} (he : mapUpdateA cf h t m k v = some h')
    (hm : VR β m m') (hk : VR β k k') (hv : VR β v v') (hr : HR β h w.heap) :
    ∃ w', (Instr.mapUpdate t m' k' v').run P w = .ok () w' ∧ TnW β h w β h' w' := by
  unfold mapUpdateA at he
  replace he := opt_do he
  obtain ⟨i, hi, he⟩ := he
  obtain ⟨d, ti, hu, hinf, hd, hs, _⟩ := hc.ty _ _ hi
  split at he
  · rename_i kt et r hd'
    have := tdOf_map (hd.trans hd'); subst this
    replace he := opt_do he
    obtain ⟨kd, hkd, he⟩ := he
    obtain ⟨dk, tik, huk, hinfk, hdk, _⟩ := hc.ty _ _ hkd
    split at he
    · simp at he
    · rename_i hik
      have hik' : isKey (tdOf dk) k = true := by rw [hdk]; simpa using hik
      have hck : (Instr.checkKey false 10000 kt k').run P w = .ok () w := checkKey_plain huk (isKey_keyD hik') false 9999 k'
      cases hm with
      | @map _ R O N hb =>
        split at he
        · rename_i es c hg
          obtain ⟨es', hH, hE⟩ := hr.obj _ _ _ _ _ hb hg
          replace he := opt_do he
          obtain ⟨f, hf, he⟩ := he
          rw [← hdk] at hf
          have hfs := findA_sound hik' hk hE hf
          split at he
          · rename_i j u n
            injection he with he; subst he
            simp only at hfs
            obtain ⟨u', g1, g2, g3, e, g4, g5, g6, q, g7, g8, g9, g10⟩ := hfs
            simp only [Nat.sub_zero] at g4 g7
            have hsb := sameBits_key (β := β) hik' g10 g9 hk g8 10000
            have g4' : es'[j]? = some e := by simpa using g4
            have hE2 : ESR β (updEntry es j k v) (es'.modify j fun e => { e with key := k', val := v' }).toList := by
              rw [modify_toList es' j e _ g4]
              unfold updEntry
              rw [g7]
              exact hE.set (e := { e with key := k', val := v' }) g7 hk hv g5
            refine ⟨_, ?_, Tn.setMap hr hb hg hE2 c⟩
            simp only [Instr.mapUpdate, Sem.run_bind, run_und hu, Result.andThen_ok, getObj_run hH (by simp), hck, Instr.findKey, run_und huk, g1, Sem.run_pure, g4',
              Option.map_some, Option.getD_some, keyThatStays_run hsb, setObj_run hH (by simp)]
          · injection he with he; subst he
            simp only at hfs
            have hE2 : ESR β (es ++ [(k, v, c)]) (es'.push { key := k', val := v', born := c }).toList := by
              rw [Array.toList_push]
              exact hE.append (e := { key := k', val := v', born := c }) hk hv
            refine ⟨_, ?_, Tn.setMap hr hb hg hE2 (c + 1)⟩
            simp only [Instr.mapUpdate, Sem.run_bind, run_und hu, Result.andThen_ok, getObj_run hH (by simp), hck, Instr.findKey, run_und huk, hfs, Sem.run_pure,
              setObj_run hH (by simp)]
        · simp at he
  · simp at he

theorem mapEntryA_sound (hc : RdOk P cf) {h h' : AHeap} {w : World} {t : TypeId} {m k x : AV} {m' k' : Value} (he : mapEntryA cf h t m k = some (x, h'))
    (hm : VR β m m') (hk : VR β k k') (hr : HR β h w.heap) :
    ∃ x' w', (Instr.mapEntry t m' k').run P w = .ok x' w' ∧ VR β x x' ∧ TnW β h w β h' w' := by
  unfold mapEntryA at he
  replace he := opt_do he
  obtain ⟨i, hi, he⟩ := he
  obtain ⟨d, ti, hu, hinf, hd, hs, _⟩ := hc.ty _ _ hi
  split at he
  · rename_i kt et r hd'
    have := tdOf_map (hd.trans hd'); subst this
    replace he := opt_do he
    obtain ⟨kd, hkd, he⟩ := he
    replace he := opt_do he
    obtain ⟨ed, hed, he⟩ := he
    obtain ⟨dk, tik, huk, hinfk, hdk, _⟩ := hc.ty _ _ hkd
    obtain ⟨de, tie, hue, hinfe, hde, _, _, hz⟩ := hc.ty _ _ hed
    split at he
    · simp at he
    · rename_i hik
      have hik' : isKey (tdOf dk) k = true := by rw [hdk]; simpa using hik
      have hck : (Instr.checkKey false 10000 kt k').run P w = .ok () w := checkKey_plain huk (isKey_keyD hik') false 9999 k'
      cases hm with
      | @map _ R O N hb =>
        split at he
        · rename_i es c hg
          obtain ⟨es', hH, hE⟩ := hr.obj _ _ _ _ _ hb hg
          replace he := opt_do he
          obtain ⟨f, hf, he⟩ := he
          rw [← hdk] at hf
          have hfs := findA_sound hik' hk hE hf
          split at he
          · rename_i j u n
            simp at he
            obtain ⟨rfl, rfl⟩ := he
            simp only at hfs
            obtain ⟨u', g1, g2, g3, e, g4, g5, g6, q, g7, g8, g9, g10⟩ := hfs
            simp only [Nat.sub_zero] at g4 g7
            have hsb := sameBits_key (β := β) hik' g10 g9 hk g8 10000
            have g4' : es'[j]? = some e := by simpa using g4
            have hE2 : ESR β (updEntry es j k u) (es'.modify j fun e => { e with key := k' }).toList := by
              rw [modify_toList es' j e _ g4]
              unfold updEntry
              rw [g7]
              exact hE.set (e := { e with key := k' }) g7 hk (by simp only; rw [g6]; exact g2) g5
            refine ⟨.tuple #[u', goInt n], _, ?_, .tuple (.cons g2 (.cons (.int _ _) .nil)), Tn.setMap hr hb hg hE2 c⟩
            simp only [Instr.mapEntry, Sem.run_bind, run_und hu, Result.andThen_ok, getObj_run hH (by simp), hck, Instr.findKey, run_und huk, g1, Sem.run_pure, g4',
              Option.map_some, Option.getD_some, keyThatStays_run hsb, setObj_run hH (by simp), g5]
          · obtain ⟨z, hz1, he⟩ := opt_map he
            simp at he
            obtain ⟨rfl, rfl⟩ := he
            simp only at hfs
            obtain ⟨z', hz2, hz3⟩ := zeroA_sound (β := β) hz1 hz
            have hE2 : ESR β (es ++ [(k, z, c)]) (es'.push { key := k', val := z', born := c }).toList := by
              rw [Array.toList_push]
              exact hE.append (e := { key := k', val := z', born := c }) hk hz3
            refine ⟨.tuple #[z', goInt c], _, ?_, .tuple (.cons hz3 (.cons (.int _ _) .nil)), Tn.setMap hr hb hg hE2 (c + 1)⟩
            simp only [Instr.mapEntry, Sem.run_bind, run_und hu, Result.andThen_ok, getObj_run hH (by simp), hck, Instr.findKey, run_und huk, hfs, Sem.run_pure,
              run_zero hinfe hz2, setObj_run hH (by simp)]
        · simp at he
  · simp at he

theorem putBorn_sound {n : Nat} {v : AV} {v' : Value} (hv : VR β v v') : ∀ {l l2 : List (AV × AV × Nat)} {r : List MapEntry}, putBorn l n v = some l2 → ESR β l r →
    ∃ i e, r.findIdx? (fun e => (e.born : Int) == (n : Int)) = some i ∧ r[i]? = some e ∧ ESR β l2 (r.set i { e with val := v' })
  | [], _, _, he, _ => by simp [putBorn] at he
  | (_, _, _) :: _, _, [], _, hE => hE.elim
  | (k, u, b) :: l, l2, e :: r, he, hE => by
    simp only [putBorn] at he
    split at he
    · rename_i hb
      injection he with he; subst he; subst hb
      refine ⟨0, e, ?_, rfl, ⟨hE.1, hv, hE.2.2.1, hE.2.2.2⟩⟩
      simp [List.findIdx?_cons, hE.2.2.1]
    · rename_i hb
      obtain ⟨l3, h3, rfl⟩ := opt_map he
      obtain ⟨i, e', g1, g2, g3⟩ := putBorn_sound hv h3 hE.2.2.2
      refine ⟨i + 1, e', ?_, by simpa using g2, ⟨hE.1, hE.2.1, hE.2.2.1, g3⟩⟩
      have : ((e.born : Int) == (n : Int)) = false := by
        have := hE.2.2.1
        simp; omega
      simp [List.findIdx?_cons, this, g1]

theorem entryStoreA_sound {h h' : AHeap} {w : World} {t : TypeId} {m s v : AV} {m' s' v' : Value} (he : entryStoreA h m s v = some h')
    (hm : VR β m m') (hs : VR β s s') (hv : VR β v v') (hr : HR β h w.heap) :
    ∃ w', (Instr.entryStore t m' s' v').run P w = .ok () w' ∧ TnW β h w β h' w' := by
  unfold entryStoreA at he
  split at he
  · rename_i r kk n
    cases hm with
    | @map _ R O N hb =>
      cases hs
      split at he
      · rename_i es c hg
        obtain ⟨es', hH, hE⟩ := hr.obj _ _ _ _ _ hb hg
        split at he
        · rename_i hn
          obtain ⟨l2, hl2, rfl⟩ := opt_map he
          obtain ⟨i, e, g1, g2, g3⟩ := putBorn_sound hv hl2 hE
          have hE2 : ESR β l2 (es'.modify i fun e => { e with val := v' }).toList := by
            rw [modify_toList es' i e _ g2]; exact g3
          refine ⟨_, ?_, Tn.setMap hr hb hg hE2 c⟩
          have g1' : es'.findIdx? (fun e => (e.born : Int) == n) = some i := by
            have : ((n.toNat : Nat) : Int) = n := by omega
            rw [this] at g1
            obtain ⟨l⟩ := es'
            rw [List.findIdx?_toArray]
            exact g1
          simp only [Instr.entryStore, Sem.run_bind, getObj_run hH (by simp), Result.andThen_ok, asInt, asIntOf, Sem.run_pure, g1', setObj_run hH (by simp)]
        · simp at he
      · simp at he
  · simp at he

theorem deleteA_sound (hc : RdOk P cf) {h h' : AHeap} {w : World} {ts : Array TypeId} {args : List AV} {args' : Array Value} {v : AV} (u : TypeId)
    (he : deleteA cf h ts.toList args = some (v, h')) (ha : VRs β args args'.toList) (hr : HR β h w.heap) :
    ∃ v' w', (Builtin.delete_ ts u args').run P w = .ok v' w' ∧ VR β v v' ∧ TnW β h w β h' w' := by
  unfold deleteA at he
  split at he
  · rename_i t l m k hts
    replace he := opt_do he
    obtain ⟨i, hi, he⟩ := he
    obtain ⟨d0, ti, hu, hinf, hd, hs, _⟩ := hc.ty _ _ hi
    split at he
    · rename_i kt et hd'
      have := tdOf_map (hd.trans hd'); subst this
      replace he := opt_do he
      obtain ⟨kd, hkd, he⟩ := he
      obtain ⟨dk, tik, huk, hinfk, hdk, _⟩ := hc.ty _ _ hkd
      have h0 : ts[0]? = some t := by rw [← Array.getElem?_toList, hts]; rfl
      obtain ⟨l'⟩ := args'
      cases ha with
      | cons hm ha => cases ha with
        | cons hk ha => cases ha with
          | nil =>
            rename_i mv kv
            split at he
            · simp at he
            · rename_i hik
              have hik' : isKey (tdOf dk) k = true := by rw [hdk]; simpa using hik
              have hck : ∀ b, (Instr.checkKey b 10000 kt kv).run P w = .ok () w := fun b => checkKey_plain huk (isKey_keyD hik') b 9999 kv
              split at he
              · cases hm
                simp at he
                obtain ⟨rfl, rfl⟩ := he
                refine ⟨.tuple #[], w, ?_, .tuple .nil, .refl hr⟩
                simp only [Builtin.delete_, h0, List.getElem?_toArray, List.getElem?_cons_zero, List.getElem?_cons_succ, Sem.run_bind, run_und hu, Result.andThen_ok, hck, Sem.run_pure]
              · cases hm with
                | @map _ R O N hb =>
                  split at he
                  · rename_i es c hg
                    obtain ⟨es', hH, hE⟩ := hr.obj _ _ _ _ _ hb hg
                    replace he := opt_do he
                    obtain ⟨f, hf, he⟩ := he
                    rw [← hdk] at hf
                    have hfs := findA_sound hik' hk hE hf
                    split at he
                    · rename_i j u2 n
                      simp at he
                      obtain ⟨rfl, rfl⟩ := he
                      simp only at hfs
                      obtain ⟨u', g1, g2, _⟩ := hfs
                      have hE2 : ESR β (es.eraseIdx j) (es'.eraseIdxIfInBounds j).toList := by
                        rw [erase_toList]; exact hE.erase j
                      refine ⟨.tuple #[], _, ?_, .tuple .nil, Tn.setMap hr hb hg hE2 c⟩
                      simp only [Builtin.delete_, h0, List.getElem?_toArray, List.getElem?_cons_zero, List.getElem?_cons_succ, Sem.run_bind, run_und hu, Result.andThen_ok, hck, Sem.run_pure,
                        getObj_run hH (by simp), Instr.findKey, run_und huk, g1, setObj_run hH (by simp)]
                    · simp at he
                      obtain ⟨rfl, rfl⟩ := he
                      simp only at hfs
                      refine ⟨.tuple #[], _, ?_, .tuple .nil, Tn.setMap hr hb hg hE c⟩
                      simp only [Builtin.delete_, h0, List.getElem?_toArray, List.getElem?_cons_zero, List.getElem?_cons_succ, Sem.run_bind, run_und hu, Result.andThen_ok, hck, Sem.run_pure,
                        getObj_run hH (by simp), Instr.findKey, run_und huk, hfs, setObj_run hH (by simp)]
                  · simp at he
              · simp at he
    · simp at he
  · simp at he

end
end Go.AM
namespace Go.AM
section
variable {P : Program} {cf : Cfg} {β : Inj}

theorem clearA_sound (hc : RdOk P cf) {h h' : AHeap} {w : World} {ts : Array TypeId} {args : List AV} {args' : Array Value} {v : AV} (u : TypeId)
    (he : clearA cf h ts.toList args = some (v, h')) (ha : VRs β args args'.toList) (hr : HR β h w.heap) :
    ∃ v' w', (Builtin.clear_ ts u args').run P w = .ok v' w' ∧ VR β v v' ∧ TnW β h w β h' w' := by
  unfold clearA at he
  split at he
  · rename_i t x hts
    replace he := opt_do he
    obtain ⟨i, hi, he⟩ := he
    obtain ⟨d0, ti, hu, hinf, hd, hs, _⟩ := hc.ty _ _ hi
    have h0 : ts[0]? = some t := by rw [← Array.getElem?_toList, hts]; rfl
    obtain ⟨l'⟩ := args'
    cases ha with
    | cons hx ha => cases ha with
      | nil =>
        rename_i xv
        split at he
        · simp at he
          obtain ⟨rfl, rfl⟩ := he
          cases hx
          refine ⟨.tuple #[], w, ?_, .tuple .nil, .refl hr⟩
          simp only [Builtin.clear_, h0, List.getElem?_toArray, List.getElem?_cons_zero, Sem.run_bind, run_und hu, Result.andThen_ok]
          cases d0 <;> rfl
        · rename_i e a n cap sz ex hd'
          have := tdOf_slice (hd.trans hd'); subst this
          split at he
          · rename_i hn
            simp at he
            obtain ⟨rfl, rfl⟩ := he
            subst hn
            cases hx
            refine ⟨.tuple #[], w, ?_, .tuple .nil, .refl hr⟩
            simp only [Builtin.clear_, h0, List.getElem?_toArray, List.getElem?_cons_zero, Sem.run_bind, run_und hu, Result.andThen_ok]
            rfl
          · rename_i hn
            replace he := opt_do he
            obtain ⟨j, hj, he⟩ := he
            replace he := opt_do he
            obtain ⟨z, hz2, he⟩ := he
            obtain ⟨d2, ti2, hu2, hinf2, hd2, hs2, hby2, hzz⟩ := hc.ty _ _ hj
            split at he
            · rename_i hb
              obtain ⟨h2, hst, he⟩ := opt_map he
              simp at he
              obtain ⟨rfl, rfl⟩ := he
              obtain ⟨zv, hz1, hzr, hz1c⟩ := zero_cells hz2 hzz β
              obtain ⟨r1, r2⟩ := rep_sound hzr hz1c n
              obtain ⟨b, o⟩ := a
              cases hx with
              | @slice _ _ B O N _ _ cap' _ _ a hb hcc hxx hll hab =>
                rcases hab with hab | ⟨rfl, hN⟩
                · omega
                · obtain ⟨w', q1, q2⟩ := stCells_sound (P := P) hst hr hb r1 r2
                  refine ⟨.tuple #[], w', ?_, .tuple .nil, q2⟩
                  obtain ⟨k, rfl⟩ : ∃ k, n = k + 1 := ⟨n - 1, by omega⟩
                  simp only [Builtin.clear_, h0, List.getElem?_toArray, List.getElem?_cons_zero, Sem.run_bind, run_und hu, Result.andThen_ok, run_zero hinf2 hz1, Builtin.zeroCells, q1,
                    Sem.run_pure]
            · simp at he
        · simp at he
          obtain ⟨rfl, rfl⟩ := he
          cases hx
          refine ⟨.tuple #[], w, ?_, .tuple .nil, .refl hr⟩
          simp only [Builtin.clear_, h0, List.getElem?_toArray, List.getElem?_cons_zero, Sem.run_bind, run_und hu, Result.andThen_ok]
          cases d0 <;> rfl
        · rename_i k e r hd'
          have := tdOf_map (hd.trans hd'); subst this
          cases hx with
          | @map _ R O N hb =>
            split at he
            · rename_i es c hg
              simp at he
              obtain ⟨rfl, rfl⟩ := he
              obtain ⟨es', hH, hE⟩ := hr.obj _ _ _ _ _ hb hg
              refine ⟨.tuple #[], _, ?_, .tuple .nil, Tn.setMap hr hb hg (es := []) (es' := #[]) trivial c⟩
              simp only [Builtin.clear_, h0, List.getElem?_toArray, List.getElem?_cons_zero, Sem.run_bind, run_und hu, Result.andThen_ok, getObj_run hH (by simp), setObj_run hH (by simp),
                Sem.run_pure]
            · simp at he
        · simp at he
  · simp at he

theorem rangeA_sound (hc : RdOk P cf) {h h' : AHeap} {w : World} {t : TypeId} {x v : AV} {x' : Value} (he : rangeA cf h t x = some (v, h')) (hx : VR β x x') (hr : HR β h w.heap) :
    ∃ v' w' β', (Instr.range t x').run P w = .ok v' w' ∧ VR β' v v' ∧ TnW β h w β' h' w' := by
  unfold rangeA at he
  split at he
  · rename_i k e htd
    obtain ⟨d, hu, hd⟩ := td_ok hc htd
    have := tdOf_map hd; subst this
    simp at he
    obtain ⟨rfl, rfl⟩ := he
    cases hx
    refine ⟨.pointer (some ⟨w.heap.size, 0 + 0, none⟩), { w with heap := w.heap.push (.mapIter none 0 #[] 0) }, β.add h.next (w.heap.size, 0, 0), ?_, .ptr (show (β.add h.next (w.heap.size, 0, 0)) h.next = some (w.heap.size, 0, 0) by simp [Inj.add]), ?_⟩
    · simp [Instr.range, run_und hu]
    · exact ⟨Tn.push hr (.miter none 0 [] 0) (.mapIter none 0 #[] 0) 0 fun β' _ => ⟨rfl, none, by simp, .mapNil⟩, ⟨rfl, rfl, rfl⟩⟩
  · rename_i k e m htd
    obtain ⟨d, hu, hd⟩ := td_ok hc htd
    have := tdOf_map hd; subst this
    cases hx with
    | @map _ R O N hb =>
      split at he
      · rename_i es clock hg
        simp at he
        obtain ⟨rfl, rfl⟩ := he
        obtain ⟨es', hH, hE⟩ := hr.obj _ _ _ _ _ hb hg
        refine ⟨.pointer (some ⟨w.heap.size, 0 + 0, none⟩), { w with heap := w.heap.push (.mapIter (some R) clock #[] clock) }, β.add h.next (w.heap.size, 0, 0), ?_, .ptr (show (β.add h.next (w.heap.size, 0, 0)) h.next = some (w.heap.size, 0, 0) by simp [Inj.add]), ?_⟩
        · simp [Instr.range, run_und hu, getObj_run hH (by simp)]
        · exact ⟨Tn.push hr (.miter (some m) clock [] clock) (.mapIter (some R) clock #[] clock) 0 fun β' hle => ⟨rfl, some R, by simp, .map (hle _ _ hb)⟩, ⟨rfl, rfl, rfl⟩⟩
      · simp at he
  · simp at he

theorem ESR.filter (p : Nat → Bool) : ∀ {l : List (AV × AV × Nat)} {r : List MapEntry}, ESR β l r → ESR β (l.filter fun e => p e.2.2) (r.filter fun e => p e.born)
  | [], [], _ => trivial
  | (k, v, n) :: l, e :: r, h => by
    have hn := h.2.2.1
    have ih := ESR.filter p h.2.2.2
    simp only [List.filter_cons, hn]
    split
    · exact ⟨h.1, h.2.1, hn, ih⟩
    · exact ih
  | [], _ :: _, h => h.elim
  | (_, _, _) :: _, [], h => h.elim

theorem ESR.cat : ∀ {l : List (AV × AV × Nat)} {r : List MapEntry} {l2 : List (AV × AV × Nat)} {r2 : List MapEntry}, ESR β l r → ESR β l2 r2 → ESR β (l ++ l2) (r ++ r2)
  | [], [], _, _, _, h => h
  | (_, _, _) :: _, _ :: _, _, _, h, h2 => ⟨h.1, h.2.1, h.2.2.1, ESR.cat h.2.2.2 h2⟩
  | [], _ :: _, _, _, h, _ => h.elim
  | (_, _, _) :: _, [], _, _, h, _ => h.elim

theorem ESR.length : ∀ {l : List (AV × AV × Nat)} {r : List MapEntry}, ESR β l r → l.length = r.length
  | [], [], _ => rfl
  | (_, _, _) :: _, _ :: _, h => by simp [ESR.length h.2.2.2]
  | [], _ :: _, h => h.elim
  | (_, _, _) :: _, [], h => h.elim

theorem ESR.all (p : Nat → Bool) : ∀ {l : List (AV × AV × Nat)} {r : List MapEntry}, ESR β l r → (l.all fun e => p e.2.2) = (r.all fun e => p e.born)
  | [], [], _ => rfl
  | (_, _, _) :: _, _ :: _, h => by simp only [List.all_cons, ESR.all p h.2.2.2, h.2.2.1]
  | [], _ :: _, h => h.elim
  | (_, _, _) :: _, [], h => h.elim

theorem run_choose_map {w : World} (n : Nat) : ∃ (i : Nat) (w' : World), (choose (.mapNext n)).run P w = .ok i w' ∧ w'.heap = w.heap ∧ Kp w w' ∧ (if n ≤ 1 then i = 0 else i < n) := by
  rw [run_choose]
  by_cases h : n ≤ 1
  · refine ⟨0, w, ?_, rfl, .refl w, by simp [h]⟩
    simp [Question.forced, h]
  · refine ⟨(Question.mapNext n).cut (w.tape w.drawn (.mapNext n)), { w with drawn := w.drawn + 1 }, ?_, rfl, ⟨rfl, rfl, rfl⟩, ?_⟩
    · simp [Question.forced, h]
    · simp only [h, if_false, Question.cut]
      exact Nat.mod_lt _ (by omega)

def candsV (es : Array MapEntry) (since : Nat) (seen : Array Nat) : Array (Option MapEntry) :=
  (if ((es.filter fun e => !seen.contains e.born).filter (·.born < since)).isEmpty then #[none] else #[]) ++
    (((es.filter fun e => !seen.contains e.born).filter (·.born < since)) ++ ((es.filter fun e => !seen.contains e.born).filter (·.born ≥ since))).map some

theorem cands_sound {es : List (AV × AV × Nat)} {es' : Array MapEntry} (hE : ESR β es es'.toList) (since : Nat) (seen : List Nat) :
    (candsV es' since seen.toArray).size = (candsA es since seen).length ∧ ∀ i : Nat,
      (∀ e : AV × AV × Nat, (candsA es since seen)[i]? = some (some e) → ∃ e' : MapEntry, (candsV es' since seen.toArray)[i]? = some (some e') ∧ VR β e.1 e'.key ∧ VR β e.2.1 e'.val ∧ e'.born = e.2.2) ∧
      ((candsA es since seen)[i]? = some none → (candsV es' since seen.toArray)[i]? = some none) := by
  have hf1 := hE.filter (fun b => !seen.contains b)
  have hold := hf1.filter (fun b => decide (b < since))
  have hnew := hf1.filter (fun b => decide (since ≤ b))
  have hc1 : ((es'.filter fun e => !seen.toArray.contains e.born).filter (·.born < since)) = ((es'.toList.filter fun e => !seen.contains e.born).filter fun e => decide (e.born < since)).toArray := by
    obtain ⟨l⟩ := es'; simp
  have hc2 : ((es'.filter fun e => !seen.toArray.contains e.born).filter (·.born ≥ since)) = ((es'.toList.filter fun e => !seen.contains e.born).filter fun e => decide (since ≤ e.born)).toArray := by
    obtain ⟨l⟩ := es'; simp
  unfold candsV candsA
  rw [hc1, hc2]
  generalize ((es.filter fun e => !seen.contains e.2.2).filter fun e => decide (e.2.2 < since)) = old at hold
  generalize ((es.filter fun e => !seen.contains e.2.2).filter fun e => decide (since ≤ e.2.2)) = new at hnew
  generalize ((es'.toList.filter fun e => !seen.contains e.born).filter fun e => decide (e.born < since)) = old' at hold
  generalize ((es'.toList.filter fun e => !seen.contains e.born).filter fun e => decide (since ≤ e.born)) = new' at hnew
  have hcat := hold.cat hnew
  have h1 := hold.length
  have h2 := hnew.length
  have h3 : old.isEmpty = old'.isEmpty := by cases old <;> cases old' <;> simp_all
  have hmap : ∀ (j : Nat) (e : AV × AV × Nat), ((old ++ new).map some)[j]? = some (some e) → ∃ e' : MapEntry, ((old' ++ new').map some)[j]? = some (some e') ∧ VR β e.1 e'.key ∧ VR β e.2.1 e'.val ∧ e'.born = e.2.2 := by
    intro j e hj
    rw [List.getElem?_map] at hj
    obtain ⟨x, hx, hxe⟩ := opt_map hj
    simp at hxe; subst hxe
    obtain ⟨q, u, n⟩ := x
    obtain ⟨e', g1, g2, g3, g4⟩ := hcat.get hx
    exact ⟨e', by rw [List.getElem?_map, g1]; rfl, g2, g3, g4⟩
  have hnn : ∀ (j : Nat), ((old ++ new).map some)[j]? ≠ some none := by
    intro j hj
    rw [List.getElem?_map] at hj
    obtain ⟨x, _, hx⟩ := opt_map hj
    cases hx
  have hcarr : ((if old'.toArray.isEmpty then #[none] else #[]) ++ (old'.toArray ++ new'.toArray).map some) = ((if old'.isEmpty then [none] else []) ++ (old' ++ new').map some).toArray := by
    cases old' <;> simp
  rw [hcarr, h3]
  constructor
  · cases old'.isEmpty <;> simp [h1, h2]
  · intro i
    simp only [List.getElem?_toArray]
    cases old'.isEmpty with
    | false => exact ⟨fun e he => by simpa using hmap i e (by simpa using he), fun he => absurd he (by simpa using hnn i)⟩
    | true =>
      cases i with
      | zero => exact ⟨fun e he => by simp at he, fun _ => by simp⟩
      | succ i => exact ⟨fun e he => by simpa using hmap i e (by simpa using he), fun he => absurd he (by simpa using hnn i)⟩

theorem next_run {w w1 : World} {B R since clock last i : Nat} {seen : Array Nat} {es' : Array MapEntry} {u : TypeId} (hH : w.heap[B]? = some (.mapIter (some R) since seen last))
    (hH2 : w.heap[R]? = some (.map es' clock)) (hg : (!seen.isEmpty && !es'.isEmpty && es'.all (·.born ≥ last)) = false)
    (hch : (choose (.mapNext (candsV es' since seen).size)).run P w = .ok i w1) :
    (Instr.next (.pointer (some ⟨B, 0, none⟩)) false u).run P w = (match (candsV es' since seen)[i]? with
      | some (some e) => do
        setObj B (.mapIter (some R) since (seen.push e.born) clock)
        pure (.tuple #[.bool true, e.key, e.val])
      | some none => pure (.tuple #[.bool false])
      | none => stuck "Next: no such candidate" : Sem Value).run P w1 := by
  simp only [Instr.next, Sem.run_bind, getObj_run hH (by simp), Result.andThen_ok, getObj_run hH2 (by simp), hg, Bool.false_eq_true, if_false]
  have := hch
  unfold candsV at this
  rw [this]
  rfl

theorem nextA_sound {h : AHeap} {w : World} {it : AV} {it' : Value} {Q : AV × AHeap → Prop} (u : TypeId) (he : (nextA h it).all Q) (hi : VR β it it') (hr : HR β h w.heap) :
    ∃ v h' v' w', Q (v, h') ∧ (Instr.next it' false u).run P w = .ok v' w' ∧ VR β v v' ∧ TnW β h w β h' w' := by
  unfold nextA at he
  split at he
  · rename_i r
    cases hi with
    | @ptr _ _ B O N hb =>
      split at he
      · rename_i s0 sn0 l0 hg
        obtain ⟨hO, m', hH, hm⟩ := hr.obj _ _ _ _ _ hb hg
        subst hO
        cases hm
        refine ⟨_, _, .tuple #[.bool false], w, he, ?_, .tuple (.cons (.bool _) .nil), .refl hr⟩
        simp only [Instr.next, Nat.zero_add, Sem.run_bind, getObj_run hH (by simp), Result.andThen_ok, Sem.run_pure]
      · rename_i m since seen last hg
        obtain ⟨hO, m', hH, hm⟩ := hr.obj _ _ _ _ _ hb hg
        subst hO
        cases hm with
        | @map _ R O2 N2 hb2 =>
          split at he
          · rename_i es clock hgm
            obtain ⟨es', hH2, hE⟩ := hr.obj _ _ _ _ _ hb2 hgm
            split at he
            · exact he.elim
            · rename_i hno
              have hguard : (!seen.toArray.isEmpty && !es'.isEmpty && es'.all (·.born ≥ last)) = false := by
                have h1 := hE.all (fun b => decide (last ≤ b))
                have h2 := hE.length
                have h3 : (es'.all (·.born ≥ last)) = (es.all fun e => decide (last ≤ e.2.2)) := by
                  rw [h1]; obtain ⟨l⟩ := es'; simp
                have h4 : es'.isEmpty = es.isEmpty := by
                  obtain ⟨l⟩ := es'
                  cases es <;> cases l <;> simp_all
                have h5 : seen.toArray.isEmpty = seen.isEmpty := by simp
                rw [h3, h4, h5]
                simpa using hno
              obtain ⟨hlen, hrel⟩ := cands_sound hE since seen
              obtain ⟨i, w1, hch, hheap, hkp, hi⟩ := run_choose_map (P := P) (w := w) (candsV es' since seen.toArray).size
              have hrun := next_run (u := u) hH hH2 hguard hch
              have hgo : (nextGo h r m since clock seen (candsA es since seen) i).all Q := by
                split at he
                · rename_i hl
                  rw [hlen, if_pos hl] at hi
                  rw [hi]; exact he
                · rename_i hl
                  rw [hlen, if_neg hl] at hi
                  exact he i hi
              unfold nextGo at hgo
              split at hgo
              · rename_i e hce
                obtain ⟨e', g1, g2, g3, g4⟩ := (hrel i).1 e hce
                have hH1 : w1.heap[B]? = some (.mapIter (some R) since seen.toArray last) := by rw [hheap]; exact hH
                refine ⟨_, _, .tuple #[.bool true, e'.key, e'.val], { w1 with heap := w1.heap.setIfInBounds B (.mapIter (some R) since (seen.toArray.push e'.born) clock) }, hgo, ?_, .tuple (.cons (.bool _) (.cons g2 (.cons g3 .nil))), ?_⟩
                · rw [Nat.zero_add, hrun, g1]
                  simp only [Sem.run_bind, setObj_run hH1 (by simp), Result.andThen_ok, Sem.run_pure]
                · refine ⟨?_, ⟨hkp.os, hkp.tape, hkp.output⟩⟩
                  show Tn β h w.heap β _ (w1.heap.setIfInBounds B _)
                  rw [hheap]
                  refine Tn.set hr hb _ _ (by simp) ?_ ⟨_, hg, rfl⟩ ?_
                  · intro C hC'; simp [Array.getElem?_setIfInBounds]; intro e; exact absurd e.symm hC'
                  · exact ⟨rfl, some R, by rw [get_set_same _ (hr.low _ _ _ _ hb), g4]; simp, .map hb2⟩
              · rename_i hce
                have g1 := (hrel i).2 hce
                refine ⟨_, _, .tuple #[.bool false], w1, hgo, ?_, .tuple (.cons (.bool _) .nil), ⟨by rw [hheap]; exact .refl hr, hkp⟩⟩
                rw [Nat.zero_add, hrun, g1]
                rfl
              · exact hgo.elim
          · exact he.elim
      · exact he.elim
  · exact he.elim

end
end Go.AM
namespace Go.AM
section
variable {P : Program} {cf : Cfg} {β : Inj}

theorem growBy_le (n : Nat) : ∀ (r c : Nat), c ≤ 2 * n + 1024 → Builtin.growBy n r c ≤ 2 * n + 1024
  | 0, c, h => h
  | r + 1, c, h => by
    simp only [Builtin.growBy]
    split
    · exact h
    · exact growBy_le n r _ (by omega)

theorem nextcap_le {need cap : Nat} (h : cap < need) : Builtin.nextslicecap need cap ≤ 2 * need + 1024 := by
  unfold Builtin.nextslicecap
  split
  · omega
  · split
    · omega
    · exact growBy_le _ _ _ (by omega)

theorem cap_bound {need cap bytes : Nat} (h : cap < need) (h1 : need ≤ 4294967296) (h2 : bytes ≤ 4096) : ¬ (Builtin.nextslicecap need cap * bytes > 2 ^ 48) := by
  have := nextcap_le h
  have : Builtin.nextslicecap need cap * bytes ≤ (2 * 4294967296 + 1024) * 4096 := Nat.mul_le_mul (by omega) h2
  omega

def isIntD : TypeDesc → Bool
  | .int _ => true
  | _ => false

theorem not_int_matches {d : TypeDesc} {td : TD} (hd : tdOf d = td) (hn : ∀ k, td ≠ .int k) : isIntD d = false := by
  cases d <;> first | rfl | exact absurd hd.symm (hn _)

def StAt (P : Program) (w : World) (base : Option Addr) (o : Nat) (vs : List Value) (w' : World) : Prop :=
  match base with
  | some a => (storeCells (a.add o) vs).run P w = .ok () w'
  | none => w' = w

/-- An append within the room that there is. -/
theorem app_in {w w' : World} {ts : Array TypeId} {ty t u e : TypeId} {d : TypeDesc} {ti : TypeInfo} {x' : Value} {base : Option Addr} {len cap n : Nat} {vs : Array Value}
    (h0 : ts[0]? = some t) (h1 : ts[1]? = some u) (ht : P.underlying t = some (.slice e)) (hu : P.underlying u = some d) (hd : isIntD d = false)
    (hi : P.info? e = some ti) (hn : (Builtin.lenOf x').run P w = .ok n w) (hf : (Builtin.firstCells ti.size n x').run P w = .ok vs w) (hc : len + n ≤ cap)
    (hs : StAt P w base (len * ti.size) vs.toList w') :
    (Builtin.append_ ts ty #[.slice base len cap, x']).run P w = .ok (.slice base (len + n) cap) w' := by
  have e0 : (#[Value.slice base len cap, x'] : Array Value)[0]? = some (.slice base len cap) := rfl
  have e1 : (#[Value.slice base len cap, x'] : Array Value)[1]? = some x' := rfl
  cases d <;> first
    | (simp [isIntD] at hd; done)
    | (simp only [Builtin.append_, h0, h1, e0, e1, Sem.run_bind, run_und ht, Result.andThen_ok, run_size hi, run_und hu, Sem.run_pure, Bool.false_eq_true, if_false, hn, if_pos hc,
        Bool.not_false, if_true, hf]
       cases base with
       | none => simp only [StAt] at hs; subst hs; rfl
       | some a => simp only [StAt] at hs; simp only [Sem.run_bind, hs, Result.andThen_ok, Sem.run_pure])

/-- An append into a new array. -/
theorem app_new {w : World} {ts : Array TypeId} {ty t u e : TypeId} {d : TypeDesc} {ti : TypeInfo} {x' z : Value} {base : Option Addr} {len cap n : Nat} {vs old : Array Value}
    (h0 : ts[0]? = some t) (h1 : ts[1]? = some u) (ht : P.underlying t = some (.slice e)) (hu : P.underlying u = some d) (hd : isIntD d = false)
    (hi : P.info? e = some ti) (hz : ti.zero = some z) (hn : (Builtin.lenOf x').run P w = .ok n w)
    (hf : ∀ w1 : World, w1.heap = w.heap → (Builtin.firstCells ti.size n x').run P w1 = .ok vs w1)
    (ho : ∀ w1 : World, w1.heap = w.heap → (Builtin.firstCells ti.size len (.slice base len cap)).run P w1 = .ok old w1) (hc : ¬ len + n ≤ cap) (hb1 : len + n ≤ 4294967296) (hb2 : ti.bytes ≤ 4096) :
    ∃ newCap, len + n ≤ newCap ∧ (Builtin.append_ ts ty #[.slice base len cap, x']).run P w = .ok (.slice (some ⟨w.heap.size, 0, none⟩) (len + n) newCap)
      { w with drawn := w.drawn + 1, heap := w.heap.push (.cells (old ++ vs ++ Builtin.zeroCells z.cells (newCap - (len + n))) e) } := by
  have e0 : (#[Value.slice base len cap, x'] : Array Value)[0]? = some (.slice base len cap) := rfl
  have e1 : (#[Value.slice base len cap, x'] : Array Value)[1]? = some x' := rfl
  have hcap := cap_bound (show cap < len + n by omega) hb1 hb2
  have hmax : ¬ (((len + n : Nat) : Int) > IntKind.i64.max) := by
    have h4 : IntKind.i64.max = 9223372036854775807 := by decide
    rw [h4]; omega
  refine ⟨(Question.appendCap (len + n) cap e).cut (w.tape w.drawn (.appendCap (len + n) cap e)), by simp [Question.cut], ?_⟩
  have hfo := hf { w with drawn := w.drawn + 1 } rfl
  have hoo := ho { w with drawn := w.drawn + 1 } rfl
  have hzz : ∀ w1 : World, (zeroValue e).run P w1 = .ok z w1 := fun w1 => run_zero hi hz w1
  cases d <;> first
    | (simp [isIntD] at hd; done)
    | (simp only [Builtin.append_, h0, h1, e0, e1, Sem.run_bind, run_und ht, Result.andThen_ok, run_size hi, run_und hu, Sem.run_pure, Bool.false_eq_true, if_false, hn, if_neg hc,
        Bool.not_false, if_true, run_tinfo hi, hmax, false_and, hcap, run_choose, Question.forced, run_askRoom, hfo, hoo, hzz, newRow, run_newObj])

theorem zc_empty {z : Value} {sz n : Nat} (hz : z.cells.size = sz) (h : n * sz = 0) : Builtin.zeroCells z.cells n = #[] := by
  apply Array.eq_empty_of_size_eq_zero
  simp [Builtin.zeroCells, hz, h]

theorem wrap_small {m : Int} (h0 : 0 ≤ m) (h1 : m ≤ 4294967296) : IntKind.i64.wrap m = m := by
  simp [IntKind.wrap, IntKind.bits, IntKind.signed]; omega

/-- An append of zero values within the room that there is. -/
theorem app_in_z {w w' : World} {ts : Array TypeId} {ty t u e : TypeId} {k : IntKind} {ti : TypeInfo} {m : Int} {z : Value} {base : Option Addr} {len cap : Nat}
    (h0 : ts[0]? = some t) (h1 : ts[1]? = some u) (ht : P.underlying t = some (.slice e)) (hu : P.underlying u = some (.int k))
    (hi : P.info? e = some ti) (hz : ti.zero = some z) (hzs : z.cells.size = ti.size) (hm0 : 0 ≤ m) (hm1 : m ≤ 4294967296) (hb2 : ti.bytes ≤ 4096) (hc : len + m.toNat ≤ cap)
    (hs : StAt P w base (len * ti.size) (Builtin.zeroCells z.cells m.toNat).toList w') :
    (Builtin.append_ ts ty #[.slice base len cap, .int .i64 m]).run P w = .ok (.slice base (len + m.toNat) cap) w' := by
  have e0 : (#[Value.slice base len cap, .int .i64 m] : Array Value)[0]? = some (.slice base len cap) := rfl
  have e1 : (#[Value.slice base len cap, .int .i64 m] : Array Value)[1]? = some (.int .i64 m) := rfl
  have hw := wrap_small hm0 hm1
  have hlt : ¬ (m < 0) := by omega
  have hbb : ¬ (m * (ti.bytes : Int) > 2 ^ 48) := by
    have : m * (ti.bytes : Int) ≤ 4294967296 * 4096 := Int.mul_le_mul hm1 (by omega) (by omega) (by omega)
    omega
  by_cases hn0 : m.toNat * ti.size = 0
  · rw [zc_empty hzs hn0] at hs
    simp only [Builtin.append_, h0, h1, e0, e1, Sem.run_bind, run_und ht, Result.andThen_ok, run_size hi, run_und hu, Sem.run_pure, asInt, asIntOf, hw, if_neg hlt, run_tinfo hi, if_neg hbb,
      if_pos hc, Bool.not_true, Bool.false_eq_true, if_false, if_true, if_pos hn0]
    cases base with
    | none => simp only [StAt] at hs; subst hs; rfl
    | some a => simp only [StAt] at hs; simp only [Sem.run_bind, hs, Result.andThen_ok, Sem.run_pure]
  · simp only [Builtin.append_, h0, h1, e0, e1, Sem.run_bind, run_und ht, Result.andThen_ok, run_size hi, run_und hu, Sem.run_pure, asInt, asIntOf, hw, if_neg hlt, run_tinfo hi, if_neg hbb,
      if_pos hc, Bool.not_true, Bool.false_eq_true, if_false, if_true, if_neg hn0, run_zero hi hz]
    cases base with
    | none => simp only [StAt] at hs; subst hs; rfl
    | some a => simp only [StAt] at hs; simp only [Sem.run_bind, hs, Result.andThen_ok, Sem.run_pure]

/-- An append of zero values into a new array. -/
theorem app_new_z {w : World} {ts : Array TypeId} {ty t u e : TypeId} {k : IntKind} {ti : TypeInfo} {m : Int} {z : Value} {base : Option Addr} {len cap : Nat} {old : Array Value}
    (h0 : ts[0]? = some t) (h1 : ts[1]? = some u) (ht : P.underlying t = some (.slice e)) (hu : P.underlying u = some (.int k))
    (hi : P.info? e = some ti) (hz : ti.zero = some z) (hzs : z.cells.size = ti.size) (hm0 : 0 ≤ m) (hm1 : m ≤ 4294967296)
    (ho : ∀ w1 : World, w1.heap = w.heap → (Builtin.firstCells ti.size len (.slice base len cap)).run P w1 = .ok old w1) (hc : ¬ len + m.toNat ≤ cap) (hb1 : len + m.toNat ≤ 4294967296)
    (hb2 : ti.bytes ≤ 4096) :
    ∃ newCap, len + m.toNat ≤ newCap ∧ (Builtin.append_ ts ty #[.slice base len cap, .int .i64 m]).run P w = .ok (.slice (some ⟨w.heap.size, 0, none⟩) (len + m.toNat) newCap)
      { w with drawn := w.drawn + 1, heap := w.heap.push (.cells (old ++ Builtin.zeroCells z.cells m.toNat ++ Builtin.zeroCells z.cells (newCap - (len + m.toNat))) e) } := by
  have e0 : (#[Value.slice base len cap, .int .i64 m] : Array Value)[0]? = some (.slice base len cap) := rfl
  have e1 : (#[Value.slice base len cap, .int .i64 m] : Array Value)[1]? = some (.int .i64 m) := rfl
  have hw := wrap_small hm0 hm1
  have hlt : ¬ (m < 0) := by omega
  have hbb : ¬ (m * (ti.bytes : Int) > 2 ^ 48) := by
    have : m * (ti.bytes : Int) ≤ 4294967296 * 4096 := Int.mul_le_mul hm1 (by omega) (by omega) (by omega)
    omega
  have hcap := cap_bound (show cap < len + m.toNat by omega) hb1 hb2
  have hmax : ¬ (((len + m.toNat : Nat) : Int) > IntKind.i64.max) := by
    have h4 : IntKind.i64.max = 9223372036854775807 := by decide
    rw [h4]; omega
  refine ⟨(Question.appendCap (len + m.toNat) cap e).cut (w.tape w.drawn (.appendCap (len + m.toNat) cap e)), by simp [Question.cut], ?_⟩
  have hoo := ho { w with drawn := w.drawn + 1 } rfl
  have hzz : ∀ w1 : World, (zeroValue e).run P w1 = .ok z w1 := fun w1 => run_zero hi hz w1
  by_cases hn0 : m.toNat * ti.size = 0
  · rw [zc_empty hzs hn0]
    simp only [Builtin.append_, h0, h1, e0, e1, Sem.run_bind, run_und ht, Result.andThen_ok, run_size hi, run_und hu, Sem.run_pure, asInt, asIntOf, hw, if_neg hlt, run_tinfo hi, if_neg hbb,
      if_neg hc, Bool.not_true, Bool.false_eq_true, if_false, if_true, if_pos hn0, hmax, false_and, hcap, run_choose, Question.forced, run_askRoom, hoo, hzz, newRow, run_newObj]
  · simp only [Builtin.append_, h0, h1, e0, e1, Sem.run_bind, run_und ht, Result.andThen_ok, run_size hi, run_und hu, Sem.run_pure, asInt, asIntOf, hw, if_neg hlt, run_tinfo hi, if_neg hbb,
      if_neg hc, Bool.not_true, Bool.false_eq_true, if_false, if_true, if_neg hn0, hmax, false_and, hcap, run_choose, Question.forced, run_askRoom, hoo, hzz, newRow, run_newObj]
end
end Go.AM
namespace Go.AM
section
variable {P : Program} {cf : Cfg} {β : Inj}

/-- A block whose cells are another block's now. -/
theorem Tn.move {h : AHeap} {H : Array Obj} (hr : HR β h H) {b B O N : Nat} (hb : β b = some (B, O, N)) (hl : h.live b) (o : AObj) (O2 : Nat)
    (H' : Array Obj) (hs : H'.size = H.size) (hother : ∀ C, C ≠ B → H'[C]? = H[C]?) (ho : ∀ β', β.le β' → OR β' H' B O2 N o) :
    Tn β h H (β.add h.next (B, O2, N)) ((h.set b .gone).push o) H' := by
  have hf := hr.fresh
  have hle := Inj.le_add (x := (B, O2, N)) hf
  have hbn : b < h.next := hr.dom _ _ hb
  have getc : ∀ c, ((h.set b .gone).push o).get c = if c = h.next then some o else if c = b then some .gone else h.get c := by
    intro c; rw [AHeap.get_push, AHeap.get_set]; rfl
  have livec : ∀ c, ((h.set b .gone).push o).live c → c ≠ h.next → c ≠ b ∧ h.live c := by
    intro c hc hcn
    obtain ⟨x, hx, hxl⟩ := hc
    rw [getc, if_neg hcn] at hx
    split at hx
    · simp at hx; subst hx; simp [AObj.live] at hxl
    · rename_i hne; exact ⟨hne, x, hx, hxl⟩
  refine ⟨hle, ?_, by simp, ?_, by omega, ?_, ?_⟩
  · intro c x e
    unfold Inj.add at e
    split at e
    · exact .inr (by omega)
    · exact .inl e
  · refine ⟨?_, ?_, ?_, ?_, ?_⟩
    · intro c hc
      simp only [AHeap.next_push, AHeap.next_set] at hc
      rw [getc, if_neg (by omega), if_neg (by omega)]
      exact hr.top _ (by omega)
    · intro c x e
      unfold Inj.add at e
      simp only [AHeap.next_push, AHeap.next_set]
      split at e
      · omega
      · have := hr.dom _ _ e; omega
    · intro c C M K e
      unfold Inj.add at e
      rw [hs]
      split at e
      · simp at e; have := hr.low _ _ _ _ hb; omega
      · exact hr.low _ _ _ _ e
    · intro c d C M K M' K' hc hd lc ld
      unfold Inj.add at hc hd
      split at hc <;> split at hd
      · omega
      · rename_i _ hdn
        simp at hc
        obtain ⟨hdb, ld'⟩ := livec d ld hdn
        obtain ⟨rfl, _, _⟩ := hc
        exact absurd (hr.inj _ _ _ _ _ _ _ hd hb ld' hl) hdb
      · rename_i hcn _
        simp at hd
        obtain ⟨hcb, lc'⟩ := livec c lc hcn
        obtain ⟨rfl, _, _⟩ := hd
        exact absurd (hr.inj _ _ _ _ _ _ _ hc hb lc' hl) hcb
      · rename_i hcn hdn
        exact hr.inj _ _ _ _ _ _ _ hc hd (livec c lc hcn).2 (livec d ld hdn).2
    · intro c C M K x hc hx
      unfold Inj.add at hc
      rw [getc] at hx
      split at hc
      · rename_i e
        rw [if_pos e] at hx
        simp at hc hx
        obtain ⟨rfl, rfl, rfl⟩ := hc
        subst hx
        exact ho _ hle
      · rename_i e
        rw [if_neg e] at hx
        split at hx
        · simp at hx; subst hx; trivial
        · rename_i hcb
          by_cases hCB : C = B
          · subst hCB
            have hd : x.live = false := by
              cases hxl : x.live with
              | false => rfl
              | true => exact absurd (hr.inj _ _ _ _ _ _ _ hc hb ⟨x, hx, hxl⟩ hl) hcb
            cases x <;> simp [AObj.live] at hd
            trivial
          · exact ((hr.obj _ _ _ _ _ hc hx).heap (hother _ hCB)).mono hle
  · intro c C M K e l
    unfold Inj.add at e
    split at e
    · simp at e
      obtain ⟨rfl, _, _⟩ := e
      exact .inl ⟨b, O, N, hb, hl⟩
    · rename_i hcn
      exact .inl ⟨c, M, K, e, (livec c l hcn).2⟩
  · intro C hC hn
    exact hother _ (fun e => hn b O N (e ▸ hb) hl)

/-- What an append comes to in the model. -/
structure AppRun (P : Program) (w : World) (run : Sem Value) (e : TypeId) (sz len cap n : Nat) (base : Option Addr) (vs : Array Value) : Prop where
  inn : len + n ≤ cap → ∀ w', StAt P w base (len * sz) vs.toList w' →
    run.run P w = .ok (.slice base (len + n) cap) w'
  new : ¬ len + n ≤ cap → ∀ old : Array Value, (∀ w1 : World, w1.heap = w.heap → (Builtin.firstCells sz len (.slice base len cap)).run P w1 = .ok old w1) →
    ∃ (newCap : Nat) (rest : Array Value), len + n ≤ newCap ∧ rest.size = (newCap - (len + n)) * sz ∧
      run.run P w = .ok (.slice (some ⟨w.heap.size, 0, none⟩) (len + n) newCap) { w with drawn := w.drawn + 1, heap := w.heap.push (.cells (old ++ vs ++ rest) e) }

theorem OR_pre {cs : List AV} {c r : Array Value} {e : TypeId} {H : Array Obj} {B : Nat} (hH : H[B]? = some (.cells (c ++ r) e (0, 0))) (fz : Bool)
    (h : VRs β cs c.toList) (h1 : ∀ x ∈ c.toList, x.oneCell' = true) : OR β H B 0 (c ++ r).size (.cells cs fz) := by
  refine ⟨c ++ r, e, 0, 0, hH, rfl, .inl rfl, ?_, ?_⟩
  · have := h.length; simp at this ⊢; omega
  · intro i v hv
    obtain ⟨v', g1, g2, g3⟩ := CellsR.of h h1 i v hv
    refine ⟨v', ?_, g2, g3⟩
    rw [Nat.zero_add] at g1 ⊢
    rw [Array.getElem?_append_left (Array.getElem?_eq_some_iff.1 g1).1]
    exact g1

theorem putV_lt : ∀ (vs l : List Value) (i j : Nat), j < i → (putV l i vs)[j]? = l[j]?
  | [], _, _, _, _ => rfl
  | v :: vs, l, i, j, h => by
    simp only [putV]
    rw [putV_lt vs _ (i + 1) j (by omega), List.getElem?_set_ne (by omega)]

theorem putV_at : ∀ (vs l : List Value) (i k : Nat), i + vs.length ≤ l.length → k < vs.length → (putV l i vs)[i + k]? = vs[k]?
  | [], _, _, _, _, h => by simp at h
  | v :: vs, l, i, k, hl, h => by
    simp only [putV]
    simp only [List.length_cons] at hl h
    cases k with
    | zero =>
      rw [putV_lt vs _ (i + 1) (i + 0) (by omega)]
      simp [show i < l.length by omega]
    | succ k =>
      have := putV_at vs (l.set i v) (i + 1) k (by simp; omega) (by omega)
      rw [show i + (k + 1) = i + 1 + k by omega, this]
      simp

theorem appendTo_sound {h h' : AHeap} {w : World} {j : TI} {s v : AV} {n len cap' : Nat} {base : Option Addr} {new : List AV} {vs : Array Value} {e : TypeId} {run : Sem Value}
    (he : appendTo h j s n new = some (v, h')) (hs : VR β s (.slice base len cap')) (hv : VRs β new vs.toList) (h1 : ∀ x ∈ vs.toList, x.oneCell' = true)
    (hn0 : n = 0 → vs = #[]) (hr : HR β h w.heap) (ha : AppRun P w run e j.size len cap' n base vs) :
    ∃ v' w' β', run.run P w = .ok v' w' ∧ VR β' v v' ∧ TnW β h w β' h' w' := by
  unfold appendTo at he
  split at he
  · rename_i abase len0 cap sz ex
    have hlen : len0 = len := by cases hs <;> rfl
    subst hlen
    split at he
    · rename_i hz
      subst hz
      split at he
      · rename_i hlc
        simp at he
        obtain ⟨rfl, rfl⟩ := he
        have hvs := hn0 rfl
        subst hvs
        have hlc' : len0 ≤ cap' := by cases hs <;> omega
        refine ⟨.slice base (len0 + 0) cap', w, β, ha.inn (by omega) w ?_, hs, .refl hr⟩
        cases base with
        | none => rfl
        | some a => rfl
      · simp at he
    · rename_i hz
      split at he
      · simp at he
      · rename_i hb0
        have hb0 := Decidable.not_not.1 hb0
        obtain ⟨b1, b2, b3, b4, b5⟩ := hb0
        cases hs with
        | sliceNil =>
          simp only at he
          split at he
          · simp at he
            obtain ⟨rfl, rfl⟩ := he
            obtain ⟨nc, rest, q1, q2, q3⟩ := ha.new (by omega) #[] (fun w1 _ => rfl)
            refine ⟨_, _, β.add h.next (w.heap.size, 0, (vs ++ rest).size), q3, ?_, ?_⟩
            · have : (0 : Nat) + n = n := by omega
              rw [this] at q1 q2 ⊢
              refine .slice (B := w.heap.size) (O := 0) (N := (vs ++ rest).size) (by simp [Inj.add]) q1 (by simp) q1 (.inr ⟨rfl, ?_⟩)
              have hvl : vs.size = n * j.size := by rw [← b3, hv.length]; simp
              simp only [Array.size_append, hvl, q2, Nat.zero_add]
              rw [← Nat.add_mul]
              exact Nat.le_of_eq (by congr 1; omega)
            · have hH : (#[] ++ vs ++ rest) = vs ++ rest := by simp
              refine ⟨?_, ⟨rfl, rfl, rfl⟩⟩
              rw [hH]
              exact Tn.push hr _ _ _ fun β' hle => OR_pre (e := e) (by simp) false (hv.mono hle) h1
          · simp at he
        | @slice b o B O N _ _ _ _ _ a hb hcc hxx hll hab =>
          simp only at he
          split at he
          · simp at he
          · rename_i hsz
            have hsz : j.size = sz := by omega
            have hvl : vs.size = n * sz := by rw [← hsz, ← b3, hv.length]; simp
            split at he
            · rename_i hin
              obtain ⟨h2, hst, he⟩ := opt_map he
              simp at he
              obtain ⟨rfl, rfl⟩ := he
              rcases hab with hab | ⟨rfl, hN⟩
              · omega
              · have hst2 := stCells_sound (P := P) (w := w) hst hr hb hv h1
                obtain ⟨w', g1, g2⟩ := hst2
                refine ⟨_, w', β, ha.inn (by omega) w' ?_, ?_, g2⟩
                · simp only [StAt, add_none, hsz]
                  rw [← Nat.add_assoc] at g1
                  exact g1
                · exact .slice hb hcc hxx (by omega) (.inr ⟨rfl, hN⟩)
            · rename_i hnin
              -- what is there
              have hold : ∀ (old : List AV), (if len0 = 0 then some [] else ldCells h (b, o) (len0 * sz)) = some old →
                  ∃ ov : Array Value, (∀ w1 : World, w1.heap = w.heap → (Builtin.firstCells j.size len0 (.slice (some a) len0 cap')).run P w1 = .ok ov w1) ∧ VRs β old ov.toList ∧ (∀ x ∈ ov.toList, x.oneCell' = true) ∧
                    ov.size = len0 * sz := by
                intro old ho
                split at ho
                · rename_i hl0
                  simp at ho; subst ho; subst hl0
                  exact ⟨#[], fun w1 _ => by simp [Builtin.firstCells, loadCells, loadCellsFrom], .nil, by simp, by simp⟩
                · rename_i hl0
                  rcases hab with hab | ⟨rfl, hN⟩
                  · omega
                  · obtain ⟨ov, g1, g2, g3⟩ := ldCells_sound (P := P) (w := w) ho hr hb
                    refine ⟨ov, fun w1 hw1 => ?_, g2, g3, ?_⟩
                    · rw [hsz]; simpa [Builtin.firstCells] using g1 w1 hw1
                    · rw [← Array.length_toList, ← g2.length]
                      unfold ldCells at ho
                      split at ho
                      · split at ho
                        · injection ho with ho; subst ho; simp; omega
                        · simp at ho
                      · simp at ho
              have fresh : ∀ (old : List AV), (if len0 = 0 then some [] else ldCells h (b, o) (len0 * sz)) = some old → ¬ len0 + n ≤ cap' → ∀ (h2 : AHeap) (fz : Bool), HR β h2 w.heap →
                  ∃ v' w' β', run.run P w = .ok v' w' ∧ VR β' (.slice (some (h2.next, 0)) (len0 + n) (len0 + n) sz false) v' ∧ TnW β h2 w β' (h2.push (.cells (old ++ new) fz)) w' := by
                intro old ho hnc h2 fz hr2
                obtain ⟨ov, k1, k2, k3, k4⟩ := hold old ho
                obtain ⟨nc, rest, q1, q2, q3⟩ := ha.new hnc ov k1
                refine ⟨_, _, β.add h2.next (w.heap.size, 0, (ov ++ vs ++ rest).size), q3, ?_, ?_⟩
                · refine .slice (B := w.heap.size) (O := 0) (N := (ov ++ vs ++ rest).size) (by simp [Inj.add]) q1 (by simp) q1 (.inr ⟨rfl, ?_⟩)
                  simp only [Array.size_append, hvl, q2, k4, Nat.zero_add, hsz]
                  rw [← Nat.add_mul, ← Nat.add_mul]
                  exact Nat.le_of_eq (by congr 1; omega)
                · refine ⟨?_, ⟨rfl, rfl, rfl⟩⟩
                  exact Tn.push hr2 _ _ _ fun β' hle => OR_pre (e := e) (by simp) fz (by simpa using (k2.mono hle).append (hv.mono hle))
                    (by intro x hx; simp at hx; rcases hx with hx | hx
                        · exact k3 x (by simpa using hx)
                        · exact h1 x (by simpa using hx))
              split at he
              · rename_i hex
                obtain ⟨old, ho, he⟩ := opt_map he
                simp at he
                obtain ⟨rfl, rfl⟩ := he
                have := hxx hex
                exact fresh old ho (by omega) h false hr
              · rename_i hex
                split at he
                · rename_i cs0 fz hg
                  obtain ⟨old, ho, he⟩ := opt_map he
                  simp at he
                  obtain ⟨rfl, rfl⟩ := he
                  have ho' : (if len0 = 0 then some [] else ldCells h (b, o) (len0 * sz)) = some old := by
                    split
                    · rename_i hl0
                      subst hl0
                      unfold ldCells at ho
                      rw [hg] at ho
                      simp at ho
                      simpa using ho.2
                    · exact ho
                  by_cases hnc : len0 + n ≤ cap'
                  · -- in place
                    rcases hab with hab | ⟨rfl, hN⟩
                    · omega
                    · obtain ⟨c, e1, lo, hi', hH, hNc, hfr, hOc, hC⟩ := hr.obj _ _ _ _ _ hb hg
                      have hB := hr.low _ _ _ _ hb
                      have hbd : (len0 + n) * sz ≤ cap' * sz := Nat.mul_le_mul_right _ hnc
                      rw [Nat.add_mul] at hbd
                      have hf' : lo = hi' ∨ c.size ≤ lo := by rcases hfr with hf | hf <;> omega
                      have hst := storeCells_run (P := P) B (O + o + len0 * sz) vs.toList 0 w c e1 lo hi' hH hf' (by simp; omega) h1
                      have hol : old.length = len0 * sz := by
                        unfold ldCells at ho
                        rw [hg] at ho
                        simp only at ho
                        split at ho
                        · injection ho with ho; subst ho; simp; omega
                        · simp at ho
                      refine ⟨_, _, β.add h.next (B, O + o, N), ha.inn hnc _ (by simp only [StAt, add_none, hsz]; exact hst), ?_, ?_⟩
                      · exact .slice (B := B) (O := O + o) (N := N) (by simp [Inj.add]) (by omega) (by simp) (by omega) (.inr ⟨rfl, by omega⟩)
                      · refine ⟨?_, ⟨rfl, rfl, rfl⟩⟩
                        show Tn β h w.heap _ _ (w.heap.setIfInBounds B _)
                        refine Tn.move hr hb ⟨_, hg, rfl⟩ _ _ _ (by simp) ?_ ?_
                        · intro C hC'; simp [Array.getElem?_setIfInBounds]; intro e; exact absurd e.symm hC'
                        · intro β' hle
                          refine ⟨(putV c.toList (O + o + len0 * sz + 0) vs.toList).toArray, e1, lo, hi', get_set_same _ hB, by simp [putV_length, hNc], hfr, ?_, ?_⟩
                          · have := hv.length; simp at this ⊢; omega
                          · intro i x hx
                            by_cases hi : i < len0 * sz
                            · rw [List.getElem?_append_left (by omega)] at hx
                              unfold ldCells at ho
                              rw [hg] at ho
                              simp only at ho
                              split at ho
                              · injection ho with ho
                                subst ho
                                rw [List.getElem?_take, if_pos hi, List.getElem?_drop] at hx
                                obtain ⟨v', g1, g2, g3⟩ := hC _ _ hx
                                refine ⟨v', ?_, g2.mono hle, g3⟩
                                rw [List.getElem?_toArray, putV_lt _ _ _ _ (by omega), ← g1]
                                simp [Nat.add_assoc]
                              · simp at ho
                            · rw [List.getElem?_append_right (by omega)] at hx
                              obtain ⟨v', g1, g2⟩ := hv.get hx
                              refine ⟨v', ?_, g2.mono hle, h1 _ (List.mem_of_getElem? g1)⟩
                              have hk : i - old.length < vs.toList.length := (List.getElem?_eq_some_iff.1 g1).1
                              have := putV_at vs.toList c.toList (O + o + len0 * sz) (i - old.length) (by simp; omega) hk
                              rw [List.getElem?_toArray, Nat.add_zero, ← g1, ← this]
                              congr 1; omega
                  · -- a new array
                    have hr2 : HR β (h.set b .gone) w.heap := (Tn.set hr hb .gone w.heap rfl (fun _ _ => rfl) ⟨_, hg, rfl⟩ trivial).rel
                    obtain ⟨v', w', β', g1, g2, g3⟩ := fresh old ho' hnc (h.set b .gone) fz hr2
                    exact ⟨v', w', β', g1, g2, (Tn.set hr hb .gone w.heap rfl (fun _ _ => rfl) ⟨_, hg, rfl⟩ trivial).trans g3.toTn, g3.kp⟩
                · simp at he
  · simp at he
end
end Go.AM
namespace Go.AM
section
variable {P : Program} {cf : Cfg} {β : Inj}

theorem zeroA_some {i : TI} {zt : Option Value} (h : (zeroA i).isSome) (hz : i.zero = .dead ∨ ∃ z, zt = some z ∧ constAV z = i.zero) : ∃ z, zt = some z ∧ constAV z = i.zero := by
  rcases hz with hz | hz
  · unfold zeroA at h; rw [hz] at h; simp at h
  · exact hz

theorem zcells_size {i : TI} {z : Value} (h : i.zcells = true) (hz : constAV z = i.zero) : z.cells.size = i.size := by
  unfold TI.zcells at h
  split at h
  · rename_i cs hcs
    rw [← hz] at hcs
    have := (VR.cells (constAV_sound (fun _ => none) z) hcs).1.length
    simp at h this
    omega
  · simp at h

theorem appendA_sound (hc : RdOk P cf) {h h' : AHeap} {w : World} {ts : Array TypeId} {args : List AV} {args' : Array Value} {v : AV} (u0 : TypeId)
    (he : appendA cf h ts.toList args = some (v, h')) (ha : VRs β args args'.toList) (hr : HR β h w.heap) :
    ∃ v' w' β', (Builtin.append_ ts u0 args').run P w = .ok v' w' ∧ VR β' v v' ∧ TnW β h w β' h' w' := by
  unfold appendA at he
  split at he
  · rename_i t u s x hts
    replace he := opt_do he
    obtain ⟨i, hi, he⟩ := he
    replace he := opt_do he
    obtain ⟨k, hk, he⟩ := he
    obtain ⟨d0, ti, hu, hinf, hd, hs, _⟩ := hc.ty _ _ hi
    obtain ⟨dk, tk, huk, hinfk, hdk, hsk, _⟩ := hc.ty _ _ hk
    split at he
    · rename_i e hd'
      have := tdOf_slice (hd.trans hd'); subst this
      replace he := opt_do he
      obtain ⟨j, hj, he⟩ := he
      obtain ⟨d2, ti2, hu2, hinf2, hd2, hs2, hby2, hzz⟩ := hc.ty _ _ hj
      have h0 : ts[0]? = some t := by rw [← Array.getElem?_toList, hts]; rfl
      have h1 : ts[1]? = some u := by rw [← Array.getElem?_toList, hts]; rfl
      obtain ⟨l'⟩ := args'
      cases ha with
      | cons hsv ha => cases ha with
        | cons hxv ha => cases ha with
          | nil =>
            rename_i sv xv
            have hsl : ∀ {j : TI} {n : Nat} {new : List AV}, appendTo h j s n new = some (v, h') → ∃ base len cap, sv = .slice base len cap := by
              intro j n new hap
              unfold appendTo at hap
              split at hap
              · cases hsv <;> exact ⟨_, _, _, rfl⟩
              · simp at hap
            split at he
            · -- zero values
              rename_i kk m hdk'
              have := tdOf_int (hdk.trans hdk'); subst this
              split at he
              · rename_i hm0
                replace he := opt_do he
                obtain ⟨z, hz, he⟩ := he
                split at he
                · rename_i hb
                  obtain ⟨base, len, cap, rfl⟩ := hsl he
                  cases hxv
                  obtain ⟨zv, hz1, hzr, hz1c⟩ := zero_cells hz hzz β
                  have hzs : zv.cells.size = ti2.size := by rw [hs2, ← hb.1, hzr.length]; simp
                  obtain ⟨r1, r2⟩ := rep_sound hzr hz1c m.toNat
                  refine appendTo_sound (e := e) (vs := Builtin.zeroCells zv.cells m.toNat) he hsv r1 r2 (fun h0 => by rw [h0]; simp [Builtin.zeroCells]) hr ?_
                  constructor
                  · intro hin w' hst
                    exact app_in_z h0 h1 hu huk hinf2 hz1 hzs hm0 hb.2.1 (by rw [hby2]; exact hb.2.2) hin (by rw [hs2]; exact hst)
                  · intro hin old hold
                    have hb1 : len + m.toNat ≤ 4294967296 := by
                      unfold appendTo at he
                      split at he
                      · split at he
                        · rename_i hn0
                          exfalso
                          apply hin
                          cases hsv <;> omega
                        · split at he
                          · simp at he
                          · rename_i hbb
                            have hbb := Decidable.not_not.1 hbb
                            have hl := hbb.1
                            cases hsv <;> omega
                      · simp at he
                    obtain ⟨nc, g1, g2⟩ := app_new_z (P := P) (w := w) (ty := u0) h0 h1 hu huk hinf2 hz1 hzs hm0 hb.2.1 (by rw [hs2]; exact hold) hin hb1 (by rw [hby2]; exact hb.2.2)
                    exact ⟨nc, _, g1, by simp [Builtin.zeroCells, hzs, hs2], g2⟩
                · simp at he
              · simp at he
            · simp at he
            · rename_i hnz _
              replace he := opt_do he
              obtain ⟨n, hn, he⟩ := he
              replace he := opt_do he
              obtain ⟨new, hnew, he⟩ := he
              obtain ⟨base, len, cap, rfl⟩ := hsl he
              have hni : isIntD dk = false := not_int_matches hdk (fun kk h => hnz kk h)
              obtain ⟨vs, g1, g2, g3⟩ := src_sound (P := P) (w := w) hnew hxv hr
              have hl := srcLen_sound (P := P) (w := w) hn hxv
              have hvz : n = 0 → vs = #[] := by
                intro h0
                subst h0
                have : new = [] := by
                  unfold srcCells at hnew
                  split at hnew
                  · simpa using hnew.symm
                  · simpa using hnew.symm
                  · simp [bytesAV] at hnew; exact hnew
                  · simp at hnew
                subst this
                have := g2.length
                exact Array.eq_empty_of_size_eq_zero (by simpa using this.symm)
              refine appendTo_sound (e := e) (vs := vs) he hsv g2 g3 hvz hr ?_
              constructor
              · intro hin w' hst
                exact app_in h0 h1 hu huk hni hinf2 hl (by rw [hs2]; exact g1 w rfl) hin (by rw [hs2]; exact hst)
              · intro hin old hold
                have hbd : len + n ≤ 4294967296 ∧ j.bytes ≤ 4096 ∧ (zeroA j).isSome ∧ j.zcells = true := by
                  unfold appendTo at he
                  split at he
                  · split at he
                    · rename_i hn0
                      exfalso
                      apply hin
                      cases hsv <;> omega
                    · split at he
                      · simp at he
                      · rename_i hbb
                        have hbb := Decidable.not_not.1 hbb
                        have hl := hbb.1
                        refine ⟨by cases hsv <;> omega, hbb.2.1, hbb.2.2.2.1, hbb.2.2.2.2⟩
                  · simp at he
                obtain ⟨zv, hz1, hz2⟩ := zeroA_some hbd.2.2.1 hzz
                have hzs := zcells_size hbd.2.2.2 hz2
                obtain ⟨nc, q1, q2⟩ := app_new (P := P) (w := w) (ty := u0) h0 h1 hu huk hni hinf2 hz1 hl (by rw [hs2]; exact g1) (by rw [hs2]; exact hold) hin hbd.1 (by rw [hby2]; exact hbd.2.1)
                exact ⟨nc, _, q1, by simp [Builtin.zeroCells, hzs], q2⟩
    · simp at he
  · simp at he
end
end Go.AM
